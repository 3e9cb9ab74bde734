/- Laws and contracts that the card of this claim stands on, part 2. No condition of ours. -/
import Derived.Test.YtlgfpiiafagihaaGreatDoorQd0
set_option maxRecDepth 100000
set_option maxHeartbeats 4000000
namespace Go.Proofs.YtlgfpiiafagihaaGreatDoor
open Go.RowKit
theorem mD (n:Nat):(hi n).data.toList=((wds n).drop 1).flatMap b8:=by
 unfold hi wds
 rw[uS _ _ oM,AN]
theorem lz (l:List Nat):(l.flatMap b8).length=8*l.length:=by
 induction l with
 | nil=>rfl
 | cons x l ih=>rw[List.flatMap_cons,List.length_append,ih,jp,List.length_cons];omega
theorem ib (n:Nat):(hi n).size=8*((wds n).length-1):=by
 have:(hi n).size=(hi n).data.toList.length:=by rw[Array.length_toList];rfl
 rw[this,mD,lz,List.length_drop]
theorem ms:∀ (l:List Nat) (j k:Nat),j<l.length→k<8→(l.flatMap b8).getD (8*j+k) 0=(b8 (l.getD j 0)).getD k 0
  | [],j,k,hj,_=>by simp at hj
  | x::l,0,k,hj,hk=>by
    rw[List.flatMap_cons]
    simp only[List.getD_eq_getElem?_getD]
    rw[List.getElem?_append_left (by rw[jp];omega)]
    simp
  | x::l,j+1,k,hj,hk=>by
    rw[List.flatMap_cons,List.getD_cons_succ,←ms l j k (by simpa using hj) hk]
    simp only[List.getD_eq_getElem?_getD]
    rw[List.getElem?_append_right (by rw[jp];omega),jp]
    congr 2
    omega
theorem Ci (x k:Nat)(hk:k<8):((b8 x).getD k 0).toNat=x/256^k%256:=by
 unfold b8
 simp only[List.getD_eq_getElem?_getD,List.getElem?_map,List.getElem?_range hk]
 rfl
theorem CP (n j k:Nat)(hj:j+1<(wds n).length)(hk:k<8):aF (hi n) (8*j+k)=(wds n).getD (j+1) 0/256^k%256:=by
 unfold aF
 rw[mD,ms _ _ _ (by rw[List.length_drop];omega) hk,Ci _ _ hk,bC,Nat.add_comm 1 j]
theorem GD {s:ByteArray}{x:Nat}(hx:x<18446744073709551616)(h:∀ k,k<8→aF s k=x/256^k%256):wv s=x:=by
 unfold wv
 rw[h 0 oM,h 1 oM,h 2 oM,h 3 oM,h 4 oM,h 5 oM,h 6 oM,h 7 oM]
 simp only[Nat.reducePow,Nat.div_one]
 omega
theorem iA (n j:Nat)(hj:j+1<(wds n).length):wv ((hi n).extract (8*j) (hi n).size)=(wds n).getD (j+1) 0 :=
 GD (mM n _) (fun k hk=>by rw[nY,CP n j k hj hk])
theorem eh {n:Nat}(h:n<18446744073709551616):hi n=⟨#[]⟩:=ki h
theorem dJ {n:Nat}(h:18446744073709551616≤n):2≤(wds n).length:=by
 rcases Nat.lt_or_ge (wds n).length 2 with h1|h1
 ·have h2:=iM (b:=18446744073709551616) kD n
  have:(18446744073709551616:Nat)^(iC 18446744073709551616 n).length≤18446744073709551616^1:=Nat.pow_le_pow_right kD (by show (wds n).length≤1;omega)
  omega
 ·exact h1
theorem eN {n:Nat}(h:18446744073709551616≤n):(hi n).size≠0:=by rw[ib];have:=dJ h;omega
theorem jv {n:Nat}(h0:0<n)(h:n<18446744073709551616):wds n=[n]:=by
 unfold wds
 rw[ei kD h0,Nat.mod_eq_of_lt h,Nat.div_eq_of_lt h,iR]
theorem kj:wds 0=[]:=rfl
theorem jR {n:Nat}:0<(wds n).length↔0<n:=rj kD
theorem pA (n:Nat):lo n=(((wds n).getD 0 0:Nat):Int):=by
 unfold lo wds
 rcases Nat.eq_zero_or_pos n with h|h
 ·subst h;rfl
 ·rw[ei kD h];rfl
theorem mO {l:List Nat}(h:Wd l):wds (aA l)=l.take (tl l l.length):=CH kD h
theorem kP {n:Nat}(h:0<n):(wds n).getD ((wds n).length-1) 0≠0:=ny kD n h
theorem Ge {n:Nat}{l:List UInt8}(h:l=((wds n).drop 1).flatMap b8):(⟨l.toArray⟩:ByteArray)=hi n:=by
 have:(hi n).data.toList=l:=by rw[mD,h]
 cases e:hi n with
 | mk d=>rw[e] at this;rw[←this]
theorem du (n:Nat):n<18446744073709551616^(wds n).length:=iM kD n
theorem ce {a b:Nat}(h:a≤b):(wds a).length≤(wds b).length:=dI kD (Nat.lt_of_le_of_lt h (du b))
theorem gN {a b:Nat}(k:Nat)(h:a<2^k):a ||| b*2^k=a+b*2^k:=by
 have:=Nat.two_pow_add_eq_or_of_lt h b;rw[Nat.or_comm,Nat.mul_comm b,←this];omega
def bT (a b:Nat):Int:=if a<b then -1 else if b<a then 1 else 0
theorem dN {a b:Nat}(h:a<b):bT a b = -1:=by simp[bT,h]
theorem eZ {a b:Nat}(h:b<a):bT a b=1:=by unfold bT;rw[if_neg oM,if_pos h]
theorem gz {a b:Nat}(h:a=b):bT a b=0:=by unfold bT;rw[if_neg oM,if_neg oM]
theorem fw {a b:Nat}(h:b≤a):bT a b=0∨bT a b=1:=by
 unfold bT
 rw[if_neg oM]
 split<;>simp
theorem fG {a b:Nat}(h:(wds a).length<(wds b).length):a<b:=by
 rcases Nat.lt_or_ge a b with hl|hl
 ·exact hl
 ·have:=ce hl;omega
theorem kA {a b k:Nat}(hlen:(wds a).length=(wds b).length)(hk:k<(wds a).length)(hd:(wds a).drop (k+1)=(wds b).drop (k+1))(hlt:(wds a).getD k 0<(wds b).getD k 0):a<b:=by
 have ea:=bP 18446744073709551616 (l:=wds a) (k:=k+1) oM;have eb:=bP 18446744073709551616 (l:=wds b) (k:=k+1) oM;have e1:am 18446744073709551616 (wds a)=a:=aK a;have e2:am 18446744073709551616 (wds b)=b:=aK b;have ta:=aW 18446744073709551616 (l:=wds a) (k:=k) hk;have tb:=aW 18446744073709551616 (l:=wds b) (k:=k) oM;have la:=bX (Dg.take (Wd.wds a) k);rw[List.length_take,Nat.min_eq_left oM] at la
 have hm:18446744073709551616^k*(wds a).getD k 0+18446744073709551616^k≤18446744073709551616^k*(wds b).getD k 0:=by
  rw[←Nat.mul_succ];exact Nat.mul_le_mul_left _ hlt
 rw[hd] at ea
 omega
theorem jM {a b k:Nat}(hlen:(wds a).length=(wds b).length)(hk:k<(wds a).length)(hd:(wds a).drop (k+1)=(wds b).drop (k+1))(hne:(wds a).getD k 0≠(wds b).getD k 0):bT ((wds a).getD k 0) ((wds b).getD k 0)=bT a b:=by
 rcases Nat.lt_or_ge ((wds a).getD k 0) ((wds b).getD k 0) with h|h
 ·rw[dN h,dN (kA hlen hk hd h)]
 ·rw[eZ oM,eZ (kA hlen.symm oM hd.symm oM)]
theorem eT {l m:List Nat}{k:Nat}(hl:l.length=m.length)(hk:k<l.length)(hd:l.drop (k+1)=m.drop (k+1))(he:l.getD k 0=m.getD k 0):l.drop k=m.drop k:=by
 rw[List.drop_eq_getElem_cons hk,List.drop_eq_getElem_cons (l:=m) (i:=k) oM,hd]
 simp[hk,show k<m.length by omega] at he
 rw[he]
theorem qh (n:Nat):n%18446744073709551616=(wds n).getD 0 0:=Int.ofNat.inj (pA n)
theorem mP {a b:Nat}(hlen:(wds a).length=(wds b).length)(hd:(wds a).drop 1=(wds b).drop 1):bT (a%18446744073709551616) (b%18446744073709551616)=bT a b:=by
  rw[qh,qh]
  by_cases h:(wds a).getD 0 0=(wds b).getD 0 0
  · have:a=b:=by
      rcases Nat.eq_zero_or_pos (wds a).length with h0|h0
      · have e1:=aK a
        have e2:=aK b;have e3:wds a=[]:=List.eq_nil_of_length_eq_zero h0;have e4:wds b=[]:=List.eq_nil_of_length_eq_zero oM;rw[e3] at e1
        rw[e4] at e2
        exact e1.symm.trans e2
      · have:=eT hlen h0 hd h
        simp only[List.drop_zero] at this
        rw[←aK a,←aK b,this]
    rw[h,gz rfl,gz this]
  · refine jM hlen ?_ hd h
    rcases Nat.eq_zero_or_pos (wds a).length with h0|h0
    · exfalso;apply h
      have e1:wds a=[]:=List.eq_nil_of_length_eq_zero h0;have e2:wds b=[]:=List.eq_nil_of_length_eq_zero oM;rw[e1,e2]
    · exact h0
theorem qU {n:Nat}(h:(wds n).length≤1):n<18446744073709551616:=by
 rcases Nat.lt_or_ge n 18446744073709551616 with h1|h1
 ·exact h1
 ·have:=dJ h1;omega
theorem nK {a b:Nat}(hlen:(wds a).length-1=(wds b).length-1)(hd:(wds a).drop 1=(wds b).drop 1):bT (a%18446744073709551616) (b%18446744073709551616)=bT a b:=by
 rcases Nat.lt_or_ge 1 (wds a).length with h|h
 ·exact mP oM hd
 ·rw[Nat.mod_eq_of_lt (qU h),Nat.mod_eq_of_lt (qU oM)]
theorem vM {n:Nat}(h:0<n):nb n=64*((wds n).length-1)+nb ((wds n).getD ((wds n).length-1) 0):=by
 have hp:=jR.2 h;have e:=aW 18446744073709551616 (l:=wds n) (k:=(wds n).length-1) oM;rw[show (wds n).length-1+1=(wds n).length by omega,List.take_length] at e
 have e1:am 18446744073709551616 (wds n)=n:=aK n;have hlt:=bX (Dg.take (Wd.wds n) ((wds n).length-1));rw[List.length_take,Nat.min_eq_left oM] at hlt
 have e2:(18446744073709551616:Nat)^((wds n).length-1)=2^(64*((wds n).length-1)):=by rw[Nat.pow_mul]
 rw[e1,e2] at e
 rw[e2] at hlt
 have:=vg hlt (Nat.pos_of_ne_zero (kP h));rw[←e] at this
 exact this
theorem iN {n:Nat}(h:n<18446744073709551616):Value.agg #[.int .u64 (n:Int),.string ⟨#[]⟩]=nv n:=by unfold nv;rw[j8 h,ki h]
theorem bU {n:Nat}:(wds n).length≤1↔n<18446744073709551616:=by
 constructor
 ·intro h
  rcases Nat.lt_or_ge n 18446744073709551616 with h1|h1
  ·exact h1
  ·have:=dJ h1;omega
 ·intro h
  rcases Nat.eq_zero_or_pos n with h0|h0
  ·subst h0;simp[kj]
  ·rw[jv h0 h];simp
structure HalfQ (Y y1 y0 u u1 q r:Nat):Prop where
  e:q*y1+r=u
  lt:u*4294967296+u1<(q+1)*Y
  qb:q≤4294967297
theorem k6 {Y y1 y0 u u1:Nat}(hY:Y=y1*4294967296+y0)(h1:u1<4294967296)(hn:2147483648≤y1)(h0:y0<4294967296)(hu:u<Y):HalfQ Y y1 y0 u u1 (u/y1) (u-u/y1*y1):=by
 have hm:u/y1*y1≤u:=Nat.div_mul_le_self u y1
 have hlt:u<(u/y1+1)*y1:=by
  have:=Nat.lt_div_mul_add (a:=u) (b:=y1) oM;rw[Nat.add_mul,Nat.one_mul];exact this
 refine ⟨by omega,?_,?_⟩
 ·have:(u/y1+1)*Y=(u/y1+1)*y1*4294967296+(u/y1+1)*y0:=by rw[hY,Nat.mul_add,Nat.mul_assoc]
  omega
 ·have h2:u/y1<4294967298:=by
   rw[Nat.div_lt_iff_lt_mul oM]
   omega
  omega
theorem mq {u y1:Nat}(h:0<y1):u-u/y1*y1<y1:=by
 have:=Nat.lt_div_mul_add (a:=u) (b:=y1) h;have hm:u/y1*y1≤u:=Nat.div_mul_le_self u y1
 omega
theorem HalfQ.dec {Y y1 y0 u u1 q r:Nat}(h:HalfQ Y y1 y0 u u1 q r)(hY:Y=y1*4294967296+y0)(h1:u1<4294967296)(hu:u<Y)(ht:4294967296≤q∨4294967296*r+u1<q*y0):HalfQ Y y1 y0 u u1 (q-1) (r+y1):=by
 have hq:0<q:=by
  rcases ht with h2|h2
  ·omega
  ·rcases Nat.eq_zero_or_pos q with h3|h3
   ·subst h3;omega
   ·exact h3
 obtain ⟨p,rfl⟩:∃ p,q=p+1:=⟨q-1,by omega⟩;have e:=h.e;rw[Nat.add_mul,Nat.one_mul] at e
 refine ⟨by rw[Nat.add_sub_cancel];omega,?_,by have:=h.qb;omega⟩;rw[Nat.add_sub_cancel]
 rcases ht with h2|h2
 ·have:4294967296*Y≤(p+1)*Y:=Nat.mul_le_mul_right _ h2
  omega
 ·have:(p+1)*Y=(p+1)*y1*4294967296+(p+1)*y0:=by rw[hY,Nat.mul_add,Nat.mul_assoc]
  rw[Nat.add_mul p 1 y1,Nat.one_mul] at this
  omega
theorem HalfQ.fin {Y y1 y0 u u1 q r:Nat}(h:HalfQ Y y1 y0 u u1 q r)(hY:Y=y1*4294967296+y0)(ht:¬4294967296*r+u1<q*y0):q=(u*4294967296+u1)/Y∧(u*4294967296+u1)-q*Y=(u*4294967296+u1)%Y∧q*Y≤u*4294967296+u1:=by
 have hle:q*Y≤u*4294967296+u1:=by
  have:q*Y=q*y1*4294967296+q*y0:=by rw[hY,Nat.mul_add,Nat.mul_assoc]
  have:=h.e
  omega
 have hq:q=(u*4294967296+u1)/Y:=(Nat.div_eq_of_lt_le hle h.lt).symm;have hd:=Nat.div_add_mod (u*4294967296+u1) Y;rw[←hq,Nat.mul_comm] at hd
 exact ⟨hq,by omega,hle⟩
theorem HalfQ.brk {Y y1 y0 u u1 q r:Nat}(h:HalfQ Y y1 y0 u u1 q r)(hY:Y=y1*4294967296+y0)(h0:y0<4294967296)(hr:4294967296≤r)(hq:q≤4294967296):q=(u*4294967296+u1)/Y∧(u*4294967296+u1)-q*Y=(u*4294967296+u1)%Y∧q*Y≤u*4294967296+u1 :=
 h.fin hY (by
  have:q*y0≤4294967296*y0:=Nat.mul_le_mul_right _ hq
  omega)
theorem lw {A y s Y Q R:Nat}(hYs:Y=y*2^s)(hA:A*2^s=Y*Q+R)(hm:R<Y):A=y*Q+R/2^s∧R/2^s<y:=by
 have hp:0<2^s:=Nat.two_pow_pos s;have e:y*Q*2^s=Y*Q:=by rw[hYs];ac_rfl
 have hle:y*Q≤A:=by
  have:y*Q*2^s≤A*2^s:=by rw[hA,e];omega
  exact Nat.le_of_mul_le_mul_right this hp
 have hR2:R=(A-y*Q)*2^s:=by rw[Nat.sub_mul,hA,e];omega
 rw[hR2,Nat.mul_div_cancel _ hp];refine ⟨by omega,?_⟩;have:(A-y*Q)*2^s<y*2^s:=by rw[←hR2,←hYs];exact hm
 exact Nat.lt_of_mul_lt_mul_right this
theorem rF {A y s u32 u10 Y u1 u0 q1 r1 q0 R:Nat}(hYs:Y=y*2^s)(hN:A*2^s=u32*18446744073709551616+u10)(h10:u10=u1*4294967296+u0)(hy:0<y)
  (e1:q1=(u32*4294967296+u1)/Y)(e2:r1=(u32*4294967296+u1)%Y)(e3:q0=(r1*4294967296+u0)/Y)(e4:R=(r1*4294967296+u0)%Y) :
  A=y*(q1*4294967296+q0)+R/2^s∧R/2^s<y:=by
 have hYp:0<Y:=by rw[hYs];exact Nat.mul_pos hy (Nat.two_pow_pos s)
 have d1:=Nat.div_add_mod (u32*4294967296+u1) Y;have d0:=Nat.div_add_mod (r1*4294967296+u0) Y;rw[←e1,←e2] at d1
 rw[←e3,←e4] at d0
 have hm:R<Y:=by rw[e4];exact Nat.mod_lt _ hYp
 refine lw hYs ?_ hm;rw[hN,h10,Nat.mul_add,←Nat.mul_assoc]
 clear e1 e2 e3 e4 hN h10 hm hYs hYp hy
 omega
theorem qx {y:Nat}(h0:0<y)(h:y<18446744073709551616):9223372036854775808≤y*2^(64-nb y)∧y*2^(64-nb y)<18446744073709551616:=by
 obtain ⟨s1,s2,s3⟩:=cB h0;have hle:nb y≤64:=kv (k:=64) h
 have e1:(2:Nat)^(nb y-1)*2^(64-nb y)=9223372036854775808:=by
  rw[←Nat.pow_add,show nb y-1+(64-nb y)=63 by omega]
 have e2:(2:Nat)^nb y*2^(64-nb y)=18446744073709551616:=by
  rw[←Nat.pow_add,show nb y+(64-nb y)=64 by omega]
 have a1:=Nat.mul_le_mul_right (2^(64-nb y)) s1;have a2:=Nat.mul_lt_mul_of_pos_right s2 (Nat.two_pow_pos (64-nb y))
 omega
theorem xc {hi lo s:Nat}(hs:s≤64)(hl:lo<18446744073709551616):(hi*18446744073709551616+lo)*2^s=(hi*2^s+lo/2^(64-s))*18446744073709551616+lo*2^s%18446744073709551616∧lo/2^(64-s)<2^s:=by
 have e:(18446744073709551616:Nat)=2^(64-s)*2^s:=by rw[←Nat.pow_add,show 64-s+s=64 by omega]
 have h1:lo*2^s/18446744073709551616=lo/2^(64-s):=by
  rw[e,Nat.mul_div_mul_right _ _ (Nat.two_pow_pos s)]
 have h2:=Nat.div_add_mod (lo*2^s) 18446744073709551616;rw[h1] at h2
 constructor
 ·rw[Nat.add_mul,Nat.add_mul]
  have:hi*18446744073709551616*2^s=hi*2^s*18446744073709551616:=by ac_rfl
  omega
 ·rw[Nat.div_lt_iff_lt_mul (Nat.two_pow_pos _),Nat.mul_comm,←e];exact hl
theorem mj {a b q Y r:Nat}(h:q*Y≤a*4294967296+b)(hr:a*4294967296+b-q*Y=r)(hrb:r<18446744073709551616):((a*4294967296%18446744073709551616+b)%18446744073709551616+(18446744073709551616-q*Y%18446744073709551616))%18446744073709551616=r:=by
 generalize q*Y=m at *
 omega
theorem BJ {a b:Nat}(ha:a<4294967296)(hb:b<4294967296):a*b<18446744073709551616:=by
 have:a*b≤4294967295*4294967295:=Nat.mul_le_mul oM oM
 omega
theorem dq {a b c:Nat}(h:c<a*b):0<a:=by
 rcases Nat.eq_zero_or_pos a with h0|h0
 ·rw[h0,Nat.zero_mul] at h;omega
 ·exact h0
theorem oI {u u1 Y:Nat}(h:u<Y)(h1:u1<4294967296):(u*4294967296+u1)/Y<4294967296:=by
 rw[Nat.div_lt_iff_lt_mul oM];have:(u+1)*4294967296≤Y*4294967296:=Nat.mul_le_mul_right _ h
 omega
theorem vK {p:Nat}(h:p≤64):(18446744073709551616:Nat)=2^(64-p)*2^p:=by rw[←Nat.pow_add,show 64-p+p=64 by omega]
theorem wm {x p o:Nat}(hp:p≤64)(hx:x<18446744073709551616)(ho:o<2^p) :
  o ||| (x*2^p%18446744073709551616)=o+x*2^p%18446744073709551616∧o+x*2^p%18446744073709551616<18446744073709551616∧x*2^p%18446744073709551616+18446744073709551616*(x/2^(64-p))=x*2^p∧x/2^(64-p)<2^p:=by
 have e:=vK hp
 have hm:x*2^p%18446744073709551616=x%2^(64-p)*2^p:=by
  conv=>lhs;rw[e]
  exact Nat.mul_mod_mul_right _ _ _
 have hlt:x%2^(64-p)<2^(64-p):=Nat.mod_lt _ (Nat.two_pow_pos _);refine ⟨by rw[hm];exact gN p ho,?_,?_,?_⟩
 ·rw[hm]
  have:(x%2^(64-p)+1)*2^p≤2^(64-p)*2^p:=Nat.mul_le_mul_right _ hlt;rw[←e,Nat.add_mul] at this
  omega
 ·have h1:x*2^p/18446744073709551616=x/2^(64-p):=by
   conv=>lhs;rw[e]
   exact Nat.mul_div_mul_right _ _ (Nat.two_pow_pos _)
  rw[←h1];exact Nat.mod_add_div _ _
 ·rw[Nat.div_lt_iff_lt_mul (Nat.two_pow_pos _),Nat.mul_comm,←e];exact hx
theorem tk {l w:List Nat}{i q p x o a c:Nat}(hl:i+q+1<l.length)(hv:aA l=2^p*(18446744073709551616^q*am 18446744073709551616 (w.take i)))(h0:l.getD (i+q+1) 0=0)(hs:a+18446744073709551616*c=x*2^p)(hx:x=w.getD i 0)(ho:o=l.getD (i+q) 0) :
  aA ((l.set (i+q) (o+a)).set (i+q+1) c)=2^p*(18446744073709551616^q*am 18446744073709551616 (w.take (i+1))):=by
 have s1:=di 18446744073709551616 (l:=l) (k:=i+q) (o+a) oM;have s2:=di 18446744073709551616 (l:=l.set (i+q) (o+a)) (k:=i+q+1) c (by rw[List.length_set];omega);rw[bD oM,if_neg oM,h0] at s2
 rw[←ho] at s1
 have e3:2^p*(18446744073709551616^q*am 18446744073709551616 (w.take (i+1)))=aA l+18446744073709551616^(i+q)*(x*2^p):=by
  rw[az,hv,←hx,Nat.mul_add,Nat.mul_add,Nat.pow_add]
  congr 1
  ac_rfl
 rw[e3,←hs];rw[Nat.pow_succ] at s2
 show am 18446744073709551616 _=am 18446744073709551616 l+_
 simp only[Nat.mul_add,←Nat.mul_assoc] at s1 s2 ⊢
 omega
theorem ux (n:Nat):(2:Nat)^n=18446744073709551616^(n/64)*2^(n%64):=by
 have:n=64*(n/64)+n%64:=by omega
 conv=>lhs;rw[this,Nat.pow_add,Nat.pow_mul]
theorem oO {x y p:Nat}(hp:p≤64)(hx:x<18446744073709551616) :
  (x/2^p) ||| (y*2^(64-p)%18446744073709551616)=x/2^p+y*2^(64-p)%18446744073709551616∧x/2^p+y*2^(64-p)%18446744073709551616<18446744073709551616∧2^p*(x/2^p+y*2^(64-p)%18446744073709551616)+x%2^p=x+18446744073709551616*(y%2^p):=by
 have e:=vK hp;have e':(18446744073709551616:Nat)=2^p*2^(64-p):=by rw[Nat.mul_comm];exact e
 have hm:y*2^(64-p)%18446744073709551616=y%2^p*2^(64-p):=by
  conv=>lhs;rw[e']
  exact Nat.mul_mod_mul_right _ _ _
 have ho:x/2^p<2^(64-p):=by rw[Nat.div_lt_iff_lt_mul (Nat.two_pow_pos _),←e];exact hx
 have hlt:y%2^p<2^p:=Nat.mod_lt _ (Nat.two_pow_pos _);refine ⟨by rw[hm];exact gN (64-p) ho,?_,?_⟩
 ·rw[hm]
  have:(y%2^p+1)*2^(64-p)≤2^p*2^(64-p):=Nat.mul_le_mul_right _ hlt;rw[←e',Nat.add_mul] at this
  omega
 ·rw[hm,Nat.mul_add]
  have h1:=Nat.div_add_mod x (2^p);have h2:2^p*(y%2^p*2^(64-p))=18446744073709551616*(y%2^p):=by rw[e'];ac_rfl
  omega
theorem oP {l W:List Nat}{i p d r0:Nat}(hl:i<l.length)(inv:2^p*am 18446744073709551616 l+r0=am 18446744073709551616 (W.take i)+18446744073709551616^i*(W.getD i 0%2^p))(h0:l.getD i 0=0)(hd:2^p*d+W.getD i 0%2^p=W.getD i 0+18446744073709551616*(W.getD (i+1) 0%2^p)) :
  2^p*am 18446744073709551616 (l.set i d)+r0=am 18446744073709551616 (W.take (i+1))+18446744073709551616^(i+1)*(W.getD (i+1) 0%2^p):=by
 have s1:=di 18446744073709551616 (l:=l) (k:=i) d hl;rw[h0] at s1
 rw[az,Nat.pow_succ];have e1:18446744073709551616^i*(2^p*d+W.getD i 0%2^p)=18446744073709551616^i*(W.getD i 0+18446744073709551616*(W.getD (i+1) 0%2^p)):=by rw[hd]
 have e2:am 18446744073709551616 (l.set i d)=am 18446744073709551616 l+18446744073709551616^i*d:=by omega
 rw[e2,Nat.mul_add];have e3:2^p*(18446744073709551616^i*d)=18446744073709551616^i*(2^p*d):=by ac_rfl
 rw[e3]
 simp only[Nat.mul_add,←Nat.mul_assoc] at e1 ⊢
 simp only[Nat.mul_assoc] at e1 inv ⊢
 omega
theorem xd {l W:List Nat}{p m:Nat}(hm:W.length≤m)(inv:2^p*am 18446744073709551616 l+W.getD 0 0%2^p=am 18446744073709551616 (W.take m)+18446744073709551616^m*(W.getD m 0%2^p)):aA l=aA W/2^p:=by
 rw[List.take_of_length_le hm] at inv
 have h0:W.getD m 0=0:=by simp[List.getElem?_eq_none hm]
 rw[h0,Nat.zero_mod,Nat.mul_zero,Nat.add_zero] at inv
 have hp:=Nat.two_pow_pos p;have hl:=Nat.mod_lt (W.getD 0 0) hp
 show am _ l=am _ W/_
 rw[←inv,Nat.mul_add_div hp,Nat.div_eq_of_lt hl,Nat.add_zero]
theorem mi {w:List Nat}(hw:Wd w){q:Nat}(hq:q≤w.length):aA (w.drop q)=aA w/18446744073709551616^q:=by
 have e:=bP 18446744073709551616 hq;have h1:=bX (Dg.take hw q);rw[List.length_take,Nat.min_eq_left hq] at h1
 show am _ _=am _ w/_
 rw[e,Nat.add_mul_div_left _ _ (Nat.pow_pos kD),Nat.div_eq_of_lt h1,Nat.zero_add]
def lc (x:Nat):List Value:=[.int .u8 (x:Nat)]
theorem o4 {b:Nat}(hb:0<b){l:List Nat}(h:Dg b l)(j:Nat):l.getD j 0=am b l/b^j%b:=by
 rcases Nat.lt_or_ge j l.length with hj|hj
 ·have h1:=bP b (l:=l) (k:=j) oM
  have h2:=fa b (l:=l) (k:=j) hj;have h3:=bX (Dg.take h j);rw[List.length_take,Nat.min_eq_left oM] at h3
  have hp:0<b^j:=Nat.pow_pos hb;rw[h1,Nat.add_mul_div_left _ _ hp,Nat.div_eq_of_lt h3,Nat.zero_add,h2,Nat.add_mul_mod_self_left,Nat.mod_eq_of_lt (h.getD hb j)]
 ·rw[bL hj,Nat.div_eq_of_lt,Nat.zero_mod]
  exact Nat.lt_of_lt_of_le (bX h) (Nat.pow_le_pow_right hb hj)
theorem wh {b:Nat}{l:List Nat}{k P:Nat}(hk:k<l.length)(hb:0<b)(h:am b l<b^k*P):l.getD k 0<P:=by
 have h1:=bP b (l:=l) (k:=k) oM;have h2:=fa b (l:=l) (k:=k) hk;have hp:0<b^k:=Nat.pow_pos hb;refine Nat.lt_of_mul_lt_mul_left (a:=b^k) ?_;have h3:b^k*l.getD k 0≤b^k*am b (l.drop k):=Nat.mul_le_mul_left _ (by rw[h2];omega)
 omega
theorem pT (k:Nat):(256:Nat)^k=18446744073709551616^(k/8)*2^(8*(k%8)):=by
 have:k=8*(k/8)+k%8:=by omega
 conv=>lhs;rw[this,Nat.pow_add,Nat.pow_mul]
 rw[Nat.pow_mul 2 8]
theorem nT {l:List Nat}(hW:Wd l)(k:Nat):l.getD (k/8) 0/2^(8*(k%8))%256=aA l/256^k%256:=by
 rw[o4 kD hW (k/8),pT,←Nat.div_div_eq_div_mul]
 show _=am 18446744073709551616 l/_/_%256
 generalize am 18446744073709551616 l/18446744073709551616^(k/8)=y
 have:k%8=0∨k%8=1∨k%8=2∨k%8=3∨k%8=4∨k%8=5∨k%8=6∨k%8=7:=by omega
 rcases this with h|h|h|h|h|h|h|h<;>rw[h]<;>omega
theorem sL (n k:Nat):(wds n).getD (k/8) 0/2^(8*(k%8))%256=n/256^k%256:=by
 rw[nT (Wd.wds n),aK]
theorem uY {b k:Nat}(hb:b<256):b*2^(8*(k%8))<18446744073709551616:=by
 have:k%8=0∨k%8=1∨k%8=2∨k%8=3∨k%8=4∨k%8=5∨k%8=6∨k%8=7:=by omega
 rcases this with h|h|h|h|h|h|h|h<;>rw[h]<;>omega
theorem sD {a b k:Nat}(ha:a<2^(8*(k%8)))(hb:b<256):a+b*2^(8*(k%8))<18446744073709551616:=by
 have:k%8=0∨k%8=1∨k%8=2∨k%8=3∨k%8=4∨k%8=5∨k%8=6∨k%8=7:=by omega
 rcases this with h|h|h|h|h|h|h|h<;>rw[h] at ha ⊢ <;> omega
theorem rv {l:List Nat}{n k x:Nat}(hk:k/8<l.length)(inv:aA l=n%256^k)(hx:x=n/256^k%256) :
  (l.getD (k/8) 0 ||| x*2^(8*(k%8))%18446744073709551616)=l.getD (k/8) 0+x*2^(8*(k%8))∧l.getD (k/8) 0+x*2^(8*(k%8))<18446744073709551616 ∧
  aA (l.set (k/8) (l.getD (k/8) 0+x*2^(8*(k%8))))=n%256^(k+1):=by
 have hb:x<256:=by rw[hx];exact Nat.mod_lt _ oM
 have hlt:aA l<256^k:=by rw[inv];exact Nat.mod_lt _ (Nat.pow_pos oM)
 have hd:l.getD (k/8) 0<2^(8*(k%8)):=wh (b:=18446744073709551616) hk kD (by rw[←pT];exact hlt);refine ⟨?_,sD hd hb,?_⟩
 ·rw[Nat.mod_eq_of_lt (uY hb)];exact gN _ hd
 ·have e:=di 18446744073709551616 (l:=l) (k:=k/8) (l.getD (k/8) 0+x*2^(8*(k%8))) hk
  rw[vt,←hx,←inv]
  show am _ _=am _ l+_
  have e2:256^k*x=18446744073709551616^(k/8)*(x*2^(8*(k%8))):=by rw[pT k];ac_rfl
  rw[Nat.mul_add] at e
  rw[e2]
  omega
theorem vJ (n:Nat):n<256^((nb n+7)/8):=by
 have h:=E4 n;have e:(256:Nat)^((nb n+7)/8)=2^(8*((nb n+7)/8)):=by rw[Nat.pow_mul]
 rw[e];exact Nat.lt_of_lt_of_le h (Nat.pow_le_pow_right oM oM)
theorem kL (n:Nat):nb n≤64*(wds n).length:=by
 apply kv
 have:=du n
 rwa [show (18446744073709551616:Nat)=2^64 by rfl,←Nat.pow_mul] at this
theorem j9 (n:Nat):(wds n).length=(nb n+63)/64:=by
 rcases Nat.eq_zero_or_pos n with h|h
 ·subst h;rfl
 ·have h1:=vM h
  have h2:=kP h;have h3:=mM n ((wds n).length-1);have h4:=jR.2 h
  generalize (wds n).getD ((wds n).length-1) 0=t at *
  have h5:=(cB (Nat.pos_of_ne_zero h2)).2.2;have h6:nb t≤64:=kv (k:=64) h3
  omega
def Nw (K:Nat)(h:Hp)(b:Nat)(t:TypeId)(cs:List Value):Prop:=K≤b∧t≠0∧h[b]?=some (.cells cs.toArray t (0,0))
theorem Nw.gw {K:Nat}{h h':Hp}{b:Nat}{t:TypeId}{cs:List Value}(x:Nw K h b t cs)(u:Gw h h'):Nw K h' b t cs:=by
 obtain ⟨h1,h2,h3⟩:=x;refine ⟨h1,h2,?_⟩
 rcases u.blk b (aN h3) with e|e
 ·exact e.trans h3
 ·rw[e] at h3
  injection h3 with h3
  unfold bc at h3
  injection h3 with _ h4
  exact absurd h4.symm h2
theorem Nw.seg {K:Nat}{h:Hp}{b:Nat}{t:TypeId}{cs sp:List Value}(x:Nw K h b t (cs++sp)):Seg h b 0 cs:=fun i v hv=>by
 unfold ew
 rw[x.2.2];have hi:i<cs.length:=(List.getElem?_eq_some_iff.1 hv).1
 simp only[Nat.zero_add,List.getElem?_toArray]
 rw[List.getElem?_append_left hi];exact hv
def SlN {α:Type}(K:Nat)(ty:TypeId)(f:α→List Value)(h:Hp)(v:Value)(l:List α):Prop :=
  ∃ b c sp,v=.slice (some ⟨b,0,none⟩) l.length c∧l.length≤c∧Nw K h b ty (l.flatMap f++sp)
theorem SlN.slv {α:Type}{K sz:Nat}{ty:TypeId}{f:α→List Value}{d:α}{h:Hp}{v:Value}{l:List α}(x:SlN K ty f h v l)(hf:∀ x,(f x).length=sz):SlV sz f d h v l:=by
 obtain ⟨b,c,sp,e,hc,n⟩:=x;exact ⟨_,c,e,hc,SlO.of_flat hf n.seg⟩
section ss
variable {w0:World} {h0:Hp} {w:World} {h:Hp} {B:List Bx} {R:List Rw} {F:List (Hp→Prop)}
theorem SS.pubn (s:SS w0 h0 w h B R F)(j:Nat){ty:TypeId}{sz c:Nat}{A:Option Addr}{α:Type}{f:α→List Value}{l:List α}(hpos:0<l.length)(hr:R.getD j default=⟨ty,sz,A,c,l.length,l.flatMap f⟩:=by kernel_rfl)(hj:decide (j<R.length)=true:=by kernel_rfl)(hty:(ty == 0)=false:=by kernel_rfl) :
  ∃ h' b sp,SS w0 h0 w h' B (R.eraseIdx j) ((fun h=>Nw h0.size h b ty (l.flatMap f++sp))::F)∧A=some ⟨b,0,none⟩∧l.length≤c:=by
 have hj':=oT hj;have e0:R[j]=⟨ty,sz,A,c,l.length,l.flatMap f⟩:=by rw[←hr];simp[hj']
 have hm:R[j]∈R:=List.getElem_mem hj';have r0:=s.ro _ hm;rw[e0] at r0
 have hne:∀ r∈R.eraseIdx j,Apart r.v R[j].v:=by
  intro r hr;obtain ⟨i,hi,he⟩:=List.mem_iff_getElem.1 hr;rw[List.getElem_eraseIdx] at he
  have hp:=List.pairwise_iff_getElem.1 s.ap
  split at he
  ·rename_i hl;rw[←he];exact hp i j oM hj' hl
  ·rename_i hl
   rw[←he];have hi':i+1<R.length:=by rw[List.length_eraseIdx_of_lt hj'] at hi;omega
   exact (hp j (i+1) hj' hi' oM).symm
 have hty':ty≠0:=by simpa using hty
 rcases r0.own with ⟨h1,⟨e,e2⟩|⟨b,cap',cur,e,hbb,hg,hn,hm2,hs,ht⟩⟩
 ·simp only[] at e2;omega
 ·simp only[Rw.v] at e
  injection e with e1 e2 e3
  subst e1 e3;have hjk:=r0.jk b rfl;have hlt:=aN hjk;have hneB:∀ x∈B,x.b≠b:=fun x hx e=>r0.ap b rfl (List.mem_map.2 ⟨x,hx,e⟩)
  have gw:Gw h (h.setIfInBounds b (.cells cur ty)):=⟨by simp,fun c hc=>by
   by_cases e:b=c
   ·subst e;exact .inr hjk
   ·left;rw[Array.getElem?_setIfInBounds_ne e]⟩
  have hcur:cur.toList=l.flatMap f++cur.toList.drop (l.length*sz):=by
   simp only[] at ht
   rw[←ht,List.take_append_drop]
  refine ⟨h.setIfInBounds b (.cells cur ty),b,cur.toList.drop (l.length*sz),⟨s.g0,⟨⟨s.st.up.ext,⟨by simp;exact s.st.up.gr.size,fun c hc=>?_⟩,⟨by simp;exact s.st.up.g.size,fun c=>?_⟩⟩,s.st.own,?_,s.st.lo,s.st.nd⟩,?_,s.ap.sublist (List.eraseIdx_sublist R j),?_,⟨hbb,hty',?_⟩,s.f.gw s.mo gw⟩,rfl,hn⟩
  ·rw[Array.getElem?_setIfInBounds_ne oM];exact s.st.up.gr.blk c hc
  ·by_cases e:b=c
   ·subst e;left;rw[Array.getElem?_setIfInBounds_self_of_lt hlt];exact hg.symm
   ·rw[Array.getElem?_setIfInBounds_ne e];exact s.st.up.g.blk c
  ·intro x hx
   rw[Array.getElem?_setIfInBounds_ne (Ne.symm (hneB x hx))];exact s.st.jk x hx
  ·intro r hr
   refine (s.ro r (List.mem_of_mem_eraseIdx hr)).pubo (u:=.slice (some ⟨b,0,none⟩) l.length c) (fun c' hc=>?_) (by have:=hne r hr;rw[e0] at this;exact this);rw[Array.getElem?_setIfInBounds_ne (fun e=>hc (by rw[←e];rfl))]
  ·intro p hp
   rcases List.mem_cons.1 hp with rfl|hp
   ·exact fun _ _ u x=>x.gw u
   ·exact s.mo p hp
  ·rw[←hcur,Array.getElem?_setIfInBounds_self_of_lt hlt]
end ss
theorem lp {vs cs:List Value}{o:Nat}(h:(vs.drop o).take cs.length=cs)(i:Nat)(v:Value)(hv:cs[i]?=some v):vs[o+i]?=some v:=by
 have hi:i<cs.length:=(List.getElem?_eq_some_iff.1 hv).1;rw[←h,List.getElem?_take_of_lt hi,List.getElem?_drop] at hv
 exact hv
section laws
variable {M:Ms} {P:Program} {n:Nat} {N R:Po} {X:Nat→Po} {ops:Array Oper} {k k0:Nat} {hr:Hp} {AL:List Al} {L:Array Bool} {Γ:bW} {w:World} {h:Hp} {w0:World} {h0:Hp} {B:List Bx} {Rs:List Rw} {F:List (Hp→Prop)}
theorem SlO.flat {α:Type}{sz:Nat}{f:α→List Value}{d:α}{A:Option Addr}:∀ {l:List α},(∀ x,(f x).length=sz)→SlO sz f d h A l→Seg h (aB A) (aO A) (l.flatMap f)
  | l,hf,s=>fun i v hv=>by
    have hi:i<(l.flatMap f).length:=(List.getElem?_eq_some_iff.1 hv).1;rw[cj hf] at hi
    rcases Nat.eq_zero_or_pos sz with h0'|hp
    · subst h0';simp at hi
    · have hk:i/sz<l.length:=(Nat.div_lt_iff_lt_mul hp).2 hi
      have hr:i%sz<sz:=Nat.mod_lt _ hp;have he:=s.el (i/sz) hk (i%sz) v;have hd:=d7 hf d l (i/sz) hk;have hm:i/sz*sz+i%sz=i:=by rw[Nat.mul_comm];exact Nat.div_add_mod i sz
      have:=he (by rw[←hd,List.getElem?_take_of_lt hr,List.getElem?_drop,hm];exact hv)
      rwa [Nat.add_assoc,hm] at this
theorem mm {b o:Nat}{news:List Value}(g:G w h)(sg:Seg h b o news):∀ j u,news[j]?=some u→w.cell? ((⟨b,o,none⟩:Addr).add j)=some u:=by
 intro j u hu;have:=jU g (sg j u hu)
 unfold Addr.add
 split
 ·rename_i h0;subst h0;exact this
 ·exact this
theorem uy {α:Type}{f:α→List Value}{l m:List α}:l.flatMap f++m.flatMap f=(l++m).flatMap f:=by simp
theorem H6 {α:Type}(t j:Nat)(ty:TypeId)(sz c:Nat)(A:Option Addr)(l:List α)(f:α→List Value)(d:α)(A2:Option Addr)(m:List α)(c2 bt:Nat)(z:Value)(s:SS w0 h0 w h B Rs F)(so:SlO sz f d h A2 m)(hm0:0<m.length)
  (H:∀ A' c' w' h',SS w0 h0 w' h' B (Rs.set j ⟨ty,sz,A',c',(l++m).length,(l++m).flatMap f⟩) F→LG P n N R X ops (k+1) ((t,.slice A' (l++m).length c')::Γ) w')
  (hc:cL ops Γ k t n=true:=by kernel_rfl)(he:EI P (ev Γ) (au ops k)=some (.slice A l.length c,.slice A2 m.length c2,ty,z,sz,bt):=by kernel_rfl)(hf:∀ x,(f x).length=sz:=by intro _;rfl)(h1:∀ x,(f x).all (·.oneCell')=true:=by intro _;kernel_rfl)(hzs:z.cells.size=sz:=by kernel_rfl)(hpos:0<sz:=by decide)
  (hr:Rs.getD j default=⟨ty,sz,A,c,l.length,l.flatMap f⟩:=by kernel_rfl)(hj:decide (j<Rs.length)=true:=by kernel_rfl)(hm:l.length+m.length≤1099511627776:=by omega)(hb:(l.length+m.length)*bt≤140737488355328:=by omega):LG P n N R X ops k Γ w:=by
 have hj':=oT hj;have hA:=so.ok hm0;rw[hA] at he
 refine HD t j (m.flatMap f) s (mm s.g (so.flat hf)) (cj hf m) (fun u hu=>?_) hj' (mT hr hj') hc he hzs hpos hm hb (fun A' c' w' h' s'=>?_)
 ·obtain ⟨x,_,hx⟩:=List.mem_flatMap.1 hu
  exact (List.all_eq_true.1 (h1 x)) u hx
 ·have e1:l.length+m.length=(l++m).length:=by simp
  rw[uy,e1] at s'
  rw[e1];exact H A' c' w' h' s'
theorem SS.newr {α:Type}{f:α→List Value}{l:List α}{sz:Nat}(s:SS w0 h0 w h B Rs F)(ty:TypeId)(hf:∀ x,(f x).length=sz)(hm:l.length≤maxLen):SS w0 h0 (w.alloc (.cells (l.flatMap f).toArray ty (0,0))) (h.push bc) B (⟨ty,sz,some ⟨w.heap.size,0,none⟩,l.length,l.length,l.flatMap f⟩::Rs) F:=by
  have u:Up w h (w.alloc (.cells (l.flatMap f).toArray ty (0,0))) (h.push bc):=Up.allocAny s.g _ _ (.inr rfl);have s1:=s.step u;refine ⟨s1.g0,s1.st,fun r hr=>?_,List.pairwise_cons.2 ⟨fun r hr=>?_,s1.ap⟩,s1.mo,s1.f⟩
  · rcases List.mem_cons.1 hr with rfl|hr
    · refine ⟨⟨cj hf l,.inr ⟨w.heap.size,l.length,(l.flatMap f).toArray,rfl,by rw[s.g.size];exact s.st.sz,?_,Nat.le_refl _,hm,?_,?_⟩⟩,fun b hb=>?_,fun b hb hm=>?_⟩
      · rw[heap_alloc];exact Array.getElem?_push_size
      · simp[←cj hf l]
      · show List.take (l.length*sz) (l.flatMap f)=_
        rw[←cj hf l];exact List.take_length
      · simp[Rw.v,Value.ownBlock] at hb
        subst hb;rw[s.g.size];exact Array.getElem?_push_size
      · simp[Rw.v,Value.ownBlock] at hb
        obtain ⟨x,hx,e⟩:=List.mem_map.1 hm;have:=(s.st.own x hx).lt;have e':x.b=b:=e
        omega
    · exact s1.ro r hr
  · intro b hb hb'
    have:=iE (s.ro r hr).own hb'
    simp[Rw.v,Value.ownBlock] at hb
    omega
theorem Hj {α:Type}(t:Nat)(ty:TypeId)(sz:Nat)(f:α→List Value)(l:List α)(s:SS w0 h0 w h B Rs F)(H:∀ b w' h',SS w0 h0 w' h' B (⟨ty,sz,some ⟨b,0,none⟩,l.length,l.length,l.flatMap f⟩::Rs) F→LG P n N R X ops (k+1) ((t,.slice (some ⟨b,0,none⟩) l.length l.length)::Γ) w')(hc:cL ops Γ k t n=true:=by kernel_rfl)
  (hr:(execOp (ev Γ) (au ops k)).run P w=.ok (.value (.slice (some ⟨w.heap.size,0,none⟩) l.length l.length)) (w.alloc (.cells (l.flatMap f).toArray ty (0,0))):=by kernel_rfl)(hf:∀ x,(f x).length=sz:=by intro _;rfl)(hm:Nat.ble l.length 1000=true:=by kernel_rfl):LG P n N R X ops k Γ w :=
 LG.val t _ _ (bH hc).1 (bH hc).2 hr (H _ _ _ (s.newr ty hf (by have:=Nat.le_of_ble_eq_true hm;unfold maxLen;omega)))
theorem oY (j o:Nat)(cs:List Value)(s:SS w0 h0 w h B Rs F)(H:∀ w',Put (av B j).b w w'→SS w0 h0 w' h (fP B j o cs) Rs F→LG P n N R X ops (k+1) Γ w')(hc:cS ops Γ k=true:=by kernel_rfl)
  (hj:(decide (j<B.length) && decide (o+cs.length≤(av B j).vs.length))=true:=by kernel_rfl)(he:dW P (execOp (ev Γ) (au ops k))=some (.skip,mB (av B j).b o cs):=by kernel_rfl):LG P n N R X ops k Γ w :=
 LG.put j o cs s.st s.g0 (i4 hc).1 (i4 hc).2 hj he (fun w' p s'=>H w' p (s.put0 (oT (Bool.and_eq_true _ _▸hj).1) p s' (mL (oT (Bool.and_eq_true _ _▸hj).1))))
theorem tX (i t:Nat)(A:Option Addr)(len cap sz:Nat)(x:Int)(j:Nat)(hA:A=some ⟨aB A,aO A,none⟩)(H:AG M P n N R X ops k0 (L.setIfInBounds i true) ((t,.pointer (some ⟨aB A,aO A+j*sz,none⟩))::Γ) w)(hc:cT n ops k0 L Γ i t=true:=by kernel_rfl)(he:xE P (ev Γ) (au ops i)=some (.slice A len cap,.int .i64 x,sz):=by kernel_rfl)(hk:x=j:=by omega)(hlt:j<len:=by omega):AG M P n N R X ops k0 L Γ w :=
 T.val i t _ w (sl hc).1 (sl hc).2 (gh he hA hk hlt w) H
theorem SS.blkp {F1:List (Hp→Prop)}{wr:World}{x:Al}{b:Nat}(pre:List Bx)(sr:SS w0 h0 wr hr B Rs F1)(s:SS w0 h0 w h (pre++B) Rs F)(k:Blk hr w h (x,b))(t:TypeId)(vs:List Value)(ho:x.o=.cells vs.toArray t (0,0))(hp:pre.all (fun y=>y.t != t)=true):SS w0 h0 w h (⟨b,t,vs⟩::(pre++B)) Rs F :=
 ⟨s.g0,St.new sr.st s.st (fun y hy=>by
  rcases List.mem_append.1 hy with hy|hy
  ·right
   intro e;have h1:=s.st.own y (List.mem_append_left _ hy);have h2:w.heap[b]?=some x.o:=k.1
   unfold Own at h1
   rw[e,h2,ho] at h1
   injection h1 with h1
   injection h1 with _ h3
   have:=(List.all_eq_true.1 hp) y hy
   simp only[bne_iff_ne,ne_eq] at this
   exact this h3.symm
  ·exact .inl (aN (sr.st.jk y hy))) k t vs ho,fun r hr'=>(s.ro r hr').new b (fun c hc e=>by
  have h1:=(sr.ro r hr').lt hc;have h2:hr.size≤b:=k.2.2
  omega),s.ap,s.mo,s.f⟩
theorem iZ {F1:List (Hp→Prop)}{wr:World}{x:Al}(pre:List Bx)(sr:SS w0 h0 wr hr B Rs F1)(s:SS w0 h0 w h (pre++B) Rs F)(t:TypeId)(vs:List Value)(H:∀ w' h' b,SS w0 h0 w' h' (⟨b,t,vs⟩::(pre++B)) Rs F→AG M P n N R X ops k0 (L.setIfInBounds x.i true) ((x.t,.pointer (some ⟨b,0,none⟩))::Γ) w')(hc:(fi ops [x] L && decide (x.t<n))=true:=by kernel_rfl)(ho:x.o=.cells vs.toArray t (0,0):=by kernel_rfl)(hp:pre.all (fun y=>y.t != t)=true:=by kernel_rfl):EG M P n N R X ops k0 hr [x] L Γ w h :=
 Rg.fin1 hc (fun w' h' b u k=>H w' h' b (SS.blkp pre sr (s.step u) k t vs ho hp))
end laws
theorem SS.at_ {w:World}{h:Hp}{rb:Nat}{t:TypeId}{vs:List Value}(g:G w h)(o:Own w rb t vs)(j:h[rb]?=some bc):∃ w0 h0,SS w0 h0 w h [⟨rb,t,vs⟩] [] []:=by
 obtain ⟨w0,h0,g0,st⟩:=St.at_ g o j;exact ⟨w0,h0,g0,st,fun _ hx=>(by cases hx),.nil,fun _ hx=>(by cases hx),trivial⟩
theorem SlO.take {α:Type}{sz:Nat}{f:α→List Value}{d:α}{h:Hp}{A:Option Addr}{l:List α}(s:SlO sz f d h A l)(k:Nat):SlO sz f d h A (l.take k) :=
 ⟨fun hp=>s.ok (by rw[List.length_take] at hp;omega),fun i hi=>by
  rw[List.length_take] at hi
  have:=s.el i oM
  rwa [List.getD_eq_getElem?_getD,List.getElem?_take_of_lt oM,←List.getD_eq_getElem?_getD]⟩
theorem SlO.drop {α:Type}{sz:Nat}{f:α→List Value}{d:α}{h:Hp}{A:Option Addr}{l:List α}(s:SlO sz f d h A l)(k c:Nat)(hc:l.length≤c):SlO sz f d h (if c=k then A else A.map (·.add (k*sz))) (l.drop k):=by
 rcases Nat.lt_or_ge k l.length with hk|hk
 ·rw[if_neg oM]
  have hA:=s.ok oM
  have hadd:(⟨aB A,aO A,none⟩:Addr).add (k*sz)=⟨aB A,aO A+k*sz,none⟩:=by
   unfold Addr.add
   split
   ·rename_i h0;rw[h0];rfl
   ·rfl
  have e:A.map (·.add (k*sz))=some ⟨aB A,aO A+k*sz,none⟩:=by rw[hA];simp only[Option.map_some,aB,aO] at hadd ⊢;rw[←hadd]
  refine ⟨fun _=>by rw[e];rfl,fun i hi=>?_⟩;rw[e]
  show Seg h (aB A) (aO A+k*sz+i*sz) _
  rw[List.length_drop] at hi
  have:=s.el (k+i) oM;rw[Nat.add_mul,←Nat.add_assoc] at this
  rwa [List.getD_eq_getElem?_getD,List.getElem?_drop,←List.getD_eq_getElem?_getD]
 ·rw[List.drop_eq_nil_of_le hk];exact SlO.nil
section ss
variable {w0:World} {h0:Hp} {w:World} {h:Hp} {B:List Bx} {R:List Rw} {F:List (Hp→Prop)}
theorem SS.rowA (s:SS w0 h0 w h B R F)(j:Nat){ty:TypeId}{sz c m:Nat}{A:Option Addr}{cs:List Value}(hpos:0<m)(hr:R.getD j default=⟨ty,sz,A,c,m,cs⟩:=by kernel_rfl)(hj:decide (j<R.length)=true:=by kernel_rfl):∃ b,A=some ⟨b,0,none⟩:=by
 have hj':=oT hj;have r:=s.ro _ (List.getElem_mem hj');rw[mT hr hj'] at r
 rcases r.own with ⟨_,⟨_,e⟩|⟨b,cap,cur,e,_⟩⟩
 ·simp only[] at e;omega
 ·simp only[Rw.v] at e
  injection e with e
  exact ⟨b,e⟩
theorem SS.rowO (s:SS w0 h0 w h B R F)(j:Nat){ty:TypeId}{sz c m b:Nat}{cs:List Value}(hr:R.getD j default=⟨ty,sz,some ⟨b,0,none⟩,c,m,cs⟩)(hj:j<R.length):∃ vs:List Value,Own w b ty vs∧vs.take (m*sz)=cs∧cs.length=m*sz∧h0.size≤b∧m≤c∧c≤maxLen∧vs.length=c*sz:=by
 have r:=s.ro _ (List.getElem_mem hj);rw[mT hr hj] at r
 rcases r.own with ⟨h1,⟨e,_⟩|⟨g,cap,cur,e,hb,hg,hn,hm,hs,ht⟩⟩
 ·simp[Rw.v] at e
 ·simp only[Rw.v] at e
  injection e with e1 e2 e3
  injection e1 with e1
  injection e1 with e1
  subst e1 e3;exact ⟨cur.toList,by simpa [Own] using hg,ht,h1,hb,hn,hm,by simpa using hs⟩
theorem uu {vs cs:List Value}{k i:Nat}{v:Value}(h:vs.take k=cs)(hv:cs[i]?=some v):vs[i]?=some v:=by
 have hi:i<cs.length:=(List.getElem?_eq_some_iff.1 hv).1;rw[←h] at hi
 rw[List.length_take] at hi
 rw[←h,List.getElem?_take_of_lt oM] at hv
 exact hv
end ss
section laws
variable {M:Ms} {P:Program} {n:Nat} {N R:Po} {X:Nat→Po} {ops:Array Oper} {k k0:Nat} {hr:Hp} {AL:List Al} {L:Array Bool} {Γ:bW} {w:World} {h:Hp} {w0:World} {h0:Hp} {B:List Bx} {Rs:List Rw} {F:List (Hp→Prop)}
theorem SS.rowrun {α:Type}{w':World}{sem:Sem α}{r:α}(s:SS w0 h0 w h B Rs F)(j:Nat){ty:TypeId}{sz c m b o:Nat}{cs ds:List Value}(hr':Rs.getD j default=⟨ty,sz,some ⟨b,0,none⟩,c,m,cs⟩)(hj:j<Rs.length)(hds:(cs.drop o).take ds.length=ds)(x:Ext w w')(he:bO P sem ds=some (r,jL b o ds.length)):sem.run P w'=.ok r w':=by
 obtain ⟨vs,ho,hv,_⟩:=s.rowO j hr' hj;exact bQ _ _ _ _ he (fun i a v ha hv'=>by rw[dz _ _ _ _ _ ha,(ho.ext x).cell];exact uu hv (lp hds i v hv'))
theorem H0 (t j:Nat)(v:Value)(ds:List Value){ty:TypeId}{sz c m b o:Nat}{cs:List Value}(s:SS w0 h0 w h B Rs F)(hds:(cs.drop o).take ds.length=ds)(H:LG P n N R X ops (k+1) ((t,v)::Γ) w)(hr':Rs.getD j default=⟨ty,sz,some ⟨b,0,none⟩,c,m,cs⟩:=by kernel_rfl)(hj:decide (j<Rs.length)=true:=by kernel_rfl)(hc:cL ops Γ k t n=true:=by kernel_rfl)(he:bO P (execOp (ev Γ) (au ops k)) ds=some (.value v,jL b o ds.length):=by kernel_rfl):LG P n N R X ops k Γ w :=
 LG.val t v w (bH hc).1 (bH hc).2 (s.rowrun j hr' (oT hj) hds (Ext.refl _) he) H
end laws
theorem l8 (x y:Int):(if y>x then y else x)=max x y:=by omega
theorem uo (x y:Int):(if y<x then y else x)=min x y:=by omega
section z
variable {bs:List Nat} {P:Program} {n:Nat} {N R:Po} {X:Nat→Po} {ops:Array Oper} {k0:Nat} {hr:Hp} {AL:List Al} {L:Array Bool} {Γ:bW} {w wr:World} {h:Hp} {w0:World} {h0:Hp} {B:List Bx} {Rs:List Rw} {F F1:List (Hp→Prop)}
abbrev Mz (hr:Hp)(bs:List Nat):Ms:=⟨[],some (hr.size,bs)⟩
theorem jd {id:Nat}{d:Bool}(k0:Nat)(AL:List Al)(bs:List Nat)(hm:P.follows .mixedOrders=true)(s:SS w0 h0 w h B Rs F)(oks:∀ x∈AL,AlOk P ops k0 x)(H:EG (Mz h bs) P n N R X ops k0 h AL (Array.replicate ops.size false) Γ w h)(hord:jV ops=true:=by kernel_rfl):CG P n N R X (.region id ops d) Γ w :=
 CG.region (Mz h bs) k0 AL hm hord s.g oks (fun _ hb=>by cases hb) H
theorem BF (sr:SS w0 h0 wr hr B Rs F1)(s:SS w0 h0 w h B Rs F){w':World}(hx:∀ b,b<hr.size→b ∉ bs→b ∉ ([]:List Nat)→w'.heap[b]?=w.heap[b]?):∀ x∈B,x.b ∉ bs→Own w' x.b x.t x.vs:=fun x hm hb =>
 (hx x.b (aN (sr.st.jk x hm)) hb List.not_mem_nil).trans (s.st.own x hm)
theorem gZ (i t:Nat)(ps:List (Nat × Nat × Nat))(v:Value)(sr:SS w0 h0 wr hr B Rs F1)(s:SS w0 h0 w h B Rs F)(H:EG (Mz hr bs) P n N R X ops k0 hr AL (L.setIfInBounds i true) ((t,v)::Γ) w h)(hM:∀ p∈ps,(av B p.1).b ∉ bs:=by intro _ _;exact List.not_mem_nil)(hc:cE n ops k0 AL L Γ i t=true:=by kernel_rfl)(hp:cP B ps=true:=by kernel_rfl)(he:bO P (execOp (ev Γ) (au ops i)) (dB B ps)=some (.value v,bZ B ps):=by kernel_rfl):EG (Mz hr bs) P n N R X ops k0 hr AL L Γ w h :=
 Rg.loadZ i t v rfl (ir hc).1 (ir hc).2 (fun w' hx=>bQ _ _ _ _ he (ge hM (BF sr s hx) ps (fun _ h=>h) hp)) H
theorem HY {α:Type}(i t j:Nat)(l:List α)(f:α→List Value)(sz:Nat)(d:α)(e:Nat)(v:Value)(sr:SS w0 h0 wr hr B Rs F1)(s:SS w0 h0 w h B Rs F)(hk:e<l.length)(H:EG (Mz hr bs) P n N R X ops k0 hr AL (L.setIfInBounds i true) ((t,v)::Γ) w h)(hM:(av B j).b ∉ bs:=by exact List.not_mem_nil)(hc:cE n ops k0 AL L Γ i t=true:=by kernel_rfl)
  (hj:decide (j<B.length)=true:=by kernel_rfl)(hB:(av B j).vs=l.flatMap f:=by kernel_rfl)(hf:∀ x,(f x).length=sz:=by intro _;rfl)
  (he:bO P (execOp (ev Γ) (au ops i)) (f (l.getD e d))=some (.value v,jL (av B j).b (0+e*sz) (f (l.getD e d)).length):=by kernel_rfl):EG (Mz hr bs) P n N R X ops k0 hr AL L Γ w h :=
 Rg.loadZ i t v rfl (ir hc).1 (ir hc).2 (fun w' hx=>bQ _ _ _ _ he (fun q a u ha hu=>by
  rw[dz _ _ _ _ _ ha,(BF sr s hx _ (a8 (oT hj)) hM).cell,hB];rw[←d7 hf d l e hk] at hu
  have hq:q<sz:=by
   rcases Nat.lt_or_ge q sz with hl|hl
   ·exact hl
   ·rw[List.getElem?_eq_none (by simp;omega)] at hu;cases hu
  rw[List.getElem?_take_of_lt hq,List.getElem?_drop] at hu
  rw[Nat.zero_add];exact hu)) H
theorem xD {x y:Al}(sr:SS w0 h0 wr hr B Rs F)(s:SS w0 h0 w h B Rs F)(t:TypeId)(vs:List Value)(t2:TypeId)(vs2:List Value)(H:∀ w' h' b c,hr.size≤b→hr.size≤c→SS w0 h0 w' h' (⟨b,t,vs⟩::⟨c,t2,vs2⟩::B) Rs F→AG (Mz hr bs) P n N R X ops k0 ((L.setIfInBounds y.i true).setIfInBounds x.i true) ((x.t,.pointer (some ⟨b,0,none⟩))::(y.t,.pointer (some ⟨c,0,none⟩))::Γ) w')(hc:(fi ops [x,y] L && decide (x.t<n) && decide (y.t<n) && (x.t != y.t) && (x.i != y.i))=true:=by kernel_rfl)(ho:x.o=.cells vs.toArray t (0,0):=by kernel_rfl)(ho2:y.o=.cells vs2.toArray t2 (0,0):=by kernel_rfl):EG (Mz hr bs) P n N R X ops k0 hr [x,y] L Γ w h :=
 Rg.fin2 hc (fun w' h' b c u k k2 hne=>H w' h' b c k.2.2 k2.2.2 ⟨s.g0,St.new2 sr.st (s.st.step u) k k2 hne t vs ho t2 vs2 ho2,fun r hr'=>(((s.step u).ro r hr').new c (fun d hd e=>by
  have h1:=(sr.ro r hr').lt hd;have h2:hr.size≤c:=k2.2.2
  omega)).new b (fun d hd e=>by
  have h1:=(sr.ro r hr').lt hd;have h2:hr.size≤b:=k.2.2
  omega),s.ap,s.mo,(s.step u).f⟩)
theorem fC {b:Nat}(hb:hr.size≤b):∀ K bs',(Mz hr bs).z=some (K,bs')→K≤b∨b∈bs':=fun K bs' e=>by
 injection e with e
 injection e with e1 e2
 subst e1;exact .inl hb
theorem aR {b:Nat}(hb:b∈bs):∀ K bs',(Mz hr bs).z=some (K,bs')→K≤b∨b∈bs':=fun K bs' e=>by
 injection e with e
 injection e with e1 e2
 subst e2;exact .inr hb
end z
theorem DI {α:Type}{f:α→List Value}{sz:Nat}(hf:∀ x,(f x).length=sz)(d:α)(l:List α)(k:Nat)(hk:k<l.length):((l.flatMap f).drop (0+k*sz)).take (f (l.getD k d)).length=f (l.getD k d):=by
 rw[Nat.zero_add,hf];exact d7 hf d l k hk
section row
variable {P:Program} {n:Nat} {N R:Po} {X:Nat→Po} {ops:Array Oper} {k:Nat} {Γ:bW} {w:World} {h:Hp} {w0:World} {h0:Hp} {B:List Bx} {Rs:List Rw} {F:List (Hp→Prop)}
end row
section rb
variable {w0:World} {h0:Hp} {w:World} {h:Hp} {B:List Bx} {R:List Rw} {F:List (Hp→Prop)}
end rb
section app
variable {M:Ms} {P:Program} {n:Nat} {N R:Po} {X:Nat→Po} {ops:Array Oper} {k k0:Nat} {hr:Hp} {AL:List Al} {L:Array Bool} {Γ:bW} {w:World} {h:Hp} {w0:World} {h0:Hp} {B:List Bx} {Rs:List Rw} {F:List (Hp→Prop)}
end app
section fin
variable {M:Ms} {P:Program} {n:Nat} {N R:Po} {X:Nat→Po} {ops:Array Oper} {k0:Nat} {hr:Hp} {AL:List Al} {L:Array Bool} {Γ:bW} {w:World} {h:Hp} {w0:World} {h0:Hp} {B:List Bx} {Rs:List Rw} {F:List (Hp→Prop)}
end fin
def fW (x:Nat):List Value:=[.int .u32 (x:Nat)]
abbrev S3 (A:Option Addr)(l:List Nat):Hp→Prop:=fun h_=>SlO 1 fW 0 h_ A l
theorem mh:∀ f n:Nat,nF f n=oH 4294967296 f n
  | 0,_=>rfl
  | f+1,n=>by
    unfold nF oH
    split
    · rfl
    · rw[mh f]
theorem Bj (n:Nat):lim n=iC 4294967296 n:=mh n n
def Ld (l:List Nat):Prop:=Dg 4294967296 l
theorem Ld.lim (n:Nat):Ld (lim n):=fun x hx=>ju n x hx
theorem Ld.get {l:List Nat}(h:Ld l)(k:Nat):l.getD k 0<4294967296:=Dg.getD h kD k
theorem Ld.set {l:List Nat}(h:Ld l)(k:Nat){x:Nat}(hx:x<4294967296):Ld (l.set k x):=Dg.set h k hx
theorem Ld.rep (n:Nat):Ld (List.replicate n 0):=Dg.rep kD
theorem oK (n:Nat):am 4294967296 (lim n)=n:=by rw[←js];exact fr n
theorem vq {l:List Nat}(h:Ld l){n:Nat}(e:am 4294967296 l=n):lim n=l.take (tl l l.length):=by
 rw[←e,←js];exact wk h
theorem pJ {l:List Nat}(h:Ld l){n:Nat}(e:am 4294967296 l=n):(lim n).length=tl l l.length:=by
 rw[vq h e,List.length_take];have:=il l l.length;omega
theorem iL (n:Nat):n<4294967296^(lim n).length:=by rw[Bj];exact iM kD n
theorem gf {a b:Nat}(h:a≤b):(lim a).length≤(lim b).length:=gd (Nat.lt_of_le_of_lt h (iL b))
theorem ou {a b k:Nat}(h:a≤b)(hb:(lim b).length≤k):(lim a).length≤k:=Nat.le_trans (gf h) hb
theorem qu (n:Nat):(lim n).length≤2*(wds n).length:=by
 refine gd ?_;have:=du n
 rwa [show (18446744073709551616:Nat)=4294967296^2 by rfl,←Nat.pow_mul] at this
theorem xY (n:Nat):(wds n).length≤(lim n).length:=by
 refine dI kD ?_;have:=iL n;exact Nat.lt_of_lt_of_le this (Nat.pow_le_pow_left kD _)
theorem fJ {a b:Nat}(h:(lim a).length<(lim b).length):a<b:=by
 rcases Nat.lt_or_ge a b with hl|hl
 ·exact hl
 ·have:=gf hl;omega
theorem xV {a b:Nat}(h:lim a=lim b):a=b:=by rw[←fr a,←fr b,h]
theorem fY {a b k:Nat}(hlen:(lim a).length=(lim b).length)(hk:k<(lim a).length)(hd:(lim a).drop (k+1)=(lim b).drop (k+1))(hlt:(lim a).getD k 0<(lim b).getD k 0):a<b:=by
 have ea:=bP 4294967296 (l:=lim a) (k:=k+1) oM;have eb:=bP 4294967296 (l:=lim b) (k:=k+1) oM;rw[oK] at ea eb
 rw[hd] at ea
 have ta:=aW 4294967296 (l:=lim a) (k:=k) hk;have tb:=aW 4294967296 (l:=lim b) (k:=k) oM;have la:=bX (Dg.take (Ld.lim a) k);rw[List.length_take,Nat.min_eq_left oM] at la
 have hm:4294967296^k*(lim a).getD k 0+4294967296^k≤4294967296^k*(lim b).getD k 0:=by
  rw[←Nat.mul_succ];exact Nat.mul_le_mul_left _ hlt
 omega
def RN (h:Hp)(v:Value)(n:Nat):Prop:=SlV 1 fW 0 h v (lim n)
def RI (h:Hp)(v:Value)(z:Int):Prop:=∃ A c,v=.agg #[.bool (aD z),.slice A (lim (ab z)).length c]∧(lim (ab z)).length≤c∧SlO 1 fW 0 h A (lim (ab z))
def RP (h:Hp)(v:Value)(z:Int)(n:Nat):Prop:=∃ A c B d,v=.agg #[.bool (aD z),.slice A (lim (ab z)).length c,.slice B (lim n).length d]∧(lim (ab z)).length≤c∧(lim n).length≤d∧SlO 1 fW 0 h A (lim (ab z))∧SlO 1 fW 0 h B (lim n)
def RQ (h:Hp)(v:Value)(q:Rat):Prop:=RP h v q.num q.den
theorem RN.trim {h:Hp}{A:Option Addr}{l:List Nat}{n m cap:Nat}(hd:Ld l)(e:am 4294967296 l=n)(hm:l.length=m)(hc:m≤cap)(s:SlO 1 fW 0 h A l):RN h (.slice A (tl l m) cap) n:=by
 subst hm;have e1:=pJ hd e;have:=il l l.length;refine ⟨A,cap,by rw[e1],by omega,?_⟩;rw[vq hd e];exact s.take _
theorem pE {h:Hp}{p b:Bool}{n cap:Nat}{A:Option Addr}(hb:b=(p && decide (0<n)))(hc:(lim n).length≤cap)(hA:SlO 1 fW 0 h A (lim n)):RI h (.agg #[.bool b,.slice A (lim n).length cap]) (ci p n):=by
 subst hb;refine ⟨A,cap,?_,?_,?_⟩
 ·rw[iX,eu]
 ·rw[eu];exact hc
 ·rw[eu];exact hA
theorem wP {l:List Nat}{m:Nat}(h:0<m)(h0:l.getD (m-1) 0=0):tl l m=tl l (m-1):=by
 obtain ⟨k,rfl⟩:∃ k,m=k+1:=⟨m-1,by omega⟩;rw[jY,if_pos (by simpa using h0)];rfl
theorem CZ {r x:Nat}(hx:x<4294967296):r*4294967296 ||| x=r*4294967296+x:=by
 have:=Nat.two_pow_add_eq_or_of_lt (i:=32) (b:=x) oM r;rw[Nat.mul_comm];exact this.symm
theorem sE {r x d:Nat}(hd0:0<d)(hr:r<d)(hx:x<4294967296)(hd:d<4294967296) :
  (r*4294967296+x)/d%4294967296=(r*4294967296+x)/d∧r*4294967296+x=d*((r*4294967296+x)/d)+(r*4294967296+x)%d∧(r*4294967296+x)%d<d:=by
 refine ⟨Nat.mod_eq_of_lt ?_,(Nat.div_add_mod _ _).symm,Nat.mod_lt _ hd0⟩;rw[Nat.div_lt_iff_lt_mul hd0];have h1:(r+1)*4294967296≤d*4294967296:=Nat.mul_le_mul_right _ hr;rw[Nat.mul_comm]
 omega
theorem vo {b:Nat}{l z:List Nat}{m d r r' q X:Nat}(hm:0<m)(hl:m-1<z.length)(h0:z.getD (m-1) 0=0)(inv:X=d*am b z+(b^m*r+am b (l.take m)))(e:r*b+l.getD (m-1) 0=d*q+r') :
  X=d*am b (z.set (m-1) q)+(b^(m-1)*r'+am b (l.take (m-1))):=by
 obtain ⟨k,rfl⟩:∃ k,m=k+1:=⟨m-1,by omega⟩;rw[Nat.add_sub_cancel] at *
 have h1:=di b q hl;rw[h0,Nat.mul_zero,Nat.add_zero] at h1
 have e2:=congrArg (b^k * ·) e
 simp only[Nat.mul_add] at e2
 rw[inv,h1,az,Nat.pow_succ,Nat.mul_add];have e3:b^k*(r*b)=b^k*b*r:=by rw[Nat.mul_comm r b,Nat.mul_assoc]
 have e4:b^k*(d*q)=d*(b^k*q):=by ac_rfl
 rw[e3,e4] at e2
 omega
section bld
variable {P:Program} {n:Nat} {N R:Po} {X:Nat→Po} {ops:Array Oper} {k:Nat} {Γ:bW} {w0:World} {h0:Hp} {B:List Bx} {Rs:List Rw} {F:List (Hp→Prop)} {wB:World} {hB:Hp}
theorem SS.liftJ (s:SS w0 h0 wB hB B Rs F){w:World}(x:Ext wB w):∃ h',SS w0 h0 w h' B Rs F∧∀ b,wB.heap.size≤b→b<w.heap.size→h'[b]?=some bc:=by
 have hs:=x.size;have e0:=s.g.size;refine ⟨hB++Array.replicate (w.heap.size-wB.heap.size) bc,s.step ⟨x,⟨by simp,fun b hb=>Array.getElem?_append_left hb⟩,⟨by simp;omega,fun b=>?_⟩⟩,fun b h1 h2=>?_⟩
 ·rcases Nat.lt_or_ge b hB.size with hb|hb
  ·rw[Array.getElem?_append_left hb]
   have e:=Below.block x b oM
   rcases s.g.blk b with h1|h1
   ·exact .inl (h1.trans e.symm)
   ·exact .inr h1
  ·rw[Array.getElem?_append_right hb,Array.getElem?_replicate]
   by_cases hl:b<w.heap.size
   ·right;rw[if_pos oM]
   ·left;rw[if_neg oM,Array.getElem?_eq_none oM]
 ·rw[Array.getElem?_append_right oM,Array.getElem?_replicate,if_pos oM]
theorem H5 (t:Nat)(ty:TypeId)(vs:List Value){w:World}{h:Hp}(s:SS w0 h0 w h B Rs F)(H:∀ w',Ext w w'→w.heap.size≤w'.heap.size→w'.heap[w.heap.size]?=some (.cells vs.toArray ty (0,0))→LG P n N R X ops (k+1) ((t,.pointer (some ⟨w.heap.size,0,none⟩))::Γ) w')(hc:cL ops Γ k t n=true:=by kernel_rfl)
  (hr:(execOp (ev Γ) (au ops k)).run P w=.ok (.value (.pointer (some ⟨w.heap.size,0,none⟩))) (w.alloc (.cells vs.toArray ty (0,0))):=by kernel_rfl):LG P n N R X ops k Γ w :=
 LG.val t _ (w.alloc (.cells vs.toArray ty (0,0))) (bH hc).1 (bH hc).2 hr (H _ ((Ext.refl _).alloc _) (by rw[heap_alloc];simp) (by rw[heap_alloc];simp))
theorem Hz (t:Nat){f:FuncId}{args:Array Value}{V:Value}{Q:World→Prop}{w:World}(s:SS w0 h0 wB hB B Rs F)(x:Ext wB w)(c:Calls P f args w fun e w'=>e=.returned V∧(Q w'∧Below wB.heap.size w w'))(H:∀ w' h',SS w0 h0 w' h' B Rs F→Ext wB w'→Q w'→LG P n N R X ops (k+1) ((t,V)::Γ) w')(hc:cL ops Γ k t n=true:=by kernel_rfl)
  (hr:(execOp (ev Γ) (au ops k)).run P w=.ok (.enter f args) w:=by kernel_rfl):LG P n N R X ops k Γ w :=
 LG.call t f args (bH hc).1 (bH hc).2 hr (c.mono fun e w' ⟨he,q,b⟩=>by
  have x':Ext wB w':=Below.trans x b;obtain ⟨h',s',_⟩:=s.liftJ x';exact ⟨V,he,H w' h' s' x' q⟩)
def AC (a b:Nat):List Nat:=(List.range b).filter (fun c=>decide (a≤c))
theorem j7 {a b c:Nat}:c∈AC a b↔a≤c∧c<b:=by
 unfold AC;rw[List.mem_filter,List.mem_range];simp;omega
theorem A.takeK {M:Ms}{Q:Exit→Act→World→Prop}{k0:Nat}{L:Array Bool}{a:Act}{w:World}{i:Nat}{o:Oper}{v:Value}{S:World→Prop}
  (hi:ops[i]?=some o)(hk:i<k0)(hsel:Region.noSelect ops=true)(hf:Region.free .any ops L i=true)(hr:i∈Region.ready .any ops L)(hQ:∀ c a w,¬Q (.panic c) a w)
  (hcl:∀ w w',S w→Mo M.l w w'→S w')(hS:S w)(hy:YieldsIf P ops S o v a)
  (htail:(∀ w,S w)∨(∀ w w',S w→Tl M w w'→S w')∨∀ j oj,ops[j]?=some oj→k0≤j→j≠i→∃ e∈oj.after,Region.binds .any e=true∧e.on=i)
  (H:A M P ops Q k0 (L.setIfInBounds i true) (a.put o.dst v) w):A M P ops Q k0 L a w:=by
 unfold A at *
 rw[fc hr]
 exact kJ hi (Region.noSelect_spec hsel) (fun c a w hq=>absurd hq (hQ _ _ _)) hcl _ _ _ _
  (fun j oj hj hji hun=>Region.free_spec hi hf j oj hj hji hun) htail hr hy hS H hk
variable {M:Ms} {k0:Nat} {L:Array Bool} {w:World}
theorem aV (i t:Nat)(v:Value)(H:AG M P n N R X ops k0 (L.setIfInBounds i true) ((t,v)::Γ) w)(hc:cE n ops k0 [] L Γ i t=true:=by kernel_rfl)(hv:∀ w,(execOp (ev Γ) (au ops i)).run P w=.ok (.value v) w:=by intro _;kernel_rfl):AG M P n N R X ops k0 L Γ w:=by
 obtain ⟨hc1,hw⟩:=ir hc;rw[Bool.and_eq_true] at hc1
 have c:=dO hc1.1;intro a ka;have e1:=ka.exec (Region.noSelect_spec c.sel i _ · · c.get) hc1.2;refine A.takeK (v:=v) (S:=fun _=>True) c.get c.lt c.sel c.free c.ready (fun _ _ _ hq=>hq) (fun _ _ _ _=>trivial) trivial (.inl ⟨ka.want hw,fun w _=>by rw[e1];exact hv w⟩) (.inl fun _=>trivial) ?_;rw[c.dst];exact H _ (ka.put c.tn v)
theorem aL (i t:Nat)(v:Value)(hr:∀ w',Mo M.l w w'→(execOp (ev Γ) (au ops i)).run P w'=.ok (.value v) w')(H:AG M P n N R X ops k0 (L.setIfInBounds i true) ((t,v)::Γ) w)(hc:wx n ops k0 [] L Γ i t=true:=by kernel_rfl):AG M P n N R X ops k0 L Γ w:=by
 obtain ⟨hc1,hw⟩:=gF hc;rw[Bool.and_eq_true,Bool.and_eq_true] at hc1
 obtain ⟨⟨hc2,hkn⟩,htl⟩:=hc1;have c:=dO hc2;intro a ka;have e1:=ka.exec (Region.noSelect_spec c.sel i _ · · c.get) hkn;refine A.takeK (v:=v) (S:=fun w'=>Mo M.l w w') c.get c.lt c.sel c.free c.ready (fun _ _ _ hq=>hq) (fun _ _ h1 h2=>h1.trans h2) (Mo.refl _ _) (.inl ⟨ka.want hw,fun w' hx=>by rw[e1];exact hr w' hx⟩) (.inr (.inr (iS htl))) ?_;rw[c.dst];exact H _ (ka.put c.tn v)
theorem aH (i t:Nat)(v:Value){h:Hp}{b o:Nat}{cs:List Value}(s:SS w0 h0 w h B Rs F)(sg:Seg h b o cs)(H:AG M P n N R X ops k0 (L.setIfInBounds i true) ((t,v)::Γ) w)(hM:∀ b∈M.l,h[b]?=some bc)(hc:wx n ops k0 [] L Γ i t=true:=by kernel_rfl)(he:bO P (execOp (ev Γ) (au ops i)) cs=some (.value v,jL b o cs.length):=by kernel_rfl):AG M P n N R X ops k0 L Γ w :=
 aL i t v (fun _ hx=>Seg.runM sg s.g hM hx he) H hc
def FY (ops:Array Oper)(k0:Nat)(L:Array Bool)(i:Nat):Bool:=decide (i<ops.size) && decide (i<k0) && Region.noSelect ops && (Region.ready .any ops L == [i])
theorem aC (i t:Nat){f:FuncId}{args:Array Value}(c:Calls P f args w fun e w'=>∃ v,e=.returned v∧Mo M.l w w'∧AG M P n N R X ops k0 (L.setIfInBounds i true) ((t,v)::Γ) w')(hc:(FY ops k0 L i && bp Γ (au ops i) && ((au ops i).dst == some t) && decide (t<n))=true:=by kernel_rfl)(hw:bv ops Γ (au ops i)=some true:=by kernel_rfl)
  (hr:(execOp (ev Γ) (au ops i)).run P w=.ok (.enter f args) w:=by kernel_rfl):AG M P n N R X ops k0 L Γ w:=by
 simp only[Bool.and_eq_true,decide_eq_true_eq,beq_iff_eq] at hc
 obtain ⟨⟨⟨h1,h2⟩,h3⟩,h4⟩:=hc
 unfold FY at h1
 simp only[Bool.and_eq_true,decide_eq_true_eq,beq_iff_eq] at h1
 have hg:=cp (ops:=ops) h1.1.1.1;intro a ka;refine A.intro (fun h0=>by rw[h1.2] at h0;cases h0) (fun j hj=>?_);rw[h1.2,List.mem_singleton] at hj
 subst hj;refine OpR.wpOp (R:=fun v w'=>Mo M.l w w'∧AG M P n N R X ops k0 (L.setIfInBounds j true) ((t,v)::Γ) w') hg ⟨ka.want hw,.inr (.inr ⟨f,args,?_,c⟩)⟩ (fun v w' hq=>⟨Rl.mo h1.1.1.2 hq.1,?_⟩)
 ·rw[ka.exec (Region.noSelect_spec h1.1.2 j _ · · hg) h2];exact hr
 ·rw[h3];exact hq.2 _ (ka.put h4 v)
theorem wn {id:Nat}(M:Ms)(k0:Nat)(hm:P.follows .mixedOrders=true)(H:AG M P n N R X ops k0 (Array.replicate ops.size false) Γ w.drew):CG P n N R X (.region id ops true) Γ w:=by
 intro a ka;refine wp_region_any hm ?_;have h1:=H a ka
 unfold A at h1
 rw[io] at h1
 exact kW _ _ _ _ _ _ _ _ _ h1
theorem SS.drew {h:Hp}(s:SS w0 h0 w h B Rs F):SS w0 h0 w.drew h B Rs F:=s.step (Up.drew (Up.refl s.g))
theorem wg {K:Nat}{w w':World}(x:Below K w w'):Mo (AC K w.heap.size) w w':=⟨x.os,x.tape,x.output,x.size,fun c hc hn=>by
 rcases Nat.lt_or_ge c K with h|h
 ·exact Below.block x c h
 ·exact absurd (j7.2 ⟨h,hc⟩) hn⟩
theorem ph {K:Nat}{T e:TypeId}{b:Nat}{bs:List Value}{w w1:World}(h:Lib.IsBuilder T e K b bs w)(x:Ext w w1):Lib.IsBuilder T e K b bs w1:=by
 have key:∀ p,Lib.BuilderAt T e K b p bs w→Lib.BuilderAt T e K b p bs w1:=by
  rintro p ⟨h1,v,h2,h3,h4⟩
  have hlt:b<w.heap.size:=by
   rcases Nat.lt_or_ge b w.heap.size with h'|h'
   ·exact h'
   ·rw[Array.getElem?_eq_none h'] at h2;cases h2
  exact ⟨h1,v,(Below.block x b hlt).trans h2,eo h3 (fun c hc=>Below.block x c (iE h3 hc)),h4⟩
 rcases h with h|h
 ·exact .inl (key _ h)
 ·exact .inr (key _ h)
theorem aX (i t:Nat)(A:Option Addr)(len cap sz:Nat)(x:Int)(j:Nat)(hA:A=some ⟨aB A,aO A,none⟩)(H:AG M P n N R X ops k0 (L.setIfInBounds i true) ((t,.pointer (some ⟨aB A,aO A+j*sz,none⟩))::Γ) w)(hc:cE n ops k0 [] L Γ i t=true:=by kernel_rfl)(he:xE P (ev Γ) (au ops i)=some (.slice A len cap,.int .i64 x,sz):=by kernel_rfl)(hk:x=j:=by omega)(hlt:j<len:=by omega):AG M P n N R X ops k0 L Γ w :=
 aV i t _ H hc (fun w=>gh he hA hk hlt w)
theorem pQ {P:List UInt8}{x m:Nat}(hm:m<8):Lib.byteCells (P++(b8 x).take m)++[.int .u8 ((x/2^(8*m)%256:Nat):Int)]=Lib.byteCells (P++(b8 x).take (m+1)):=by
 have e:(b8 x).take (m+1)=(b8 x).take m++[UInt8.ofNat (x/256^m)]:=by
  rw[List.take_add_one]
  congr 1
  unfold b8
  rw[List.getElem?_map,List.getElem?_range hm];rfl
 rw[e,←List.append_assoc]
 unfold Lib.byteCells
 rw[List.map_append (l₁:=P++_)]
 congr 1
 show _=[Value.int .u8 ((x/256^m%256:Nat):Int)]
 rw[Nat.pow_mul]
theorem rD {l:List Nat}{k:Nat}(hk:k<l.length):((l.take k).flatMap b8)++(b8 (l.getD k 0)).take 8=(l.take (k+1)).flatMap b8:=by
 have e:(b8 (l.getD k 0)).take 8=b8 (l.getD k 0):=List.take_of_length_le (by rw[jp];omega);rw[gO hk,List.flatMap_append,e];simp
theorem sv {l:List Nat}{k m x:Nat}(hk:k≤l.length)(hm:m≤8)(hl:l.length≤1099511627776):(Lib.byteCells ((l.take k).flatMap b8++(b8 x).take m)).length+1≤140737488355328:=by
 rw[Lib.byteCells_length,List.length_append,lz,List.length_take,List.length_take,jp];omega
theorem wI {l:List Nat}(h:tl l l.length=0):Value.agg #[.int .u64 0,.string ⟨#[]⟩]=nv (aA l):=by
 have e:=i0 18446744073709551616 l l.length (Nat.le_refl _);rw[h,List.take_length] at e
 have:aA l=0:=e.symm;rw[this];rfl
theorem D4 {l:List Nat}(hd:Wd l)(h:tl l l.length=1):Value.agg #[.int .u64 (l.getD 0 0:Nat),.string ⟨#[]⟩]=nv (aA l):=by
 have e:=i0 18446744073709551616 l l.length (Nat.le_refl _);have hle:=il l l.length;rw[h,List.take_length,az] at e
 have e2:aA l=l.getD 0 0:=by show am _ l=_;rw[←e];simp[am]
 rw[e2];have:=hd.get 0
 unfold nv
 rw[j8 this,ki this]
theorem Bh {l:List Nat}(hd:Wd l)(h:0<tl l l.length):Value.agg #[.int .u64 (l.getD 0 0:Nat),.string ⟨(((l.drop 1).take (tl l l.length-1)).flatMap b8).toArray⟩]=nv (aA l):=by
 have e:=mO hd;have e1:((l.drop 1).take (tl l l.length-1))=(wds (aA l)).drop 1:=by rw[e,List.drop_take]
 unfold nv
 rw[Ge (n:=aA l) (by rw[e1]),pA,e,it h]
end bld
section
variable {P:Program} {Γ:bW} {o:Oper}
theorem de {f:FuncId}{args:Array Value}{v:Value}{w:World}(h:(execOp (ev Γ) o).run P w=(callFunc f args).run P w)(k:(callFunc f args).run P w=.ok (.value v) w):(execOp (ev Γ) o).run P w=.ok (.value v) w:=h.trans k
end
theorem dh (x y c:Nat)(hx:x<18446744073709551616)(hy:y<18446744073709551616)(hc:c≤1):∃ s c':Nat,s+18446744073709551616*c'=x+y+c∧s<18446744073709551616∧c'≤1∧∀ w,(callFunc 197 #[.int .u64 x,.int .u64 y,.int .u64 c]).run Tryz.prog w=.ok (.value (.tuple #[.int .u64 s,.int .u64 c'])) w:=by
 refine ⟨(x+y+c)%18446744073709551616,(x+y+c)/18446744073709551616,by omega,by omega,by omega,fun w=>?_⟩;rw[run_callFunc_extern Tryz.func197 kR kR kR (e:=add64Entry) kR,run_add64 x y c oM oM oM oM]
 simp only[Result.andThen]
 congr 5<;>omega
theorem iD (x y b:Nat)(hx:x<18446744073709551616)(hy:y<18446744073709551616)(hb:b≤1):∃ s b':Nat,s+y+b=x+18446744073709551616*b'∧s<18446744073709551616∧b'≤1∧∀ w,(callFunc 198 #[.int .u64 x,.int .u64 y,.int .u64 b]).run Tryz.prog w=.ok (.value (.tuple #[.int .u64 s,.int .u64 b'])) w:=by
 refine ⟨(x+18446744073709551616-y-b)%18446744073709551616,if x<y+b then 1 else 0,by split<;>omega,by omega,by split<;>omega,fun w=>?_⟩;rw[run_callFunc_extern Tryz.func198 kR kR kR (e:=sub64Entry) kR,run_sub64 x y b hb]
 rfl
theorem Ret.of_same {f:FuncId}{args:Array Value}{V:Value}{P:Program}{w:World}{h:Hp}(g:G w h)(c:Calls P f args w fun e w'=>e=.returned V∧w'=w):Calls P f args w (Ret w h fun v _=>v=V) :=
 c.mono fun e w' ⟨he,hw⟩=>by subst hw;exact ⟨V,h,he,Up.refl g,rfl⟩
theorem kl (x y:Nat)(hx:x<18446744073709551616)(hy:y<18446744073709551616)(w:World)(h:Hp)(g:G w h):CR 157 #[uV x,uV y] w h (fun v _=>∃ hi lo:Nat,v=.tuple #[uV hi,uV lo]∧lo+18446744073709551616*hi=x*y∧lo<18446744073709551616∧hi<18446744073709551616∧hi≤18446744073709551614):=by
 refine (Ret.of_same g (Tryz.bits_Mul64 x y hx hy w)).mono ?_;rintro e w' ⟨v,h',he,u,rfl⟩;have h1:x*y≤18446744073709551615*18446744073709551615:=Nat.mul_le_mul oM oM;exact ⟨_,h',he,u,x*y/18446744073709551616,x*y%18446744073709551616,rfl,by omega,by omega,by omega,by omega⟩
theorem lM {n:Nat}(h:n<18446744073709551616):Lib.bitLen n=nb n:=by
 rcases Nat.eq_zero_or_pos n with h0|h0
 ·subst h0;rfl
 ·obtain ⟨s1,s2,s3⟩:=cB h0
  have hle:nb n≤64:=kv (k:=64) h;have:=Lib.bitLen_shift (nb n-1) n s1 h
  have h1:n/2^(nb n-1)=1:=by
   have:n<2^(nb n-1)*2:=by rw[←Nat.pow_succ];rwa [show (nb n-1).succ=nb n by omega]
   refine Nat.div_eq_of_lt_le oM oM
  rw[h1] at this
  have e1:Lib.bitLen 1=1:=by decide
  omega
theorem uH (x:Nat)(hx:x<18446744073709551616)(w:World)(h:Hp)(g:G w h):CV 111 #[uV x] w h (nV (nb x)):=by
 have:=Ret.of_same g (Tryz.bits_Len64 x w oM oM);rw[Int.toNat_natCast,lM hx] at this
 exact this
theorem BA (x:Nat)(hx:x<18446744073709551616)(w:World)(h:Hp)(g:G w h):CV 216 #[uV x] w h (nV (64-nb x)):=by
 have:=Ret.of_same g (Tryz.bits_LeadingZeros64 x w oM oM);have hle:nb x≤64:=kv (k:=64) hx;rw[Int.toNat_natCast,lM hx,show (64:Int)-(nb x:Nat)=((64-nb x:Nat):Int) by omega] at this
 exact this
theorem gC {a b:Nat}(ha:a<18446744073709551616)(hb:b<18446744073709551616):a*b≤340282366920938463426481119284349108225:=by
 have h1:a≤18446744073709551615:=by omega
 have h2:b≤18446744073709551615:=by omega
 exact Nat.mul_le_mul h1 h2
theorem uU (A:Option Addr)(c:Nat)(l:List Nat)(m:Nat)(hm:l.length=m)(hl:l.length≤1099511627776)(hc:l.length≤c)(w:World)(h:Hp)(g:G w h)(hA:S3 A l h):CV 117 #[.slice A m c] w h (.slice A (tl l m) c):=by
 have hs:=((sS g).aS hA);refine go Tryz.func117 [(0,qS A m c)] rfl (aa hs [.v 2 (sZ)] (aT (lL hs [.m 4 0,.v 5 (nV m),.m 3 5] (af (kZ ?_)))));refine bx _ (CG.loop (fun μ_ Γ w_=>∃ (n:Nat) (h_:Hp),μ_=n∧Γ=[(0,qS A m c),(2,sZ),(3,nV n)]∧SS w h w_ h_ [] [] [S3 A l]∧n≤m∧tl l m=tl l n) _ ⟨m,h,rfl,rfl,hs.to _ _,nR _,rfl⟩ ?_);rintro _ _ w1 ⟨n,h2,hm3,rfl,hs,hn,ht⟩;refine cQ (aa hs [.m 6 3] ?_);cases hb4:(decide ((0:Int)<(n:Int)))
 ·
  have phb4:=oF hb4;refine lB 7 hb4 (lL hs [.m 8 7] (lG 9 ?_));refine lG 10 (lG 11 (lG 12 (lG 13 (lG 14 (lL hs [.v 15 qF] (aj (CG.exit ?_)))))))
  show CG _ _ _ _ _ _ _ _
  refine aa hs [.m 18 0,.m 19 3] (lT 20 A m c 1 (n:Nat) n ?_);exact lL hs [.m 2 20] (ae hs [] (qS A n c) (by rw[ht,mn oM]))
 have phb4:=oT hb4;refine lB 7 hb4 (lL hs [.m 8 7,.m 9 0,.m 10 3] (bB 11 ((n:Nat)-1) (n-1) ?_));refine lX 12 A m c 1 (n-1:Nat) (n-1) ((hs.f.1).ok oM) (lH 13 (mW (l.getD (n-1) 0)) hs ((hs.f.1).el (n-1) oM) ?_);cases hb5:(((l.getD (n-1) 0:Nat):Int) == (0:Int))
 ·
  have phb5:=ah hb5;refine lB 14 hb5 (lL hs [.v 15 qF] (aj (CG.exit ?_)))
  show CG _ _ _ _ _ _ _ _
  refine aa hs [.m 18 0,.m 19 3] (lT 20 A m c 1 (n:Nat) n ?_);exact lL hs [.m 2 20] (ae hs [] (qS A n c) (by rw[ht,mn oM]))
 have phb5:=eq_of_beq hb5;refine lB 14 hb5 (lL hs [.v 15 qT] (ao (cK (kZ (kQ (lL hs [.m 16 3] (bB 17 ((n:Nat)-1) (n-1) ?_)))))));refine lL hs [.m 3 17] (lD ?_);intro a_ ka;refine ⟨_,_,?_,⟨n-1,h2,rfl,rfl,hs.to _ _,oM,(by rw[ht];exact wP oM oM)⟩,ka.to _ kR⟩
 omega
theorem rY {h:Hp}{A:Option Addr}{n cap:Nat}(hn:n<18446744073709551616)(hc:2≤cap)(s:SlO 1 fW 0 h A [n%4294967296,n/4294967296]):RN h (.slice A (tl [n%4294967296,n/4294967296] 2) cap) n :=
 RN.trim (Dg.cons oM (Dg.one oM)) (by simp only[am];omega) rfl hc s
theorem pI (n:Nat)(hn:n<18446744073709551616)(w:World)(h:Hp)(g:G w h):CR 74 #[mV n] w h (fun v h=>RN h v n):=by
 have hs:=sS g;refine go Tryz.func74 [(0,mV n)] rfl (aa hs [.v 2 (sZ)] (aT (lL hs [.m 3 0] (lV 4 (mW (n%4294967296)) ?_ (hr:=rT ((n:Int)) kR (vG _))))));refine lL hs [.m 5 0] (lV 6 (mV (n/4294967296)) ?_ (hr:=ay (n:=Int.fdiv (n:Int) 4294967296) kR (j3 _ 4294967296)));refine lV 7 (mW (n/4294967296)) ?_ (hr:=rT (((n/4294967296:Nat):Int)) kR (pe oM oM));refine lR 8 178 2 ([mW (n%4294967296),mW (n/4294967296)]) hs (fun b1 w2 h3 hs=>?_);replace hs:=hs.aS (SlO.of_flat (sz:=1) (f:=fW) (d:=0) (l:=[(n%4294967296),(n/4294967296)]) (fun _=>rfl) hs.f.1);exact ag 9 hs (uU (sB b1) 2 ([(n%4294967296),(n/4294967296)]) 2 (by first|rfl|omega|assumption) (by simp) (by simp) _ _ hs.g hs.f.1) (fun w6 h7 hs=>lL hs [.m 2 9] (ae hs [] (qS (sB b1) (tl ([(n%4294967296),(n/4294967296)]) 2) 2) (rY hn oM hs.f.1)))
theorem G2 (n:Nat)(A:Option Addr)(cap:Nat)(hc:(lim n).length≤cap)(w:World)(h:Hp)(g:G w h)(hA:S3 A (lim n) h):CR 73 #[.bool false,.slice A ((lim n).length) cap] w h (fun v h=>RI h v (ci false n)):=by
 have hs:=((sS g).aS hA);refine go Tryz.func73 [(0,qF),(1,qS A ((lim n).length) cap)] rfl (aE (lA 4 48 ([qF,sZ]) hs (fun b1 w2 h3 hs=>aT (lL hs [.m 5 0,.m 6 5] (lG 7 ?_)))));exact lG 8 (lG 9 (lL hs [.v 10 qF,.m 11 1,.v 12 (.agg #[qF,qS A ((lim n).length) cap])] (lP 0 0 ([qF,qS A ((lim n).length) cap]) hs (fun w4 hs=>ae hs [(0,0,2)] (.agg #[qF,qS A ((lim n).length) cap]) (pE rfl hc hs.f.1)))))
theorem HC (n:Nat)(A:Option Addr)(cap:Nat)(hc:(lim n).length≤cap)(w:World)(h:Hp)(g:G w h)(hA:S3 A (lim n) h):CR 73 #[.bool true,.slice A ((lim n).length) cap] w h (fun v h=>RI h v (ci true n)):=by
 have hs:=((sS g).aS hA);have hp:=@er n;refine go Tryz.func73 [(0,qT),(1,qS A ((lim n).length) cap)] rfl (aE (lA 4 48 ([qF,sZ]) hs (fun b1 w2 h3 hs=>aT (lL hs [.m 5 0,.m 6 5,.m 7 1,.v 8 (nV ((lim n).length))] ?_))));cases hb4:(decide ((0:Int)<(((lim n).length:Nat):Int)))
 ·
  have phb4:=oF hb4;exact lB 9 hb4 (lL hs [.v 10 qF,.m 11 1,.v 12 (.agg #[qF,qS A ((lim n).length) cap])] (lP 0 0 ([qF,qS A ((lim n).length) cap]) hs (fun w5 hs=>ae hs [(0,0,2)] (.agg #[qF,qS A ((lim n).length) cap]) (pE (by simp only[Bool.true_and];first|(symm;exact decide_eq_true oM)|(symm;exact decide_eq_false oM)) hc hs.f.1))))
 have phb4:=oT hb4;exact lB 9 hb4 (lL hs [.v 10 qT,.m 11 1,.v 12 (.agg #[qT,qS A ((lim n).length) cap])] (lP 0 0 ([qT,qS A ((lim n).length) cap]) hs (fun w6 hs=>ae hs [(0,0,2)] (.agg #[qT,qS A ((lim n).length) cap]) (pE (by simp only[Bool.true_and];first|(symm;exact decide_eq_true oM)|(symm;exact decide_eq_false oM)) hc hs.f.1))))
theorem rI (p:Bool)(n:Nat)(A:Option Addr)(cap:Nat)(hc:(lim n).length≤cap)(w:World)(h:Hp)(g:G w h)(hA:S3 A (lim n) h):CR 73 #[.bool p,.slice A (lim n).length cap] w h (fun v h=>RI h v (ci p n)):=by
 cases p
 ·exact G2 n A cap hc w h g hA
 ·exact HC n A cap hc w h g hA
theorem o5 (z:Int)(h0:z<0)(h1 : -9223372036854775808≤z)(w:World)(h:Hp)(g:G w h):CR 30 #[iV z] w h (fun v h=>RI h v (ci true (ab z))):=by
 have hs:=sS g;have hi:ab z≤9223372036854775808:=by unfold ab;omega
 refine go Tryz.func30 [(0,iV z)] rfl (aE (lA 2 48 ([qF,sZ]) hs (fun b1 w2 h3 hs=>af (aa hs [.m 3 0] ?_))));have ⟨hb4,phb4⟩:=dT (p:=(z:Int)<(0:Int)) oM;refine lB 4 hb4 (ao (aa hs [.m 5 0] (lV 6 (mV (18446744073709551616-ab z)) ?_ (hr:=rU (z) kR (by rw[IntKind.wrap_u64];unfold ab;omega)))));refine lV 7 (mV (ab z)) ?_ (hr:=rU ((0-((18446744073709551616-ab z:Nat):Int))) kR (by rw[IntKind.wrap_u64];omega));refine lC 8 hs (pI (ab z) oM _ _ hs.g) ?_;rintro _ w9 _ hs ⟨A5,c6,rfl,hc7,hA8⟩;replace hs:=hs.aS hA8;refine lC 9 hs (rI true (ab z) A5 c6 hc7 _ _ hs.g hs.f.1) ?_;rintro _ _ _ hs ⟨za,zb,rfl,zc,zd⟩;replace hs:=hs.aS zd;exact lP 0 0 ([.bool (aD (ci true (ab z))),qS za ((lim (ab (ci true (ab z)))).length) zb]) hs (fun _ hs=>ae hs [(0,0,2)] (.agg #[.bool (aD (ci true (ab z))),qS za ((lim (ab (ci true (ab z)))).length) zb]) (⟨_,_,rfl,zc,hs.f.1⟩))
theorem pS (z:Nat)(h1:z<9223372036854775808)(w:World)(h:Hp)(g:G w h):CR 30 #[nV z] w h (fun v h=>RI h v (ci false z)):=by
 have hs:=sS g;refine go Tryz.func30 [(0,nV z)] rfl (aE (lA 2 48 ([qF,sZ]) hs (fun b1 w2 h3 hs=>af (aa hs [.m 3 0] ?_))));have ⟨hb4,phb4⟩:=dF (p:=(z:Int)<(0:Int)) oM;refine lB 4 hb4 (aj (cK (aa hs [.m 10 0] (lV 11 (mV z) ?_ (hr:=rU ((z:Int)) kR (bG oM oM))))));refine lC 12 hs (pI z oM _ _ hs.g) ?_;rintro _ w9 _ hs ⟨A5,c6,rfl,hc7,hA8⟩;replace hs:=hs.aS hA8;refine lC 13 hs (rI false z A5 c6 hc7 _ _ hs.g hs.f.1) ?_;rintro _ _ _ hs ⟨za,zb,rfl,zc,zd⟩;replace hs:=hs.aS zd;exact lP 0 0 ([.bool (aD (ci false z)),qS za ((lim (ab (ci false z))).length) zb]) hs (fun _ hs=>ae hs [(0,0,2)] (.agg #[.bool (aD (ci false z)),qS za ((lim (ab (ci false z))).length) zb]) (⟨_,_,rfl,zc,hs.f.1⟩))
theorem uA (z:Int)(h0 : -9223372036854775808≤z)(h1:z<9223372036854775808)(w:World)(h:Hp)(g:G w h):CR 30 #[iV z] w h (fun v h=>RI h v z):=by
 rcases Int.lt_or_le z 0 with hz|hz
 ·have e:ci true (ab z)=z:=by unfold ci ab;simp;omega
  have:=o5 z hz h0 w h g;rw[e] at this
  exact this
 ·obtain ⟨n,rfl⟩:=Int.eq_ofNat_of_zero_le hz
  exact pS n oM w h g
theorem jy (a:Nat)(A:Option Addr)(c:Nat)(hc:(lim a).length≤c)(b:Nat)(D:Option Addr)(d:Nat)(hd:(lim b).length≤d)(hLa:(lim a).length≤4000000000)(hLb:(lim b).length≤4000000000)(w:World)(h:Hp)(g:G w h)(hA:S3 A (lim a) h)(hD:S3 D (lim b) h):CV 95 #[.slice A ((lim a).length) c,.slice D ((lim b).length) d] w h (iV (bT a b)):=by
 have hs:=(((sS g).aS hA).aS hD);refine go Tryz.func95 [(0,qS A ((lim a).length) c),(1,qS D ((lim b).length) d)] rfl (aa hs [.v 4 (iV 0)] (af (aa hs [.m 6 0,.v 7 (nV ((lim a).length)),.m 8 1,.v 9 (nV ((lim b).length))] ?_)));cases hb1:((((lim a).length:Nat):Int) != (((lim b).length:Nat):Int))
 ·
  have phb1:=aI hb1;refine lB 10 hb1 (aj (cK (cQ (aa hs [.m 16 0,.v 17 (nV ((lim a).length))] (lV 18 (iV ((((lim a).length:Nat):Int)-1)) ?_ (hr:=rS ((((lim a).length:Nat)-1)) kR ((fS oM oM).trans oM)))))));refine lL hs [.m 5 18] (bj ?_);refine bx _ (CG.loop (fun μ_ Γ w_=>∃ (m:Nat) (h_:Hp),μ_=m∧Γ=[(0,qS A ((lim a).length) c),(1,qS D ((lim b).length) d),(5,iV ((m:Int)-1))]∧SS w h w_ h_ [] [] [S3 D (lim b),S3 A (lim a)]∧m≤(lim a).length∧(lim a).length=(lim b).length∧(lim a).drop m=(lim b).drop m) _ ⟨(lim a).length,h,rfl,rfl,hs.to _ _,nR _,oM,(by rw[List.drop_eq_nil_of_le oM,List.drop_eq_nil_of_le oM])⟩ ?_);rintro _ _ w2 ⟨m,h3,hm4,rfl,hs,hm,hlen,hdr⟩;refine cQ (aa hs [.m 19 5] ?_);cases hb5:(decide ((0:Int)≤((m:Int)-1:Int)))
  ·
   have phb5:=oF hb5;refine lB 20 hb5 (aj (CG.exit ?_))
   show CG _ _ _ _ _ _ _ _
   exact aa hs [.v 4 (iV 0)] (ae hs [] (iV 0) (by rw[gz (xV (by obtain rfl:m=0:=oM;simpa using hdr))]))
  have phb5:=oT hb5;refine lB 20 hb5 (ao (cK (cQ (kZ (cQ (cR 9 [] mixed hs aq ?_))))));refine eV 0 23 (qS A ((lim a).length) c) (eV 1 24 (iV ((m:Int)-1)) (eX 2 25 A ((lim a).length) c 1 ((m:Int)-1) (m-1) ((hs.f.2.1).ok oM) (eH 3 26 (mW ((lim a).getD (m-1) 0)) hs ((hs.f.2.1).el (m-1) oM) (eV 4 27 (qS D ((lim b).length) d) (eV 5 28 (iV ((m:Int)-1)) (eX 6 29 D ((lim b).length) d 1 ((m:Int)-1) (m-1) ((hs.f.1).ok oM) (eH 7 30 (mW ((lim b).getD (m-1) 0)) hs ((hs.f.1).el (m-1) oM) ?_)))))));cases hb6:((((lim a).getD (m-1) 0:Nat):Int) != (((lim b).getD (m-1) 0:Nat):Int))
  ·
   have phb6:=aI hb6;refine eB 8 31 hb6 (bM hs (fun w7 h8 hs=>tN (cM (cK (kQ (lL hs [.m 21 5] (lV 22 (iV (((m-1:Nat):Int)-1)) ?_ (hr:=rS ((((m:Int)-1)-1)) kR ((fS oM oM).trans oM)))))))));refine lL hs [.m 5 22] (lD ?_);intro a_ ka;refine ⟨_,_,?_,⟨m-1,h8,rfl,rfl,hs.to _ _,oM,hlen,(eT (k:=m-1) hlen oM (by rw[show m-1+1=m by omega];exact hdr) oM)⟩,ka.to _ kR⟩
   omega
  have phb6:=aJ hb6;refine eB 8 31 hb6 (bM hs (fun _ _ hs=>tN (bS (cQ (cQ (cR 9 [] mixed hs aq ?_))))));refine eV 0 32 (qS A ((lim a).length) c) (eV 1 33 (iV ((m:Int)-1)) (eX 2 34 A ((lim a).length) c 1 ((m:Int)-1) (m-1) ((hs.f.2.1).ok oM) (eH 3 35 (mW ((lim a).getD (m-1) 0)) hs ((hs.f.2.1).el (m-1) oM) (eV 4 36 (qS D ((lim b).length) d) (eV 5 37 (iV ((m:Int)-1)) (eX 6 38 D ((lim b).length) d 1 ((m:Int)-1) (m-1) ((hs.f.1).ok oM) (eH 7 39 (mW ((lim b).getD (m-1) 0)) hs ((hs.f.1).el (m-1) oM) ?_)))))));cases za:(decide ((((lim a).getD (m-1) 0:Nat):Int)<(((lim b).getD (m-1) 0:Nat):Int)))
  ·
   have zc:=oF za;exact eB 8 40 za (bM hs (fun _ _ hs=>tN (cM (cK (aa hs [.v 4 (iV 1)] (ae hs [] (iV 1) (by rw[eZ (by first|exact fJ oM|exact fY (k:=m-1) oM oM (by rw[show m-1+1=m by omega];exact hdr.symm) oM)])))))))
  have zc:=oT za;exact eB 8 40 za (bM hs (fun _ _ hs=>tN (bS (aa hs [.v 4 (iV (-1))] (ae hs [] (iV (-1)) (by rw[dN (by first|exact fJ oM|exact fY (k:=m-1) oM oM (by rw[show m-1+1=m by omega];exact hdr) oM)]))))))
 have phb1:=aJ hb1;refine lB 10 hb1 (ao (cQ (aa hs [.m 11 0,.v 12 (nV ((lim a).length)),.m 13 1,.v 14 (nV ((lim b).length))] ?_)));cases zb:(decide ((((lim a).length:Nat):Int)<(((lim b).length:Nat):Int)))
 ·
  have zd:=oF zb;exact lB 15 zb (aj (cK (aa hs [.v 4 (iV 1)] (ae hs [] (iV 1) (by rw[eZ (by first|exact fJ oM|exact fY (k:=m-1) oM oM (by rw[show m-1+1=m by omega];exact hdr.symm) oM)])))))
 have zd:=oT zb;exact lB 15 zb (ao (aa hs [.v 4 (iV (-1))] (ae hs [] (iV (-1)) (by rw[dN (by first|exact fJ oM|exact fY (k:=m-1) oM oM (by rw[show m-1+1=m by omega];exact hdr) oM)]))))
theorem uB {a b q r:Nat}(h:a=b*q+r)(hr:r<b):q=a/b∧r=a%b:=by
 subst h;rw[Nat.mul_add_div oM,Nat.div_eq_of_lt hr,Nat.mul_add_mod,Nat.mod_eq_of_lt hr];simp
theorem Hb (a:Nat)(A:Option Addr)(c:Nat)(hc:(lim a).length≤c)(hLa:(lim a).length≤4000000000)(d:Nat)(hd0:0<d)(hd:d<4294967296)(w:World)(h:Hp)(g:G w h)(hA:S3 A (lim a) h):CR 115 #[.slice A ((lim a).length) c,mW d] w h (fun v h1=>∃ v1,∃ r:Nat,v=.tuple #[v1,mW r]∧RN h1 v1 (a/d)∧r=a%d):=by
 have hs:=((sS g).aS hA);refine go Tryz.func115 [(0,qS A ((lim a).length) c),(1,mW d)] rfl (aa hs [.v 4 (sZ),.v 5 (uW 0)] (aT (lL hs [.m 9 0,.v 10 (nV ((lim a).length))] (lK 11 178 ((lim a).length) 1 4 (uW 0) fW 0 hs (fun b1 w2 h3 hs=>?_)))));have hl4:(List.replicate ((lim a).length) 0).length=((lim a).length):=by simp
 refine lL hs [.m 6 11] (aT (lL hs [.v 7 (uV 0)] (af (aa hs [.m 12 0,.v 13 (nV ((lim a).length))] (lV 14 (iV ((((lim a).length:Nat):Int)-1)) ?_ (hr:=rS ((((lim a).length:Nat)-1)) kR ((fS oM oM).trans oM)))))));refine lL hs [.m 8 14] (bj ?_);refine bx _ (CG.loop (fun μ_ Γ w_=>∃ (m:Nat) (z:List Nat) (r:Nat) (h_:Hp),μ_=m∧Γ=[(0,qS A ((lim a).length) c),(1,mW d),(4,sZ),(5,uW 0),(6,qS (sB b1) ((lim a).length) ((lim a).length)),(8,iV ((m:Int)-1)),(7,mV r)]∧SS w h w_ h_ [⟨b1,178,(z).flatMap fW⟩] [] [S3 A (lim a)]∧m≤(lim a).length∧z.length=(lim a).length∧Ld z∧a=d*am 4294967296 z+(4294967296^m*r+am 4294967296 ((lim a).take m))∧r<d∧(∀ k,k<m→z.getD k 0=0)) _ ⟨(lim a).length,List.replicate ((lim a).length) 0,0,h3,rfl,rfl,hs.to _ _,nR _,hl4,Ld.rep _,(by rw[fs,List.take_length,oK];simp),hd0,fun k _=>fX⟩ ?_);rintro _ _ w5 ⟨m,z,r,h6,hm7,rfl,hs,hm,hzl,hZ,inv,hr,hz⟩;have hai:=(Ld.lim a).get (m-1);refine cQ (aa hs [.m 15 8] ?_);cases hb8:(decide ((0:Int)≤((m:Int)-1:Int)))
 ·
  have phb8:=oF hb8;refine lB 16 hb8 (aj (CG.exit ?_))
  show CG _ _ _ _ _ _ _ _
  refine aa hs [.m 39 6] ?_;have hm0:m=0:=by omega
  rw[hm0,Nat.pow_zero,Nat.one_mul,List.take_zero] at inv
  have inv_:a=d*am 4294967296 z+r:=by simpa [am] using inv
  obtain ⟨hE_,hE2⟩:=uB inv_ hr;have hE:am 4294967296 z=a/d:=hE_;obtain ⟨h9,hs,sg10,lo11,bc12⟩:=hs.pub 0;replace hs:=(hs.to [] []).aS (SlO.of_flat (sz:=1) (f:=fW) (d:=0) (b:=b1) (o:=0) (l:=z) (fun _=>rfl) sg10);refine ag 40 hs (uU (sB b1) ((lim a).length) z ((lim a).length) hzl oM oM _ _ hs.g hs.f.1) (fun _ _ hs=>lL hs [.m 41 7] (lV 42 (mW r) ?_ (hr:=ay (ay (n:=IntKind.wrap .u32 (r:Int)) kR (vG _)) oM)));exact lL hs [.m 4 40,.m 5 42] (ae hs [] (.tuple #[qS (sB b1) (tl z ((lim a).length)) ((lim a).length),mW r]) (⟨_,r,rfl,RN.trim hZ hE hzl (nR _) hs.f.1,hE2⟩))
 have phb8:=oT hb8;refine lB 16 hb8 (ao (cK (cQ (kZ (aa hs [.m 19 7] (lV 20 (mV (r*4294967296%18446744073709551616)) ?_ (hr:=rU (((r:Int)*4294967296)) kR (kY r 4294967296))))))));refine lL hs [.m 21 0,.m 22 8] (lX 23 A ((lim a).length) c 1 ((m:Int)-1) (m-1) ((hs.f.1).ok oM) ?_);refine lH 24 (mW ((lim a).getD (m-1) 0)) hs ((hs.f.1).el (m-1) oM) (lV 25 (mV ((lim a).getD (m-1) 0)) ?_ (hr:=rU ((((lim a).getD (m-1) 0:Nat):Int)) kR (bG oM oM)));refine lV 26 (mV (r*4294967296+(lim a).getD (m-1) 0)) ?_ (hr:=ay (i8 (t:=22) (u:=22) (x:=.tmp 20) (y:=.tmp 25) (a:=(r*4294967296%18446744073709551616)) (b:=((lim a).getD (m-1) 0)) kR kR kR oM oM _) (by rw[Nat.mod_eq_of_lt (show r*4294967296<18446744073709551616 by omega),CZ hai]));refine lL hs [.m 7 26] (aT (lL hs [.m 27 6,.m 28 8,.m 29 7,.m 30 1] (lV 31 (mV d) ?_ (hr:=rU ((d:Int)) kR (bG oM oM)))));have hqr:=sE (r:=r) (x:=(lim a).getD (m-1) 0) hd0 hr hai hd;refine lV 32 (mV ((r*4294967296+(lim a).getD (m-1) 0)/d)) ?_ (hr:=ay (dQ (t:=22) (u:=22) (x:=.tmp 29) (y:=.tmp 31) (k:=.u64) (a:=((r*4294967296+(lim a).getD (m-1) 0:Nat):Int)) (b:=(d:Int)) kR kR kR oM _) (kg (r*4294967296+(lim a).getD (m-1) 0) d oM));refine lV 33 (mW (((r*4294967296+(lim a).getD (m-1) 0)/d:Nat)%4294967296)) ?_ (hr:=rT ((((r*4294967296+(lim a).getD (m-1) 0)/d:Nat):Int)) kR (vG _));refine lX 34 (sB b1) ((lim a).length) ((lim a).length) 1 ((m:Int)-1) (m-1) rfl (lW 0 z fW 1 (m-1) (((r*4294967296+(lim a).getD (m-1) 0)/d:Nat)%4294967296:Nat) hs oM (fun _ hs=>?_));have za:((z).set (m-1) (((r*4294967296+(lim a).getD (m-1) 0)/d:Nat)%4294967296:Nat)).length=((lim a).length):=by rw[List.length_set];exact hzl
 replace hs:=hs.to [⟨b1,178,((z).set (m-1) (((r*4294967296+(lim a).getD (m-1) 0)/d:Nat)%4294967296:Nat)).flatMap fW⟩] [];refine lN (kQ (lL hs [.m 35 7,.m 36 1] (lV 37 (mV d) ?_ (hr:=rU ((d:Int)) kR (bG oM oM)))));refine lV 38 (mV ((r*4294967296+(lim a).getD (m-1) 0)%d)) ?_ (hr:=ay (fD (t:=22) (u:=22) (x:=.tmp 35) (y:=.tmp 37) (k:=.u64) (a:=((r*4294967296+(lim a).getD (m-1) 0:Nat):Int)) (b:=(d:Int)) kR kR kR oM _) (dD (r*4294967296+(lim a).getD (m-1) 0) d));refine lL hs [.m 7 38] (lN (kQ (lL hs [.m 17 8] (lV 18 (iV (((m-1:Nat):Int)-1)) ?_ (hr:=rS ((((m:Int)-1)-1)) kR ((fS oM oM).trans oM))))));refine lL hs [.m 8 18] (lD ?_);intro a_ ka;refine ⟨_,_,?_,⟨m-1,(z).set (m-1) (((r*4294967296+(lim a).getD (m-1) 0)/d:Nat)%4294967296:Nat),((r*4294967296+(lim a).getD (m-1) 0)%d:Nat),h6,rfl,rfl,hs.to _ _,oM,za,(hZ.set _ (Nat.mod_lt _ kD)),(by rw[hqr.1];exact vo oM oM (hz _ oM) inv hqr.2.1),hqr.2.2,(fun k hk=>by rw[bD oM,if_neg oM];exact hz k oM)⟩,ka.to _ kR⟩
 omega
theorem pN {B:List Bx}:∀ (ps:List (Nat × Nat × Nat)) (q:Nat) (a:Addr),(bZ B ps)[q]?=some a→∃ p∈ps,a.block=(av B p.1).b:=by
  intro ps
  induction ps with
  | nil=>intro q a h;simp[bZ] at h
  | cons p ps ih =>
    intro q a h
    unfold bZ at h
    rcases Nat.lt_or_ge q (jL (av B p.1).b p.2.1 p.2.2).length with hl|hl
    · rw[List.getElem?_append_left hl] at h
      exact ⟨p,by simp,by rw[dz _ _ _ _ _ h]⟩
    · rw[List.getElem?_append_right hl] at h
      obtain ⟨p',hp',e⟩:=ih _ _ h;exact ⟨p',by simp[hp'],e⟩
section
variable {M:Ms} {P:Program} {n:Nat} {N R:Po} {X:Nat→Po} {ops:Array Oper} {k k0:Nat} {L:Array Bool} {Γ:bW} {w:World} {h:Hp} {w0:World} {h0:Hp} {B:List Bx} {Rs:List Rw} {F:List (Hp→Prop)}
theorem GM {α:Type}(j:Nat)(l:List α)(f:α→List Value)(sz e:Nat)(x:α)(s:SS w0 h0 w h B Rs F)(hk:e<l.length)(H:∀ w',Put (av B j).b w w'→SS w0 h0 w' h (fO B j ((l.set e x).flatMap f)) Rs F→LG P n N R X ops (k+1) Γ w')(hc:cS ops Γ k=true:=by kernel_rfl)
  (hj:decide (j<B.length)=true:=by kernel_rfl)(hB:(av B j).vs=l.flatMap f:=by kernel_rfl)(hf:∀ x,(f x).length=sz:=by intro _;rfl)
  (he:dW P (execOp (ev Γ) (au ops k))=some (.skip,mB (av B j).b (0+e*sz) (f x)):=by kernel_rfl):LG P n N R X ops k Γ w :=
 LG.putA j l f sz e x s.st s.g0 (i4 hc).1 (i4 hc).2 hj hB hf hk he (fun w' p s'=>H w' p (s.put0 (oT hj) p s' (jh (oT hj))))
theorem HZ {α:Type}(i j:Nat)(l:List α)(f:α→List Value)(sz e:Nat)(x:α)(s:SS w0 h0 w h B Rs F)(hk:e<l.length)(H:∀ w',Put (av B j).b w w'→SS w0 h0 w' h (fO B j ((l.set e x).flatMap f)) Rs F→AG M P n N R X ops k0 (L.setIfInBounds i true) Γ w')(hc:CB ops k0 L Γ i=true:=by kernel_rfl)
  (hj:decide (j<B.length)=true:=by kernel_rfl)(hB:(av B j).vs=l.flatMap f:=by kernel_rfl)(hf:∀ x,(f x).length=sz:=by intro _;rfl)
  (he:dW P (execOp (ev Γ) (au ops i))=some (.skip,mB (av B j).b (0+e*sz) (f x)):=by kernel_rfl)(hz:∀ K bs,M.z=some (K,bs)→K≤(av B j).b∨(av B j).b∈bs:=by intro _ _ e;cases e):AG M P n N R X ops k0 L Γ w :=
 T.putA i j l f sz e x s.st s.g0 (jA hc).1 (jA hc).2 hj hB hf hk he (fun w' p s'=>H w' p (s.put0 (oT hj) p s' (jh (oT hj)))) hz
theorem aQ {α:Type}(i t j:Nat)(l:List α)(f:α→List Value)(sz:Nat)(d:α)(e:Nat)(v:Value)(s:SS w0 h0 w h B Rs F)(hk:e<l.length)(H:AG M P n N R X ops k0 (L.setIfInBounds i true) ((t,v)::Γ) w)(hM:(av B j).b ∉ M.l:=by exact List.not_mem_nil)(hc:wx n ops k0 [] L Γ i t=true:=by kernel_rfl)
  (hj:decide (j<B.length)=true:=by kernel_rfl)(hB:(av B j).vs=l.flatMap f:=by kernel_rfl)(hf:∀ x,(f x).length=sz:=by intro _;rfl)
  (he:bO P (execOp (ev Γ) (au ops i)) (f (l.getD e d))=some (.value v,jL (av B j).b (0+e*sz) (f (l.getD e d)).length):=by kernel_rfl):AG M P n N R X ops k0 L Γ w :=
 aL i t v (fun w' hx=>bQ _ _ _ _ he (fun q a u ha hu=>by
  rw[dz _ _ _ _ _ ha,((s.st.own _ (a8 (oT hj))).mo hx hM).cell,hB];rw[←d7 hf d l e hk] at hu
  have hq:q<sz:=by
   rcases Nat.lt_or_ge q sz with hl|hl
   ·exact hl
   ·rw[List.getElem?_eq_none (by simp;omega)] at hu;cases hu
  rw[List.getElem?_take_of_lt hq,List.getElem?_drop] at hu
  rw[Nat.zero_add];exact hu)) H hc
theorem wK (t j:Nat){f:FuncId}{args:Array Value}{Φ:Value→Prop}(s:SS w0 h0 w h B Rs F)(c:∀ hp,G w hp→AllF F hp→Seg hp (av B j).b 0 (av B j).vs→Calls P f args w (Ret w hp (fun v _=>Φ v)))(H:∀ v w' h',Up w h w' h'→SS w0 h0 w' h' B Rs F→Φ v→LG P n N R X ops (k+1) ((t,v)::Γ) w')(hj:decide (j<B.length)=true:=by kernel_rfl)(hc:cL ops Γ k t n=true:=by kernel_rfl)(hr:(execOp (ev Γ) (au ops k)).run P w=.ok (.enter f args) w:=by kernel_rfl):LG P n N R X ops k Γ w :=
 nB t (s.lends (oT hj) c) (fun v w' h' u hΦ=>H v w' h' u (s.step u) hΦ) hc hr
theorem SS.lends2 (s:SS w0 h0 w h B Rs F){i j:Nat}(hi:i<B.length)(hj:j<B.length)(hne:i≠j){f:FuncId}{args:Array Value}{Φ:Value→Prop}(c:∀ hp,G w hp→AllF F hp→Seg hp (av B i).b 0 (av B i).vs→Seg hp (av B j).b 0 (av B j).vs→Calls P f args w (Ret w hp (fun v _=>Φ v))):Calls P f args w (Ret w h (fun v _=>Φ v)):=by
 have hm:=a8 hi;have hm2:=a8 hj;have hb:(av B j).b≠(av B i).b:=a6 s.st (decide_eq_true hj) (decide_eq_true hi) (by simpa using hne.symm);obtain ⟨hp,g,gw,sg,ho⟩:=tF s.g (s.st.jk _ hm) (s.st.own _ hm);have hj2:hp[(av B j).b]?=some bc:=by rw[ho _ hb];exact s.st.jk _ hm2
 obtain ⟨hp2,g2,gw2,sg2,ho2⟩:=tF g hj2 (s.st.own _ hm2);refine (c hp2 g2 ((s.f.gw s.mo gw).gw s.mo gw2) (sg.gw gw2) sg2).mono ?_;rintro e w' ⟨v,h',he,u,hΦ⟩;obtain ⟨h1,u1⟩:=pF hj2 ho2 (g.sz g2) u;obtain ⟨h2,u2⟩:=pF (s.st.jk _ hm) ho (s.g.sz g) u1;exact ⟨v,h2,he,u2,hΦ⟩
theorem Hw (t i j:Nat){f:FuncId}{args:Array Value}{Φ:Value→Prop}(s:SS w0 h0 w h B Rs F)(c:∀ hp,G w hp→AllF F hp→Seg hp (av B i).b 0 (av B i).vs→Seg hp (av B j).b 0 (av B j).vs→Calls P f args w (Ret w hp (fun v _=>Φ v)))(H:∀ v w' h',SS w0 h0 w' h' B Rs F→Φ v→LG P n N R X ops (k+1) ((t,v)::Γ) w')(hij:(decide (i<B.length) && decide (j<B.length) && (i != j))=true:=by kernel_rfl)(hc:cL ops Γ k t n=true:=by kernel_rfl)(hr:(execOp (ev Γ) (au ops k)).run P w=.ok (.enter f args) w:=by kernel_rfl):LG P n N R X ops k Γ w:=by
 simp only[Bool.and_eq_true,decide_eq_true_eq,bne_iff_ne,ne_eq] at hij
 exact lC t s (s.lends2 hij.1.1 hij.1.2 hij.2 c) H hc hr
theorem wS {w w':World}{h hp h':Hp}{b:Nat}{M:List Nat}(hj:h[b]?=some bc)(ho:∀ c,c≠b→hp[c]?=h[c]?)(hsz:hp.size=h.size)(u:UpM M w hp w' h'):∃ h'',UpM M w h w' h''∧(∀ c,c≠b→h''[c]?=h'[c]?):=by
 have hlt:=aN hj;have hlt':b<h'.size:=Nat.lt_of_lt_of_le oM u.gr.size;refine ⟨h'.setIfInBounds b bc,⟨u.mo,⟨by simp;rw[←hsz];exact u.gr.size,fun c hc=>?_⟩,⟨by simp;exact u.g.size,fun c=>?_⟩⟩,fun c hc=>Array.getElem?_setIfInBounds_ne (Ne.symm hc)⟩
 ·by_cases e:b=c
  ·subst e;rw[Array.getElem?_setIfInBounds_self_of_lt hlt',hj]
  ·rw[Array.getElem?_setIfInBounds_ne e,u.gr.blk c oM,ho c (Ne.symm e)]
 ·by_cases e:b=c
  ·subst e;right;rw[Array.getElem?_setIfInBounds_self_of_lt hlt']
  ·rw[Array.getElem?_setIfInBounds_ne e];exact u.g.blk c
theorem EX (t i j:Nat){f:FuncId}{args:Array Value}{Φ:Value→World→Prop}(s:SS w0 h0 w h B Rs F)(c:∀ hp,G w hp→AllF F hp→hp[(av B i).b]?=some bc→Seg hp (av B j).b 0 (av B j).vs→Calls P f args w (ef (av B i).b w hp (fun v w' _=>Φ v w')))(H:∀ v w' h',UpM [(av B i).b] w h w' h'→Φ v w'→LG P n N R X ops (k+1) ((t,v)::Γ) w')(hij:(decide (i<B.length) && decide (j<B.length) && (i != j))=true:=by kernel_rfl)(hc:cL ops Γ k t n=true:=by kernel_rfl)(hr:(execOp (ev Γ) (au ops k)).run P w=.ok (.enter f args) w:=by kernel_rfl):LG P n N R X ops k Γ w:=by
 simp only[Bool.and_eq_true,decide_eq_true_eq,bne_iff_ne,ne_eq] at hij
 have hm:=a8 hij.1.2;have hb:(av B i).b≠(av B j).b:=a6 s.st (decide_eq_true hij.1.1) (decide_eq_true hij.1.2) (by simpa using hij.2);obtain ⟨hp,g,gw,sg,ho⟩:=tF s.g (s.st.jk _ hm) (s.st.own _ hm);refine fL (rb:=(av B i).b) (Φ:=fun v w' _=>Φ v w') (h:=h) t ((c hp g (s.f.gw s.mo gw) (by rw[ho _ hb];exact s.st.jk _ (a8 hij.1.1)) sg).mono ?_) (fun v w' h' u hΦ=>H v w' h' u hΦ) hc hr;rintro e w' ⟨v,h',he,u,hΦ⟩;obtain ⟨h'',u',_⟩:=wS (s.st.jk _ hm) ho (s.g.sz g) u;exact ⟨v,h'',he,u',hΦ⟩
theorem H7 {α:Type}(t j:Nat)(x y:Operand)(tt e:TypeId)(f:α→List Value)(d:α)(A:Option Addr)(l2:List α)(m m2 c dc:Nat)(s:SS w0 h0 w h B Rs F)(so:SlO 1 f d h A l2)(hm2:l2.length=m2)(hmm:m2=m)(hpos:0<m)(hlen:(av B j).vs.length=m)
  (H:∀ w',SS w0 h0 w' h (fO B j (l2.flatMap f)) Rs F→LG P n N R X ops (k+1) ((t,.int .i64 (m:Nat))::Γ) w')(hm47:m≤1099511627776:=by omega)(hc:cL ops Γ k t n=true:=by kernel_rfl)(hj:decide (j<B.length)=true:=by kernel_rfl)
  (hf:∀ x,(f x).length=1:=by intro _;rfl)(h1:∀ x,(f x).all (·.oneCell')=true:=by intro _;kernel_rfl)(ho:(au ops k).op=.call { callee:=.builtin .copy,args:=#[x,y],argTypes:=#[tt,tt] }:=by kernel_rfl)(hx:ev Γ x=.slice (some ⟨(av B j).b,0,none⟩) m dc:=by kernel_rfl)(hy:ev Γ y=.slice A m2 c:=by kernel_rfl)
  (hu:P.underlying tt=some (.slice e):=by kernel_rfl)(hi:(P.info? e).map (·.size)=some 1:=by kernel_rfl):LG P n N R X ops k Γ w:=by
 subst hmm;have hm:=hm2;have hj':=oT hj;have hown:=s.st.own _ (a8 hj');have hl:(l2.flatMap f).length=m2:=by rw[cj hf,hm];omega
 rw[so.ok oM] at hy
 have hrun:=run_copy_row (P:=P) w tt tt (au ops k).type e (av B j).b 0 m2 dc ⟨aB A,aO A,none⟩ m2 c (av B j).vs.toArray (av B j).t (l2.flatMap f) hu hi hown (by rw[hl];exact (Nat.min_self m2).symm) (mm s.g (so.flat hf)) (by rw[hl];simp[hlen]) (fun u hu=>by
  obtain ⟨a,_,ha⟩:=List.mem_flatMap.1 hu;exact (List.all_eq_true.1 (h1 a)) u ha)
 have e1:((av B j).vs.toArray.toList.take 0++l2.flatMap f++(av B j).vs.toArray.toList.drop (0+(l2.flatMap f).length)).toArray=(l2.flatMap f).toArray:=by
  rw[hl];simp[List.drop_eq_nil_of_le,hlen]
 rw[e1,hl] at hrun
 have p:Put (av B j).b w (w.setRow (av B j).b (l2.flatMap f).toArray):=⟨rfl,rfl,rfl,by simp,fun c hc=>setRow_other _ _ _ _ hc⟩
 have ho':Own (w.setRow (av B j).b (l2.flatMap f).toArray) (av B j).b (av B j).t (eP (av B j).vs 0 (l2.flatMap f)):=by
  have e2:eP (av B j).vs 0 (l2.flatMap f)=l2.flatMap f:=by
   have:=gX (l2.flatMap f) (av B j).vs [] (by rw[hlen,hl])
   simpa using this
  rw[e2];exact setRow_heap _ _ _ _ _ _ hown
 have s':=s.st.put s.g0 hj' p ho'
 have e2:eP (av B j).vs 0 (l2.flatMap f)=l2.flatMap f:=by
  have:=gX (l2.flatMap f) (av B j).vs [] (by rw[hlen,hl])
  simpa using this
 unfold fP at s'
 rw[e2] at s'
 refine LG.val t _ _ (bH hc).1 (bH hc).2 ?_ (H _ (s.put0 hj' p s' (jh hj')))
 unfold execOp
 have e3:goInt m2=.int .i64 (m2:Nat):=rfl;rw[e3] at hrun
 simp only[ho,resolve,invoke,builtin,Sem.run_bind,Sem.run_pure,Result.andThen_ok,List.map_toArray,List.map_cons,List.map_nil,hx,hy,hrun]
theorem oV {Q:Exit→Act→World→Prop}{i:Nat}{oi:Oper}{v:Value}{S:World→Prop}(hi:ops[i]?=some oi)(hsel:∀ (j:Nat) (o:Oper) cs b,ops[j]?=some o→o.op≠.select cs b)
    (hQ:∀ c a w,Q (.panic c) (a.put oi.dst v) w→Q (.panic c) a w)(hcl:∀ w w',S w→Tl M w w'→S w') :
    ∀ (n:Nat) (L:Array Bool) (a:Act) (w:World),
      (∀ j oj,ops[j]?=some oj→j≠i→L.getD j true=false→(∀ e∈oj.after,Region.binds .any e=true→e.on≠i)→oi.apart ops oj=true) →
      i∈Region.ready .any ops L→YieldsIf P ops S oi v a→S w→px M P ops Q 0 n (L.setIfInBounds i true) (a.put oi.dst v) w→px M P ops Q 0 (n+1) L a w:=by
  intro n
  induction n with
  | zero =>
    intro L a w _ hr hy hS H;refine ⟨fun h=>(by rw[h] at hr;cases hr),fun j hj=>?_⟩
    by_cases hji:j=i
    · subst hji;exact hy.wpOp hi hS ⟨Rl.refl _ _ _ _,H⟩
    · have:=ready_mono hj hji
      rw[H.1] at this
      cases this
  | succ n ih =>
    intro L a w hfree hr hy hS H;refine ⟨fun h=>(by rw[h] at hr;cases hr),fun j hj=>?_⟩
    by_cases hji:j=i
    · subst hji;exact hy.wpOp hi hS ⟨Rl.refl _ _ _ _,H⟩
    · have h1:=H.2 j (ready_mono hj hji)
      obtain ⟨hjun,oj,hoj,hall⟩:=mem_ready.1 hj
      have hnot:∀ e∈oj.after,Region.binds .any e=true→e.on≠i:=fun e he hb heq=>by
        have h1:=hall e he hb;have h0:=(mem_ready.1 hr).1;rw[heq] at h1
        obtain ⟨hl,h0'⟩:=EM h0
        simp[Array.getD,hl,h0'] at h1
      have h2:=wpOp_putIf hoj (hfree j oj hoj hji hjun hnot) (fun cs b=>hsel i oi cs b hi) (fun cs b=>hsel j oj cs b hoj) hQ hy h1
      have hfree':∀ k ok,ops[k]?=some ok→k≠i→(L.setIfInBounds j true).getD k true=false →
          (∀ e∈ok.after,Region.binds .any e=true→e.on≠i)→oi.apart ops ok=true:=fun k ok hk hki hun hno=>by
        refine hfree k ok hk hki ?_ hno
        by_cases hjk:j=k
        · subst hjk;exact hjun
        · rw[getD_set_ne true hjk] at hun;exact hun
      refine wpOp_mono (fun a' w' h3=>⟨h3.2.1,ih (L.setIfInBounds j true) a' w' hfree' (ready_mono hr (Ne.symm hji)) h3.1 (hcl _ _ hS (h3.2.1.2 (Nat.zero_le _))) ?_⟩) h2;rw[Array.setIfInBounds_comm _ _ hji];exact h3.2.2
def Bd (n:Nat)(ops:Array Oper)(L:Array Bool)(Γ:bW)(i t:Nat):Bool :=
  decide (i<ops.size) && Region.noSelect ops && Region.free .any ops L i && (Region.ready .any ops L).contains i && ((au ops i).dst == some t) && decide (t<n) && bp Γ (au ops i) && (bv ops Γ (au ops i) == some true)
theorem BL (i t:Nat)(v:Value){S:World→Prop}(hcl:∀ w w',S w→Tl M w w'→S w')(hS:S w)(hv:∀ w',S w'→(execOp (ev Γ) (au ops i)).run P w'=.ok (.value v) w')(H:AG M P n N R X ops 0 (L.setIfInBounds i true) ((t,v)::Γ) w)(hc:Bd n ops L Γ i t=true):AG M P n N R X ops 0 L Γ w:=by
 unfold Bd at hc
 simp only[Bool.and_eq_true,decide_eq_true_eq,beq_iff_eq] at hc
 obtain ⟨⟨⟨⟨⟨⟨⟨h1,h2⟩,h3⟩,h4⟩,h5⟩,h6⟩,h7⟩,h8⟩:=hc;have hr:i∈Region.ready .any ops L:=by simpa using h4
 have hg:=cp (ops:=ops) h1;intro a ka;have e1:=ka.exec (Region.noSelect_spec h2 i _ · · hg) h7;have HA:=H _ (ka.put h6 v)
 unfold A at *
 rw[fc hr];refine oV (S:=S) hg (Region.noSelect_spec h2) (fun c a w hq=>hq.elim) hcl _ _ _ _ (fun j oj hj hji hun=>Region.free_spec hg h3 j oj hj hji hun) hr (.inl ⟨ka.want h8,fun w' hs'=>by rw[e1];exact hv w' hs'⟩) hS ?_;rw[h5];exact HA
theorem zV (i t:Nat)(v:Value)(H:AG M P n N R X ops 0 (L.setIfInBounds i true) ((t,v)::Γ) w)(hc:Bd n ops L Γ i t=true:=by kernel_rfl)(hv:∀ w,(execOp (ev Γ) (au ops i)).run P w=.ok (.value v) w:=by intro _;kernel_rfl):AG M P n N R X ops 0 L Γ w :=
 BL i t v (S:=fun _=>True) (fun _ _ _ _=>trivial) trivial (fun w' _=>hv w') H hc
theorem zO {K:Nat}(i t:Nat)(ps:List (Nat × Nat × Nat))(v:Value)(hz:M.z=some (K,[]))(hK:K≤w.heap.size)(s:SS w0 h0 w h B Rs F)(hlt:∀ p∈ps,(av B p.1).b<K)(H:AG M P n N R X ops 0 (L.setIfInBounds i true) ((t,v)::Γ) w)(hc:Bd n ops L Γ i t=true:=by kernel_rfl)(hp:cP B ps=true:=by kernel_rfl)(he:bO P (execOp (ev Γ) (au ops i)) (dB B ps)=some (.value v,bZ B ps):=by kernel_rfl):AG M P n N R X ops 0 L Γ w :=
 BL i t v (S:=fun w'=>K≤w'.heap.size∧∀ b,b<K→w'.heap[b]?=w.heap[b]?) (fun w1 w2 hs ht=>by
  obtain ⟨h1,h2⟩:=ht K [] hz;exact ⟨Nat.le_trans hs.1 h1,fun b hb=>(h2 b hb List.not_mem_nil).trans (hs.2 b hb)⟩) ⟨hK,fun _ _=>rfl⟩ (fun w' hs=>bQ _ _ _ _ he (fun q a u ha hu=>by
  obtain ⟨p,hpm,hpa⟩:=pN ps q a ha;have:=d5 (fun x hx=>s.st.own x hx) ps hp q a u ha hu;rw[←this]
  unfold World.cell?
  rw[hs.2 _ (hpa▸hlt p hpm)])) H hc
theorem zC (i t:Nat){f:FuncId}{args:Array Value}(c:Calls P f args w fun e w'=>∃ v,e=.returned v∧Tl M w w'∧AG M P n N R X ops 0 (L.setIfInBounds i true) ((t,v)::Γ) w')(hc:(iF ops 0 L i && bp Γ (au ops i) && ((au ops i).dst == some t) && decide (t<n))=true:=by kernel_rfl)(hw:bv ops Γ (au ops i)=some true:=by kernel_rfl)
  (hr:(execOp (ev Γ) (au ops i)).run P w=.ok (.enter f args) w:=by kernel_rfl):AG M P n N R X ops 0 L Γ w:=by
 simp only[Bool.and_eq_true,decide_eq_true_eq,beq_iff_eq] at hc
 obtain ⟨⟨⟨h1,h2⟩,h3⟩,h4⟩:=hc;obtain ⟨hg,hs⟩:=k7 h1;intro a ka;refine A.one h1 hg (R':=fun v w'=>Tl M w w'∧AG M P n N R X ops 0 (L.setIfInBounds i true) ((t,v)::Γ) w') ⟨ka.want hw,.inr (.inr ⟨f,args,?_,c⟩)⟩ (fun v w' hq=>hq.1) (fun v w' hq=>?_)
 ·rw[ka.exec (Region.noSelect_spec hs i _ · · hg) h2];exact hr
 ·rw[h3];exact hq.2 _ (ka.put h4 v)
theorem EC {K:Nat}{w':World}(hz:M.z=some (K,[]))(hK:K≤w.heap.size)(x:Ext w w'):Tl M w w':=fun K' bs e=>by
 rw[hz] at e
 injection e with e;injection e with e1 e2
 subst e1 e2;exact ⟨x.size,fun b hb _=>Below.block x b oM⟩
theorem FN {K b:Nat}{w':World}(hz:M.z=some (K,[]))(hK:K≤w.heap.size)(hb:K≤b)(x:Mo [b] w w'):Tl M w w':=fun K' bs e=>by
 rw[hz] at e
 injection e with e;injection e with e1 e2
 subst e1 e2;exact ⟨x.size,fun c hc _=>x.blk c oM (by simp;omega)⟩
theorem pd {K:Nat}(i t:Nat){f:FuncId}{args:Array Value}{Φ:Value→Hp→Prop}(c:Calls P f args w (Ret w h Φ))(hz:M.z=some (K,[]))(hK:K≤w.heap.size)(H:∀ v w' h',Up w h w' h'→K≤w'.heap.size→Φ v h'→AG M P n N R X ops 0 (L.setIfInBounds i true) ((t,v)::Γ) w')(hc:(iF ops 0 L i && bp Γ (au ops i) && ((au ops i).dst == some t) && decide (t<n))=true:=by kernel_rfl)(hw:bv ops Γ (au ops i)=some true:=by kernel_rfl)
  (hr:(execOp (ev Γ) (au ops i)).run P w=.ok (.enter f args) w:=by kernel_rfl):AG M P n N R X ops 0 L Γ w :=
 zC i t (c.mono fun e w' ⟨v,h',he,u,hΦ⟩=>⟨v,he,EC hz hK u.ext,H v w' h' u (Nat.le_trans hK u.ext.size) hΦ⟩) hc hw hr
theorem H9 {K rb:Nat}(i t:Nat){f:FuncId}{args:Array Value}{Φ:Value→World→Hp→Prop}(c:Calls P f args w (ef rb w h Φ))(hz:M.z=some (K,[]))(hK:K≤w.heap.size)(hrb:K≤rb)(H:∀ v w' h',UpM [rb] w h w' h'→K≤w'.heap.size→Φ v w' h'→AG M P n N R X ops 0 (L.setIfInBounds i true) ((t,v)::Γ) w')(hc:(iF ops 0 L i && bp Γ (au ops i) && ((au ops i).dst == some t) && decide (t<n))=true:=by kernel_rfl)(hw:bv ops Γ (au ops i)=some true:=by kernel_rfl)
  (hr:(execOp (ev Γ) (au ops i)).run P w=.ok (.enter f args) w:=by kernel_rfl):AG M P n N R X ops 0 L Γ w :=
 zC i t (c.mono fun e w' ⟨v,h',he,u,hΦ⟩=>⟨v,he,FN hz hK hrb u.mo,H v w' h' u (Nat.le_trans hK u.mo.size) hΦ⟩) hc hw hr
theorem eK (s:SS w0 h0 w h B Rs F)(j:Nat)(hj:decide (j<B.length)=true:=by kernel_rfl):(av B j).b<w.heap.size:=by rw[s.g.size];exact aN (s.jk j hj)
theorem EK (t b o len cap sz:Nat)(i:Int)(j e:Nat)(H:LG P n N R X ops (k+1) ((t,.pointer (some ⟨b,0+e*sz,none⟩))::Γ) w)(hc:cL ops Γ k t n=true:=by kernel_rfl)(he:xE P (ev Γ) (au ops k)=some (.slice (some ⟨b,o,none⟩) len cap,.int .i64 i,sz):=by kernel_rfl)(hk:i=j:=by omega)(hlt:j<len:=by omega)(hoe:o+j*sz=0+e*sz:=by omega):LG P n N R X ops k Γ w :=
 LG.val t _ w (bH hc).1 (bH hc).2 (hoe▸gh he rfl hk hlt w) H
theorem HX (i t b o len cap sz:Nat)(x:Int)(j e:Nat)(H:AG M P n N R X ops k0 (L.setIfInBounds i true) ((t,.pointer (some ⟨b,0+e*sz,none⟩))::Γ) w)(hc:cE n ops k0 [] L Γ i t=true:=by kernel_rfl)(he:xE P (ev Γ) (au ops i)=some (.slice (some ⟨b,o,none⟩) len cap,.int .i64 x,sz):=by kernel_rfl)(hk:x=j:=by omega)(hlt:j<len:=by omega)(hoe:o+j*sz=0+e*sz:=by omega):AG M P n N R X ops k0 L Γ w :=
 aV i t _ H hc (fun w=>hoe▸gh he rfl hk hlt w)
theorem H3 (i t b o len cap sz:Nat)(x:Int)(j e:Nat)(H:AG M P n N R X ops k0 (L.setIfInBounds i true) ((t,.pointer (some ⟨b,0+e*sz,none⟩))::Γ) w)(hc:cT n ops k0 L Γ i t=true:=by kernel_rfl)(he:xE P (ev Γ) (au ops i)=some (.slice (some ⟨b,o,none⟩) len cap,.int .i64 x,sz):=by kernel_rfl)(hk:x=j:=by omega)(hlt:j<len:=by omega)(hoe:o+j*sz=0+e*sz:=by omega):AG M P n N R X ops k0 L Γ w :=
 T.val i t _ w (sl hc).1 (sl hc).2 (hoe▸gh he rfl hk hlt w) H
theorem Ib (t b o len cap sz:Nat)(i:Int)(j o2:Nat)(H:LG P n N R X ops (k+1) ((t,.slice (some ⟨b,o2,none⟩) (len-j) (cap-j))::Γ) w)(hc:cL ops Γ k t n=true:=by kernel_rfl)(he:Dh P (ev Γ) (au ops k)=some (.slice (some ⟨b,o,none⟩) len cap,some (.int .i64 i),none,sz):=by kernel_rfl)(hk:i=j:=by omega)(hlt:j≤len:=by omega)(hne:cap≠j:=by omega)(hoe:o2=o+j*sz:=by omega):LG P n N R X ops k Γ w:=by
 have h:=oc j he hk hlt w;rw[if_neg hne] at h
 have e:(some (⟨b,o,none⟩:Addr)).map (·.add (j*sz))=some ⟨b,o2,none⟩:=by subst hoe;simp[Addr.add]
 rw[e] at h
 exact LG.val t _ w (bH hc).1 (bH hc).2 h H
theorem SS.torow {α:Type}(s:SS w0 h0 w h B Rs F)(j:Nat)(f:α→List Value)(l:List α)(sz m:Nat)(hm:l.length=m)(hlen:m≤1099511627776)(hB:(av B j).vs=l.flatMap f:=by kernel_rfl)(hf:∀ x,(f x).length=sz:=by intro _;rfl)(hj:decide (j<B.length)=true:=by kernel_rfl) :
    SS w0 h0 w h (B.eraseIdx j) (⟨(av B j).t,sz,some ⟨(av B j).b,0,none⟩,m,m,l.flatMap f⟩::Rs) F:=by
  have hj':=oT hj;have hm0:=a8 hj';have ho:=s.st.own _ hm0
  have hne:∀ x∈B.eraseIdx j,x.b≠(av B j).b:=by
    intro x hx hb;obtain ⟨i,hi,he⟩:=List.mem_iff_getElem.1 hx;rw[List.getElem_eraseIdx] at he
    rw[List.length_eraseIdx_of_lt hj'] at hi
    split at he
    · rename_i hl
      refine a6 s.st (i:=i) (j:=j) (decide_eq_true oM) hj (by simp;omega) ?_;rw[←hb,←he];simp[av,show i<B.length by omega]
    · rename_i hl
      refine a6 s.st (i:=i+1) (j:=j) (decide_eq_true oM) hj (by simp;omega) ?_;rw[←hb,←he];simp[av,show i+1<B.length by omega]
  refine ⟨s.g0,⟨s.st.up,fun x hx=>s.st.own x (List.mem_of_mem_eraseIdx hx),fun x hx=>s.st.jk x (List.mem_of_mem_eraseIdx hx),fun x hx=>s.st.lo x (List.mem_of_mem_eraseIdx hx),s.st.nd.sublist ((List.eraseIdx_sublist B j).map (·.b))⟩,?_,?_,s.mo,s.f⟩
  · intro r hr
    rcases List.mem_cons.1 hr with rfl|hr
    · refine ⟨⟨by rw[cj hf,hm],.inr ⟨(av B j).b,m,(av B j).vs.toArray,rfl,s.st.lo _ hm0,ho,Nat.le_refl _,by unfold maxLen;omega,by rw[hB];simp[cj hf,hm],by rw[hB];simp[List.take_of_length_le,cj hf,hm]⟩⟩,?_,?_⟩
      · intro b hb
        have:(av B j).b=b:=by simpa [Rw.v,Value.ownBlock] using hb
        rw[←this];exact s.st.jk _ hm0
      · intro b hb hmem
        have:(av B j).b=b:=by simpa [Rw.v,Value.ownBlock] using hb
        obtain ⟨x,hx,e⟩:=List.mem_map.1 hmem;exact hne x hx (e.trans this.symm)
    · exact (s.ro r hr).sub _ (fun b hb=>by
        obtain ⟨x,hx,e⟩:=List.mem_map.1 hb;exact List.mem_map.2 ⟨x,List.mem_of_mem_eraseIdx hx,e⟩)
  · refine List.pairwise_cons.2 ⟨fun r hr b hb hv=>?_,s.ap⟩
    have:(av B j).b=b:=by simpa [Rw.v,Value.ownBlock] using hb
    exact (s.ro r hr).ap b hv (this▸List.mem_map.2 ⟨_,hm0,rfl⟩)
theorem EE {α:Type}(t j m b2:Nat)(l:List α)(f:α→List Value)(d x:α)(bt:Nat)(z:Value)(s:SS w0 h0 w h B Rs F)(sg:Seg h b2 0 (f x))(hm:l.length=m)(hlen:m≤1000000000)
  (H:∀ A' c' w' h',SS w0 h0 w' h' (B.eraseIdx j) Rs ((fun h=>SlO 1 f d h A' (l++[x]))::F)→m+1≤c'→LG P n N R X ops (k+1) ((t,.slice A' (m+1) c')::Γ) w')(hc:cL ops Γ k t n=true:=by kernel_rfl)(hj:decide (j<B.length)=true:=by kernel_rfl)(hB:(av B j).vs=l.flatMap f:=by kernel_rfl)
  (he:EI P (ev Γ) (au ops k)=some (.slice (some ⟨(av B j).b,0,none⟩) m m,.slice (some ⟨b2,0,none⟩) 1 1,(av B j).t,z,1,bt):=by kernel_rfl)(hzs:z.cells.size=1:=by kernel_rfl)(hf:∀ x,(f x).length=1:=by intro _;rfl)(h1:(f x).all (·.oneCell')=true:=by kernel_rfl)(hbt:bt≤100:=by decide):LG P n N R X ops k Γ w:=by
 have s1:=s.torow j f l 1 m hm oM hB hf hj
 refine HD t 0 (f x) s1 (oQ s1.g sg) (hf x) (fun u hu=>(List.all_eq_true.1 h1) u hu) (by simp) rfl hc he hzs kD oM (by
  have:(m+1)*bt≤(m+1)*100:=Nat.mul_le_mul_left _ hbt
  omega) (fun A' c' w' h' s'=>?_)
 have e1:m+1=(l++[x]).length:=by simp[hm]
 have e2:l.flatMap f++f x=(l++[x]).flatMap f:=by simp
 rw[e2,List.set_cons_zero] at s'
 have s2:SS w0 h0 w' h' (B.eraseIdx j) (⟨(av B j).t,1,A',c',(l++[x]).length,(l++[x]).flatMap f⟩::Rs) F:=by rw[←e1];exact s'
 obtain ⟨h'',s3,hc'⟩:=s2.pubr 0 d hf rfl (by simp);exact H A' c' w' h'' s3 (by rw[e1];exact hc')
theorem SS.perm (s:SS w0 h0 w h B Rs F){B':List Bx}(p:B.Perm B'):SS w0 h0 w h B' Rs F :=
 ⟨s.g0,⟨s.st.up,fun x hx=>s.st.own x (p.mem_iff.2 hx),fun x hx=>s.st.jk x (p.mem_iff.2 hx),fun x hx=>s.st.lo x (p.mem_iff.2 hx),(p.map (·.b)).nodup_iff.1 s.st.nd⟩,
  fun r hr=>(s.ro r hr).sub _ (fun b hb=>(p.map (·.b)).mem_iff.2 hb),s.ap,s.mo,s.f⟩
end
theorem uw (a:Nat)(A:Option Addr)(c:Nat)(hc:(lim a).length≤c)(hLa:(lim a).length≤4000000000)(w:World)(h:Hp)(g:G w h)(hA:S3 A (lim a) h):CV 114 #[.slice A ((lim a).length) c] w h (nV (nb a)):=by
 have hs:=((sS g).aS hA);have hpa:=@er a;have hgl:=(Ld.lim a).get ((lim a).length-1);refine go Tryz.func114 [(0,qS A ((lim a).length) c)] rfl (aa hs [.v 2 (iV 0)] (af (aa hs [.m 5 0,.v 6 (nV ((lim a).length))] ?_)));cases hb1:((((lim a).length:Nat):Int) == (0:Int))
 ·
  have phb1:=ah hb1;refine lB 7 hb1 (aj (cK (aa hs [.m 8 0,.v 9 (nV ((lim a).length))] (bB 10 (((lim a).length:Nat)-1) (((lim a).length)-1) ?_))));refine bB 11 (32*(((lim a).length)-1:Nat)) (32*(((lim a).length)-1:Nat)) (lL hs [.m 3 11] (af (aa hs [.m 12 0,.m 13 0,.v 14 (nV ((lim a).length))] (lI 15 (((lim a).length:Nat)-1) ?_))));refine lX 16 A ((lim a).length) c 1 (((lim a).length:Nat)-1) (((lim a).length)-1) ((hs.f.1).ok oM) (lH 17 (mW ((lim a).getD (((lim a).length)-1) 0)) hs ((hs.f.1).el (((lim a).length)-1) oM) (lL hs [.m 4 17] (bj ?_)));refine bx _ (CG.loop (fun μ_ Γ w_=>∃ (n:Nat) (x:Nat) (h_:Hp),μ_=x∧Γ=[(2,iV 0),(3,nV n),(4,mW x)]∧SS w h w_ h_ [] [] [S3 A (lim a)]∧n+nb x=nb a∧x<4294967296∧nb a≤128000000000) _ ⟨32*((lim a).length-1),(lim a).getD ((lim a).length-1) 0,h,rfl,rfl,hs.to _ _,(DW oM).symm,hgl,(by have:=pg a;omega)⟩ ?_);rintro _ _ w2 ⟨n,x,h3,hm4,rfl,hs,hn,hx,hm⟩;refine cQ (aa hs [.m 18 4] ?_);cases hb5:(decide ((0:Int)<(x:Int)))
  ·
   have phb5:=oF hb5;refine lB 19 hb5 (aj (CG.exit ?_))
   show CG _ _ _ _ _ _ _ _
   exact aa hs [.m 24 3,.m 2 24] (ae hs [] (nV n) (by obtain rfl:x=0:=oM;rw[wE] at hn;rw[←hn];rfl))
  have phb5:=oT hb5;refine lB 19 hb5 (ao (cK (cQ (kZ (kQ (lL hs [.m 22 3] (bB 23 ((n:Nat)+1) (n+1) ?_)))))));refine lL hs [.m 3 23] (lN (kQ (lL hs [.m 20 4] (lV 21 (mW (x/2)) ?_ (hr:=ay (n:=Int.fdiv (x:Nat) 2) kR (j3 x 2))))));refine lL hs [.m 4 21] (lD ?_);intro a_ ka;refine ⟨_,_,?_,⟨n+1,x/2,h3,rfl,rfl,hs.to _ _,(by have:=AP (n:=x) oM;omega),oM,hm⟩,ka.to _ kR⟩
  omega
 have phb1:=eq_of_beq hb1;exact lB 7 hb1 (ao (aa hs [.v 2 (iV 0)] (ae hs [] (iV 0) (by obtain rfl:a=0:=oM;rfl))))
def l3 (u2 u1 u0:Nat):Nat:=4294967296*(4294967296*u2+u1)+u0
def l2 (v1 v0:Nat):Nat:=4294967296*v1+v0
structure Hss (u2 u1 u0 v1 v0 g r o:Nat):Prop where
  e:g*v1+(r+4294967296*o)=4294967296*u2+u1
  lt:g+1=4294967296∨l3 u2 u1 u0<(g+1)*l2 v1 v0
  gb:g<4294967296
section
variable {n j G:Nat} {u v:List Nat}
end
structure Gk (u2 u1 u0 v1 v0 g r:Nat):Prop where
  e:g*v1+r=4294967296*u2+u1
  lt:4294967296≤g+1∨l3 u2 u1 u0<(g+1)*l2 v1 v0
section joi
variable {P:Program} {n:Nat} {N R:Po} {X:Nat→Po} {Γ:bW} {w:World}
theorem CG.join {x y:Code}(I:bW→World→Prop)(h1:CG P n (fun a w'=>∃ Γ',I Γ' w'∧Kn n a Γ') R X x Γ w)(h2:∀ Γ w,I Γ w→CG P n N R X y Γ w):CG P n N R X (.seq x y) Γ w:=by
 intro a ka;refine wp_seq (wp_mono (h1 a ka) ?_);intro e a w hq;cases e with
 | normal=>obtain ⟨Γ',hI,ka'⟩:=hq;exact h2 Γ' w hI a ka'
 | _=>exact hq
end joi
section fin
variable {M:Ms} {P:Program} {n:Nat} {N R:Po} {X:Nat→Po} {ops:Array Oper} {k0:Nat} {hr:Hp} {L:Array Bool} {Γ:bW} {w:World} {h:Hp} {w0:World} {h0:Hp} {B:List Bx} {Rs:List Rw} {F:List (Hp→Prop)}
theorem jG (s:SS w0 h0 w h B Rs F)(H:∀ w' h',Up w h w' h'→SS w0 h0 w' h' B Rs F→AG M P n N R X ops k0 L Γ w')(hc:fi ops [] L=true:=by kernel_rfl):EG M P n N R X ops k0 hr [] L Γ w h:=Rg.fin0 hc (fun w' h' u=>H w' h' u (s.step u))
end fin
section tail
variable {M:Ms} {P:Program} {n:Nat} {N R:Po} {X:Nat→Po} {ops:Array Oper} {k0:Nat} {L:Array Bool} {Γ:bW} {w:World} {h:Hp} {w0:World} {h0:Hp} {B:List Bx} {Rs:List Rw} {F:List (Hp→Prop)}
end tail
section self
variable {P:Program} {n:Nat} {N R:Po} {X:Nat→Po} {ops:Array Oper} {k:Nat} {Γ:bW} {w:World} {h:Hp} {w0:World} {h0:Hp} {B:List Bx} {Rs:List Rw} {F:List (Hp→Prop)}
end self
theorem se (a:Nat)(A:Option Addr)(c:Nat)(hc:(lim a).length≤c)(b:Nat)(D:Option Addr)(d:Nat)(hd:(lim b).length≤d)(hLa:(lim a).length≤3000000000)(hLb:(lim b).length≤3000000000)(hab:a<b)(w:World)(h:Hp)(g:G w h)(hA:S3 A (lim a) h)(hD:S3 D (lim b) h):CR 72 #[.slice A ((lim a).length) c,.slice D ((lim b).length) d] w h (fun v h1=>∃ v1 v2,v=.tuple #[v1,v2]∧RN h1 v1 (a/b)∧RN h1 v2 (a%b)):=by
 have hs:=(((sS g).aS hA).aS hD);have hcl:=dN hab;refine go Tryz.func72 [(0,qS A ((lim a).length) c),(1,qS D ((lim b).length) d)] rfl (aa hs [.v 4 (sZ),.v 5 (sZ)] (af (aa hs [.m 25 0,.m 26 1] (ag 27 hs (jy a A c hc b D d hd oM oM _ _ hs.g hs.f.2.1 hs.f.1) (fun w1 h2 hs=>?_)))));have ⟨hb3,phb3⟩:=dT (p:=(bT a b:Int)<(0:Int)) oM;exact lB 28 hb3 (ao (aa hs [.m 29 0,.v 4 (sZ),.m 5 29] (ae hs [] (.tuple #[sZ,qS A ((lim a).length) c]) (⟨_,_,rfl,by rw[Nat.div_eq_of_lt hab];exact ⟨none,0,rfl,nR _,SlO.nil⟩,by rw[Nat.mod_eq_of_lt hab];exact ⟨A,c,rfl,hc,hs.f.2.1⟩⟩))))
theorem pf {b:Nat}(h:(lim b).length=1):b<4294967296∧(lim b).getD 0 0=b∧0<b:=by
 have h1:=iL b;rw[h] at h1
 have h2:0<b:=er.1 oM;refine ⟨by omega,?_,h2⟩;rw[AU h2 oM];rfl
theorem pO (a:Nat)(A:Option Addr)(c:Nat)(hc:(lim a).length≤c)(b:Nat)(D:Option Addr)(d:Nat)(hd:(lim b).length≤d)(hLa:(lim a).length≤3000000000)(hLb:(lim b).length≤3000000000)(hab:b≤a)(h1:(lim b).length=1)(w:World)(h:Hp)(g:G w h)(hA:S3 A (lim a) h)(hD:S3 D (lim b) h):CR 72 #[.slice A ((lim a).length) c,.slice D ((lim b).length) d] w h (fun v h1=>∃ v1 v2,v=.tuple #[v1,v2]∧RN h1 v1 (a/b)∧RN h1 v2 (a%b)):=by
 have hs:=(((sS g).aS hA).aS hD);have hcl:=fw hab;obtain ⟨hb1,hb2,hb3⟩:=pf h1;refine go Tryz.func72 [(0,qS A ((lim a).length) c),(1,qS D ((lim b).length) d)] rfl (aa hs [.v 4 (sZ),.v 5 (sZ)] (af (aa hs [.m 25 0,.m 26 1] (ag 27 hs (jy a A c hc b D d hd oM oM _ _ hs.g hs.f.2.1 hs.f.1) (fun w1 h2 hs=>?_)))));have ⟨hb3,phb3⟩:=dF (p:=(bT a b:Int)<(0:Int)) oM;refine lB 28 hb3 (aj (cK (cQ (aa hs [.m 30 1,.v 31 (nV ((lim b).length))] ?_))));have hb4:((((lim b).length:Nat):Int) == (1:Int))=true:=pj oM;have phb4:=eq_of_beq hb4;refine lB 32 hb4 (ao (aa hs [.m 34 0,.m 35 1] (lX 36 D ((lim b).length) d 1 0 0 ((hs.f.1).ok oM) ?_)));refine lH 37 (mW ((lim b).getD 0 0)) hs ((hs.f.1).el 0 oM) (lC 38 hs (Hb a A c hc oM ((lim b).getD 0 0) oM oM _ _ hs.g hs.f.2.1) ?_);rintro _ w5 h6 hs ⟨_,r,rfl,⟨Aq,cq,rfl,hcq,hq⟩,hr_⟩;replace hs:=hs.aS hq;refine lL hs [.m 33 38,.v 39 (qS Aq ((lim (a/((lim b).getD 0 0))).length) cq),.v 40 (mW r),.m 6 39,.m 7 40] (aT (lL hs [.m 41 6,.m 42 7] ?_));have hrb:=Nat.mod_lt a (show 0<(lim b).getD 0 0 by omega);refine lV 43 (mV r) ?_ (hr:=rU ((r:Int)) kR (bG oM oM));refine lC 44 hs (pI r oM _ _ hs.g) ?_;rintro _ _ _ hs ⟨A7,c8,rfl,hc9,za⟩;replace hs:=hs.aS za;exact lL hs [.m 4 41,.m 5 44] (ae hs [] (.tuple #[qS Aq ((lim (a/((lim b).getD 0 0))).length) cq,qS A7 ((lim r).length) c8]) (⟨_,_,rfl,by rw[hb2] at *;exact ⟨_,_,rfl,hcq,hs.f.2.1⟩,by rw[←hb2,←hr_];exact ⟨_,_,rfl,hc9,hs.f.1⟩⟩))
theorem lr (x y:Nat):Nat.gcd y (x%y)=Nat.gcd x y:=by rw[Nat.gcd_comm y,←Nat.gcd_rec,Nat.gcd_comm]
def ai (x:Nat):List Value:=[.int .u64 (x:Nat)]
theorem uk {l:List Nat}{m:Nat}(h:0<m)(h0:l.getD (m-1) 0=0):tl l m=tl l (m-1):=by
 obtain ⟨k,rfl⟩:∃ k,m=k+1:=⟨m-1,by omega⟩;rw[jY,if_pos (by simpa using h0)];rfl
theorem n4 (s:ByteArray)(hs8:8≤s.size)(w:World)(h:Hp)(g:G w h):CV 112 #[.string s] w h (mV (wv s)):=by
 have hs:=sS g;have b0:=cW s 0;have b1:=cW s 1;have b2:=cW s 2;have b3:=cW s 3;have b4:=cW s 4;have b5:=cW s 5;have b6:=cW s 6;have b7:=cW s 7;refine go Tryz.func112 [(0,.string s)] rfl (aa hs [.v 2 (uV 0)] (af (cR 38 [] mixed hs aq ?_)));refine eV 0 3 (.string s) (eV 1 4 (.int .u8 (aF s 0:Nat)) ?_ (hv:=fun _=>dl (tx:=9) (x:=.tmp 3) (i:=.const (iV 0)) (k:=.i64) (s:=s) (n:=0) (j:=(0:Int)) kR kR kR kR oM oM _));refine eV 2 5 (mV (aF s 0)) ?_ (hv:=fun _=>rU (((aF s 0:Nat):Int)) kR (bG oM oM));refine eV 3 6 (.string s) (eV 4 7 (.int .u8 (aF s 1:Nat)) ?_ (hv:=fun _=>dl (tx:=9) (x:=.tmp 6) (i:=.const (iV 1)) (k:=.i64) (s:=s) (n:=1) (j:=(1:Int)) kR kR kR kR oM oM _));refine eV 5 8 (mV (aF s 1)) ?_ (hv:=fun _=>rU (((aF s 1:Nat):Int)) kR (bG oM oM));refine eV 6 9 (mV ((aF s 1)*256)) ?_ (hv:=fun _=>rU ((((aF s 1:Nat):Int)*256)) kR ((bG oM oM).trans oM));refine eV 7 10 (mV (aF s 0+aF s 1*256)) ?_ (hv:=fun _=>ay (i8 (t:=22) (u:=22) (x:=.tmp 5) (y:=.tmp 9) (a:=(aF s 0)) (b:=((aF s 1)*256)) kR kR kR oM oM _) (by rw[gN 8 oM];first|done|omega));refine eV 8 11 (.string s) (eV 9 12 (.int .u8 (aF s 2:Nat)) ?_ (hv:=fun _=>dl (tx:=9) (x:=.tmp 11) (i:=.const (iV 2)) (k:=.i64) (s:=s) (n:=2) (j:=(2:Int)) kR kR kR kR oM oM _));refine eV 10 13 (mV (aF s 2)) ?_ (hv:=fun _=>rU (((aF s 2:Nat):Int)) kR (bG oM oM));refine eV 11 14 (mV ((aF s 2)*65536)) ?_ (hv:=fun _=>rU ((((aF s 2:Nat):Int)*65536)) kR ((bG oM oM).trans oM));refine eV 12 15 (mV (aF s 0+aF s 1*256+aF s 2*65536)) ?_ (hv:=fun _=>ay (i8 (t:=22) (u:=22) (x:=.tmp 10) (y:=.tmp 14) (a:=(aF s 0+aF s 1*256)) (b:=((aF s 2)*65536)) kR kR kR oM oM _) (by rw[gN 16 oM];first|done|omega));refine eV 13 16 (.string s) (eV 14 17 (.int .u8 (aF s 3:Nat)) ?_ (hv:=fun _=>dl (tx:=9) (x:=.tmp 16) (i:=.const (iV 3)) (k:=.i64) (s:=s) (n:=3) (j:=(3:Int)) kR kR kR kR oM oM _));refine eV 15 18 (mV (aF s 3)) ?_ (hv:=fun _=>rU (((aF s 3:Nat):Int)) kR (bG oM oM));refine eV 16 19 (mV ((aF s 3)*16777216)) ?_ (hv:=fun _=>rU ((((aF s 3:Nat):Int)*16777216)) kR ((bG oM oM).trans oM));refine eV 17 20 (mV (aF s 0+aF s 1*256+aF s 2*65536+aF s 3*16777216)) ?_ (hv:=fun _=>ay (i8 (t:=22) (u:=22) (x:=.tmp 15) (y:=.tmp 19) (a:=(aF s 0+aF s 1*256+aF s 2*65536)) (b:=((aF s 3)*16777216)) kR kR kR oM oM _) (by rw[gN 24 oM];first|done|omega));refine eV 18 21 (.string s) (eV 19 22 (.int .u8 (aF s 4:Nat)) ?_ (hv:=fun _=>dl (tx:=9) (x:=.tmp 21) (i:=.const (iV 4)) (k:=.i64) (s:=s) (n:=4) (j:=(4:Int)) kR kR kR kR oM oM _));refine eV 20 23 (mV (aF s 4)) ?_ (hv:=fun _=>rU (((aF s 4:Nat):Int)) kR (bG oM oM));refine eV 21 24 (mV ((aF s 4)*4294967296)) ?_ (hv:=fun _=>rU ((((aF s 4:Nat):Int)*4294967296)) kR ((bG oM oM).trans oM));refine eV 22 25 (mV (aF s 0+aF s 1*256+aF s 2*65536+aF s 3*16777216+aF s 4*4294967296)) ?_ (hv:=fun _=>ay (i8 (t:=22) (u:=22) (x:=.tmp 20) (y:=.tmp 24) (a:=(aF s 0+aF s 1*256+aF s 2*65536+aF s 3*16777216)) (b:=((aF s 4)*4294967296)) kR kR kR oM oM _) (by rw[gN 32 oM];first|done|omega));refine eV 23 26 (.string s) (eV 24 27 (.int .u8 (aF s 5:Nat)) ?_ (hv:=fun _=>dl (tx:=9) (x:=.tmp 26) (i:=.const (iV 5)) (k:=.i64) (s:=s) (n:=5) (j:=(5:Int)) kR kR kR kR oM oM _));refine eV 25 28 (mV (aF s 5)) ?_ (hv:=fun _=>rU (((aF s 5:Nat):Int)) kR (bG oM oM));refine eV 26 29 (mV ((aF s 5)*1099511627776)) ?_ (hv:=fun _=>rU ((((aF s 5:Nat):Int)*1099511627776)) kR ((bG oM oM).trans oM));refine eV 27 30 (mV (aF s 0+aF s 1*256+aF s 2*65536+aF s 3*16777216+aF s 4*4294967296+aF s 5*1099511627776)) ?_ (hv:=fun _=>ay (i8 (t:=22) (u:=22) (x:=.tmp 25) (y:=.tmp 29) (a:=(aF s 0+aF s 1*256+aF s 2*65536+aF s 3*16777216+aF s 4*4294967296)) (b:=((aF s 5)*1099511627776)) kR kR kR oM oM _) (by rw[gN 40 oM];first|done|omega));refine eV 28 31 (.string s) (eV 29 32 (.int .u8 (aF s 6:Nat)) ?_ (hv:=fun _=>dl (tx:=9) (x:=.tmp 31) (i:=.const (iV 6)) (k:=.i64) (s:=s) (n:=6) (j:=(6:Int)) kR kR kR kR oM oM _));refine eV 30 33 (mV (aF s 6)) ?_ (hv:=fun _=>rU (((aF s 6:Nat):Int)) kR (bG oM oM));refine eV 31 34 (mV ((aF s 6)*281474976710656)) ?_ (hv:=fun _=>rU ((((aF s 6:Nat):Int)*281474976710656)) kR ((bG oM oM).trans oM));refine eV 32 35 (mV (aF s 0+aF s 1*256+aF s 2*65536+aF s 3*16777216+aF s 4*4294967296+aF s 5*1099511627776+aF s 6*281474976710656)) ?_ (hv:=fun _=>ay (i8 (t:=22) (u:=22) (x:=.tmp 30) (y:=.tmp 34) (a:=(aF s 0+aF s 1*256+aF s 2*65536+aF s 3*16777216+aF s 4*4294967296+aF s 5*1099511627776)) (b:=((aF s 6)*281474976710656)) kR kR kR oM oM _) (by rw[gN 48 oM];first|done|omega));refine eV 33 36 (.string s) (eV 34 37 (.int .u8 (aF s 7:Nat)) ?_ (hv:=fun _=>dl (tx:=9) (x:=.tmp 36) (i:=.const (iV 7)) (k:=.i64) (s:=s) (n:=7) (j:=(7:Int)) kR kR kR kR oM oM _));refine eV 35 38 (mV (aF s 7)) ?_ (hv:=fun _=>rU (((aF s 7:Nat):Int)) kR (bG oM oM));refine eV 36 39 (mV ((aF s 7)*72057594037927936)) ?_ (hv:=fun _=>rU ((((aF s 7:Nat):Int)*72057594037927936)) kR ((bG oM oM).trans oM));refine eV 37 40 (mV (aF s 0+aF s 1*256+aF s 2*65536+aF s 3*16777216+aF s 4*4294967296+aF s 5*1099511627776+aF s 6*281474976710656+aF s 7*72057594037927936)) ?_ (hv:=fun _=>ay (i8 (t:=22) (u:=22) (x:=.tmp 35) (y:=.tmp 39) (a:=(aF s 0+aF s 1*256+aF s 2*65536+aF s 3*16777216+aF s 4*4294967296+aF s 5*1099511627776+aF s 6*281474976710656)) (b:=((aF s 7)*72057594037927936)) kR kR kR oM oM _) (by rw[gN 56 oM];first|done|omega));exact bM hs (fun w1 h2 hs=>tV 38 2 (mV (aF s 0+aF s 1*256+aF s 2*65536+aF s 3*16777216+aF s 4*4294967296+aF s 5*1099511627776+aF s 6*281474976710656+aF s 7*72057594037927936)) (tN (kX (hs.ret [] (mV (aF s 0+aF s 1*256+aF s 2*65536+aF s 3*16777216+aF s 4*4294967296+aF s 5*1099511627776+aF s 6*281474976710656+aF s 7*72057594037927936)) rfl))))
theorem BW (A:Option Addr)(c:Nat)(l:List Nat)(hl:l.length≤1099511627776)(hc:l.length≤c)(w:World)(h:Hp)(g:G w h)(hA:SlO 1 ai 0 h A l):CV 148 #[.slice A l.length c] w h (.slice A (tl l l.length) c):=by
 have hs:=((sS g).aS hA);refine go Tryz.func148 [(0,qS A l.length c)] rfl (aa hs [.v 2 (sZ)] (af (kZ ?_)));refine bx _ (CG.loop (fun μ_ Γ w_=>∃ (m:Nat) (h_:Hp),μ_=m∧Γ=[(2,sZ),(0,qS A m c)]∧SS w h w_ h_ [] [] [fun h_=>SlO 1 ai 0 h_ A l]∧m≤l.length∧tl l l.length=tl l m) _ ⟨l.length,h,rfl,rfl,hs.to _ _,nR _,rfl⟩ ?_);rintro _ _ w1 ⟨m,h2,hm3,rfl,hs,hm,ht⟩;refine cQ (aa hs [.m 3 0,.v 4 (nV m)] ?_);cases hb4:(decide ((0:Int)<(m:Int)))
 ·
  have phb4:=oF hb4;refine lB 5 hb4 (lL hs [.m 6 5] (lG 7 ?_));refine lG 8 (lG 9 (lG 10 (lG 11 (lG 12 (lG 13 (lL hs [.v 14 qF] (aj (CG.exit ?_))))))))
  show CG _ _ _ _ _ _ _ _
  exact aa hs [.m 20 0,.m 2 20] (ae hs [] (qS A m c) (by rw[ht,mn oM]))
 have phb4:=oT hb4;refine lB 5 hb4 (lL hs [.m 6 5,.m 7 0,.m 8 0,.v 9 (nV m)] (bB 10 ((m:Nat)-1) (m-1) ?_));refine lX 11 A m c 1 (m-1:Nat) (m-1) ((hs.f.1).ok oM) (lH 12 (mV (l.getD (m-1) 0)) hs ((hs.f.1).el (m-1) oM) ?_);cases hb5:(((l.getD (m-1) 0:Nat):Int) == (0:Int))
 ·
  have phb5:=ah hb5;refine lB 13 hb5 (lL hs [.v 14 qF] (aj (CG.exit ?_)))
  show CG _ _ _ _ _ _ _ _
  exact aa hs [.m 20 0,.m 2 20] (ae hs [] (qS A m c) (by rw[ht,mn oM]))
 have phb5:=eq_of_beq hb5;refine lB 13 hb5 (lL hs [.v 14 qT] (ao (cK (kZ (kQ (lL hs [.m 15 0,.m 16 0,.v 17 (nV m)] (bB 18 ((m:Nat)-1) (m-1) ?_)))))));refine lT 19 A m c 1 (m-1:Nat) (m-1) (lL hs [.m 0 19] (lD ?_));intro a_ ka;refine ⟨_,_,?_,⟨m-1,h2,rfl,rfl,hs.to _ _,oM,(by rw[ht];exact uk oM oM)⟩,ka.to _ kR⟩
 omega
theorem oL {l m:List Nat}(hl:l.length=m.length)(h:∀ j,j<l.length→l.getD j 0=m.getD j 0):l=m:=by
 apply List.ext_getElem hl
 intro i h1 h2;have:=h i h1
 simpa [h1,h2] using this
theorem nE {l m:List Nat}{i x:Nat}(hi:i<l.length)(h:∀ j,j<i→l.getD j 0=m.getD j 0)(hx:x=m.getD i 0):∀ j,j<i+1→(l.set i x).getD j 0=m.getD j 0:=fun j hj=>by
 rw[bD hi]
 split
 ·rename_i e;rw[←e];exact hx
 ·exact h j oM
def wJ (h h1:Hp)(v:Value)(l:List Nat):Prop:=∃ b,v=.slice (some ⟨b,0,none⟩) l.length l.length∧h.size≤b∧h1[b]?=some (.cells (l.flatMap ai).toArray 22 (0,0))∧SlO 1 ai 0 h1 (some ⟨b,0,none⟩) l
theorem jX  (w:World)(h:Hp)(g:G w h):CV 159 #[nv 0] w h sZ:=by
 have hs:=sS g;exact go Tryz.func159 [(0,nv 0)] rfl (aE (lA 1 24 ([uV 0,eS]) hs (fun b1 w2 h3 hs=>lL hs [.v 2 (sZ)] (af (aa hs [.v 5 (qP b1 1),.o 6 (eS) 0 1 1,.v 7 qT,.m 8 7,.v 9 (pB b1),.o 10 (uV 0) 0 0 1,.v 11 qT,.v 12 qT] (ao (aa hs [.v 2 (sZ)] (ae hs [] (sZ) rfl))))))))
theorem gT (s:ByteArray)(k:Nat):(s.extract k s.size).size=s.size-k:=by
 simp[ByteArray.size_extract]
theorem nG {n L:Nat}(hL:0<L):∀ j,j<1→((List.replicate L 0).set 0 (n%18446744073709551616)).getD j 0=(wds n).getD j 0:=fun j hj=>by
 have:j=0:=by omega
 subst this;rw[bD (by simpa using hL),if_pos rfl];have:=pA n
 unfold lo at this
 exact Int.ofNat.inj this
theorem wQ (n:Nat)(hn:0<n)(hl:(wds n).length≤1000000000)(hsm:n<18446744073709551616)(w:World)(h:Hp)(g:G w h):CR 159 #[nv n] w h (fun v h1=>wJ h h1 v (wds n)):=by
 have hs:=sS g;have hz:=ib n;have hp:=jR.2 hn;have hlo:=j8 hsm;have hz1:=congrArg List.length (jv hn hsm)
 simp only[List.length_singleton] at hz1
 refine go Tryz.func159 [(0,nv n)] rfl (aE (lA 1 24 (nc n) hs (fun b1 w2 h3 hs=>lL hs [.v 2 (sZ)] (af (aa hs [.v 5 (qP b1 1),.o 6 (.string (hi n)) 0 1 1] (lV 7 qT ?_ (hr:=rb kR (iw (eh hsm)))))))));refine lL hs [.m 8 7,.v 9 (pB b1),.o 10 (mV (n%18446744073709551616)) 0 0 1] ?_;have hb4:(((n%18446744073709551616:Nat):Int) == (0:Int))=false:=ft oM;have phb4:=ah hb4;refine lB 11 hb4 (lL hs [.v 12 qF] (aj (cK (aa hs [.v 13 (qP b1 1),.o 14 (.string (hi n)) 0 1 1,.v 15 (nV ((hi n).size))] (lV 16 (nV (((hi n).size)/8)) ?_ (hr:=ay (dQ (t:=3) (u:=3) (x:=.tmp 15) (y:=.const (iV 8)) (k:=.i64) (a:=(((hi n).size:Nat):Int)) (b:=(8:Int)) kR kR kR oM _) (dH ((hi n).size) 8 oM)))))));refine bB 17 (1+(((hi n).size)/8:Nat)) ((wds n).length) (lK 18 22 ((wds n).length) 1 8 (uV 0) ai 0 hs (fun b5 w6 h7 hs=>?_));have hl8:(List.replicate ((wds n).length) 0).length=((wds n).length):=by simp
 refine lL hs [.m 3 18] (aT (lL hs [.m 19 3,.v 20 (pB b1),.o 21 (mV (n%18446744073709551616)) 1 0 1] (lX 22 (sB b5) ((wds n).length) ((wds n).length) 1 0 0 rfl ?_)));refine lW 0 (List.replicate ((wds n).length) 0) ai 1 0 (n%18446744073709551616) hs oM (fun w9 hs=>?_);have zc:((List.replicate ((wds n).length) 0).set 0 (n%18446744073709551616)).length=((wds n).length):=by rw[List.length_set];exact hl8
 replace hs:=hs.to [⟨b5,22,((List.replicate ((wds n).length) 0).set 0 (n%18446744073709551616)).flatMap ai⟩,⟨b1,24,nc n⟩] [];refine af (aa hs [.v 4 (iV 1)] (bj ?_));refine bx _ (CG.loop (fun μ_ Γ w_=>∃ (i:Nat) (l:List Nat) (h_:Hp),μ_=(wds n).length-i∧Γ=[(1,pB b1),(2,sZ),(3,qS (sB b5) ((wds n).length) ((wds n).length)),(4,nV i)]∧SS w h w_ h_ [⟨b5,22,(l).flatMap ai⟩,⟨b1,24,nc n⟩] [] []∧1≤i∧i≤(wds n).length∧l.length=(wds n).length∧(∀ j,j<i→l.getD j 0=(wds n).getD j 0)) _ ⟨1,(List.replicate ((wds n).length) 0).set 0 (n%18446744073709551616),h7,rfl,rfl,hs.to _ _,nR _,by omega,zc,nG oM⟩ ?_);rintro _ _ _ ⟨i,l,_,hm13,rfl,hs,hi1,hi2,hll,hg⟩;refine cQ (aa hs [.m 23 4,.m 24 3,.v 25 (nV ((wds n).length))] ?_);cases za:(decide ((i:Int)<((((wds n).length):Nat):Int)))
 ·
  have zb:=oF za;refine lB 26 za (aj (CG.exit ?_))
  show CG _ _ _ _ _ _ _ _
  refine aa hs [.m 39 3,.m 2 39] (lN (kX ?_));have hiL:i=(wds n).length:=by omega
  have hlw:l=wds n:=oL oM (fun j hj=>hg j oM);rw[hlw] at hs
  obtain ⟨_,hs,sg16,lo17,bc18⟩:=hs.pub 0;replace hs:=(hs.to [⟨b1,24,nc n⟩] []).aS (SlO.of_flat (sz:=1) (f:=ai) (d:=0) (b:=b5) (o:=0) (l:=wds n) (fun _=>rfl) sg16);exact hs.ret [] (qS (sB b5) ((wds n).length) ((wds n).length)) (⟨b5,rfl,lo17,bc18,hs.f.1⟩)
 have zb:=oT za;refine lB 26 za (ao (cK (cQ (kZ (kQ (lL hs [.m 29 3,.m 30 4,.v 31 (qP b1 1),.o 32 (.string (hi n)) 1 1 1,.m 33 4] (lI 34 ((i:Nat)-1) ?_)))))));refine bB 35 (8*((i:Nat)-1)) (8*(i-1)) (lV 36 (.string ((hi n).extract (8*(i-1)) (hi n).size)) ?_ (hr:=n0 (tx:=9) (x:=.tmp 32) (i:=.tmp 35) (k:=.i64) (s:=hi n) (n:=(8*(i-1))) (j:=((8*(i-1):Nat):Int)) kR kR kR kR oM oM _));refine ag 37 hs (n4 ((hi n).extract (8*(i-1)) (hi n).size) (by rw[gT];omega) _ _ hs.g) (fun _ ze hs=>lX 38 (sB b5) ((wds n).length) ((wds n).length) 1 (i:Nat) i rfl (lW 0 l ai 1 i (wv ((hi n).extract (8*(i-1)) (hi n).size):Nat) hs oM (fun _ hs=>?_)));have zd:((l).set i (wv ((hi n).extract (8*(i-1)) (hi n).size):Nat)).length=((wds n).length):=by rw[List.length_set];exact hll
 replace hs:=hs.to [⟨b5,22,((l).set i (wv ((hi n).extract (8*(i-1)) (hi n).size):Nat)).flatMap ai⟩,⟨b1,24,nc n⟩] [];refine lN (kQ (lL hs [.m 27 4] (bB 28 ((i:Nat)+1) (i+1) ?_)));refine lL hs [.m 4 28] (lD ?_);intro a_ ka;refine ⟨_,_,?_,⟨i+1,(l).set i (wv ((hi n).extract (8*(i-1)) (hi n).size):Nat),ze,rfl,rfl,hs.to _ _,oM,oM,zd,(nE oM hg (by rw[iA n (i-1) oM,show i-1+1=i by omega]))⟩,ka.to _ kR⟩
 omega
theorem xt (n:Nat)(hn:0<n)(hl:(wds n).length≤1000000000)(hbg:18446744073709551616≤n)(w:World)(h:Hp)(g:G w h):CR 159 #[nv n] w h (fun v h1=>wJ h h1 v (wds n)):=by
 have hs:=sS g;have hz:=ib n;have hp:=jR.2 hn;refine go Tryz.func159 [(0,nv n)] rfl (aE (lA 1 24 (nc n) hs (fun b1 w2 h3 hs=>lL hs [.v 2 (sZ)] (af (aa hs [.v 5 (qP b1 1),.o 6 (.string (hi n)) 0 1 1] (lV 7 qF ?_ (hr:=rb kR (ig (eN hbg)))))))));refine lL hs [.m 8 7] (lG 9 ?_);refine lG 10 (lG 11 (lL hs [.v 12 qF] (aj (cK (aa hs [.v 13 (qP b1 1),.o 14 (.string (hi n)) 0 1 1,.v 15 (nV ((hi n).size))] (lV 16 (nV (((hi n).size)/8)) ?_ (hr:=ay (dQ (t:=3) (u:=3) (x:=.tmp 15) (y:=.const (iV 8)) (k:=.i64) (a:=(((hi n).size:Nat):Int)) (b:=(8:Int)) kR kR kR oM _) (dH ((hi n).size) 8 oM))))))));refine bB 17 (1+(((hi n).size)/8:Nat)) ((wds n).length) (lK 18 22 ((wds n).length) 1 8 (uV 0) ai 0 hs (fun b4 w5 h6 hs=>?_));have hl7:(List.replicate ((wds n).length) 0).length=((wds n).length):=by simp
 refine lL hs [.m 3 18] (aT (lL hs [.m 19 3,.v 20 (pB b1),.o 21 (mV (n%18446744073709551616)) 1 0 1] (lX 22 (sB b4) ((wds n).length) ((wds n).length) 1 0 0 rfl ?_)));refine lW 0 (List.replicate ((wds n).length) 0) ai 1 0 (n%18446744073709551616) hs oM (fun w8 hs=>?_);have hl9:((List.replicate ((wds n).length) 0).set 0 (n%18446744073709551616)).length=((wds n).length):=by rw[List.length_set];exact hl7
 replace hs:=hs.to [⟨b4,22,((List.replicate ((wds n).length) 0).set 0 (n%18446744073709551616)).flatMap ai⟩,⟨b1,24,nc n⟩] [];refine af (aa hs [.v 4 (iV 1)] (bj ?_));refine bx _ (CG.loop (fun μ_ Γ w_=>∃ (i:Nat) (l:List Nat) (h_:Hp),μ_=(wds n).length-i∧Γ=[(1,pB b1),(2,sZ),(3,qS (sB b4) ((wds n).length) ((wds n).length)),(4,nV i)]∧SS w h w_ h_ [⟨b4,22,(l).flatMap ai⟩,⟨b1,24,nc n⟩] [] []∧1≤i∧i≤(wds n).length∧l.length=(wds n).length∧(∀ j,j<i→l.getD j 0=(wds n).getD j 0)) _ ⟨1,(List.replicate ((wds n).length) 0).set 0 (n%18446744073709551616),h6,rfl,rfl,hs.to _ _,nR _,by omega,hl9,nG oM⟩ ?_);rintro _ _ _ ⟨i,l,_,hm12,rfl,hs,hi1,hi2,hll,hg⟩;refine cQ (aa hs [.m 23 4,.m 24 3,.v 25 (nV ((wds n).length))] ?_);cases za:(decide ((i:Int)<((((wds n).length):Nat):Int)))
 ·
  have zb:=oF za;refine lB 26 za (aj (CG.exit ?_))
  show CG _ _ _ _ _ _ _ _
  refine aa hs [.m 39 3,.m 2 39] (lN (kX ?_));have hiL:i=(wds n).length:=by omega
  have hlw:l=wds n:=oL oM (fun j hj=>hg j oM);rw[hlw] at hs
  obtain ⟨_,hs,sg15,lo16,bc17⟩:=hs.pub 0;replace hs:=(hs.to [⟨b1,24,nc n⟩] []).aS (SlO.of_flat (sz:=1) (f:=ai) (d:=0) (b:=b4) (o:=0) (l:=wds n) (fun _=>rfl) sg15);exact hs.ret [] (qS (sB b4) ((wds n).length) ((wds n).length)) (⟨b4,rfl,lo16,bc17,hs.f.1⟩)
 have zb:=oT za;refine lB 26 za (ao (cK (cQ (kZ (kQ (lL hs [.m 29 3,.m 30 4,.v 31 (qP b1 1),.o 32 (.string (hi n)) 1 1 1,.m 33 4] (lI 34 ((i:Nat)-1) ?_)))))));refine bB 35 (8*((i:Nat)-1)) (8*(i-1)) (lV 36 (.string ((hi n).extract (8*(i-1)) (hi n).size)) ?_ (hr:=n0 (tx:=9) (x:=.tmp 32) (i:=.tmp 35) (k:=.i64) (s:=hi n) (n:=(8*(i-1))) (j:=((8*(i-1):Nat):Int)) kR kR kR kR oM oM _));refine ag 37 hs (n4 ((hi n).extract (8*(i-1)) (hi n).size) (by rw[gT];omega) _ _ hs.g) (fun _ zd hs=>lX 38 (sB b4) ((wds n).length) ((wds n).length) 1 (i:Nat) i rfl (lW 0 l ai 1 i (wv ((hi n).extract (8*(i-1)) (hi n).size):Nat) hs oM (fun _ hs=>?_)));have zc:((l).set i (wv ((hi n).extract (8*(i-1)) (hi n).size):Nat)).length=((wds n).length):=by rw[List.length_set];exact hll
 replace hs:=hs.to [⟨b4,22,((l).set i (wv ((hi n).extract (8*(i-1)) (hi n).size):Nat)).flatMap ai⟩,⟨b1,24,nc n⟩] [];refine lN (kQ (lL hs [.m 27 4] (bB 28 ((i:Nat)+1) (i+1) ?_)));refine lL hs [.m 4 28] (lD ?_);intro a_ ka;refine ⟨_,_,?_,⟨i+1,(l).set i (wv ((hi n).extract (8*(i-1)) (hi n).size):Nat),zd,rfl,rfl,hs.to _ _,oM,oM,zc,(nE oM hg (by rw[iA n (i-1) oM,show i-1+1=i by omega]))⟩,ka.to _ kR⟩
 omega
theorem fh (n:Nat)(hn:0<n)(hl:(wds n).length≤1000000000)(w:World)(h:Hp)(g:G w h):CR 159 #[nv n] w h (fun v h1=>wJ h h1 v (wds n)):=by
 rcases Nat.lt_or_ge n 18446744073709551616 with hs|hs
 ·exact wQ n hn hl hs w h g
 ·exact xt n hn hl hs w h g
open Go.RowKit Go.Shelf
def uh:Go.Shelf.Ren:=⟨fun|167=>150|240=>195|276=>220|n=>n,fun|0=>0|4=>4|5=>5|9=>9|20=>20|37=>142|70=>210|72=>212|75=>215|164=>267|80=>217|n=>n,fun n=>n⟩
theorem xv:Go.Proofs.Lays.n167 Tryz.prog uh:={
 mixed:=by kernel_rfl
 f167:=Tryz.func150.trans (congrArg some kR)
 f240:=Tryz.func195.trans (congrArg some kR)
 f276:=Tryz.func220.trans (congrArg some kR)
 t0:=Tryz.underlying0
 a0:=Tryz.isAgg0
 z0:=Tryz.sizeOf0
 v0:=Tryz.zeroValue0
 t4:=Tryz.underlying4
 a4:=Tryz.isAgg4
 z4:=Tryz.sizeOf4
 v4:=Tryz.zeroValue4
 t5:=Tryz.underlying5
 a5:=Tryz.isAgg5
 z5:=Tryz.sizeOf5
 v5:=Tryz.zeroValue5
 t9:=Tryz.underlying9
 a9:=Tryz.isAgg9
 z9:=Tryz.sizeOf9
 v9:=Tryz.zeroValue9
 t20:=Tryz.underlying20
 a20:=Tryz.isAgg20
 z20:=Tryz.sizeOf20
 v20:=Tryz.zeroValue20
 t37:=Tryz.underlying142
 a37:=Tryz.isAgg142
 z37:=Tryz.sizeOf142
 v37:=Tryz.zeroValue142
 t70:=Tryz.underlying210
 a70:=Tryz.isAgg210
 z70:=Tryz.sizeOf210
 v70:=Tryz.zeroValue210
 t72:=Tryz.underlying212
 a72:=Tryz.isAgg212
 z72:=Tryz.sizeOf212
 v72:=Tryz.zeroValue212
 t75:=Tryz.underlying215
 a75:=Tryz.isAgg215
 z75:=Tryz.sizeOf215
 v75:=Tryz.zeroValue215
 t164:=Tryz.underlying267
 a164:=Tryz.isAgg267
 z164:=Tryz.sizeOf267
 v164:=Tryz.zeroValue267 }
theorem tE:Builder.Extra Tryz.prog uh:={
 sizeBuilder:=by kernel_rfl
 liesBuilder:=by kernel_rfl
 t5:=Tryz.underlying5
 a5:=Tryz.isAgg5
 z5:=Tryz.sizeOf5
 v5:=Tryz.zeroValue5
 infoByte:=by kernel_rfl
 cellsByte:=by kernel_rfl
 sizeByte:=by kernel_rfl
 neB5:=by decide }
theorem vb (A:Option Addr)(c:Nat)(l:List Nat)(hd:Wd l)(hl:l.length≤1099511627776)(hc:l.length≤c)(w:World)(h:Hp)(g:G w h)(hA:SlO 1 ai 0 h A l):CV 113 #[.slice A l.length c] w h (nv (aA l)):=by
 have hs:=((sS g).aS hA);have htl:=il l l.length;have hdl:(l.drop 1).length=l.length-1:=List.length_drop;refine go Tryz.func113 [(0,qS A l.length c)] rfl (aE (lA 2 24 ([uV 0,eS]) hs (fun b1 w2 h3 hs=>aT (lL hs [.m 7 0] (ag 8 hs (BW A c l hl hc _ _ hs.g hs.f.1) (fun w4 h5 hs=>lL hs [.m 0 8] (af (aa hs [.m 9 0,.v 10 (nV (tl l l.length))] (bj (aE ?_))))))))));cases hb6:((((tl l l.length):Nat):Int) == (0:Int))
 ·
  have phb6:=ah hb6;refine lB 12 hb6 (lL hs [.m 11 12] (aj (aE ?_)));cases hb7:((((tl l l.length):Nat):Int) == (1:Int))
  ·
   have phb7:=ah hb7;refine lB 15 hb7 (lL hs [.m 14 15] (aj (cK (aE ?_))));have hsB:=hs;refine H5 3 212 [.pointer none,sZ] hs (fun w8 hx hxs hbk=>?_);obtain ⟨h9,hs,-⟩:=hsB.liftJ hx;refine aT (lL hs [.m 20 0,.v 21 (nV (tl l l.length))] (bB 22 (((tl l l.length):Nat)-1) ((tl l l.length)-1) ?_));refine bB 23 (8*((tl l l.length)-1:Nat)) (8*((tl l l.length)-1)) (Hz 24 hsB hx (Tryz.Builder_Grow_fresh w4.heap.size w4.heap.size (8*((tl l l.length)-1):Nat) _ (nR _) hbk hxs oM) (fun _ ze hs hx_ hq_=>?_))
   clear hx
   have hx:=hx_;clear hx_;have hib:Lib.IsBuilder 212 5 w4.heap.size w4.heap.size (Lib.byteCells (((l.drop 1).take 0).flatMap b8)) _:=.inr hq_;refine af (aa hs [.m 25 0] (lF 26 A (tl l l.length) c 1 1 1 ?_));replace hs:=hs.aS (hs.f.1.drop 1 c hc);replace hsB:=hsB.aS (hsB.f.1.drop 1 c hc);refine lL hs [.v 27 (nV ((tl l l.length)-1)),.v 28 (iV 0)] (bj ?_);refine bx _ (CG.loop (fun μ_ Γ w_=>∃ (k:Nat) (h_:Hp),μ_=(tl l l.length)-k∧Γ=[(0,qS A (tl l l.length) c),(2,pB b1),(3,.pointer (some ⟨w4.heap.size,0,none⟩)),(26,qS (if c=1 then A else A.map (·.add (1*1))) ((tl l l.length)-1) (c-1)),(27,nV ((tl l l.length)-1)),(28,nV k)]∧SS w h w_ h_ [⟨b1,24,[uV 0,eS]⟩] [] [fun h_=>SlO 1 ai 0 h_ (if c=1 then A else A.map (·.add (1*1))) (l.drop 1),fun h_=>SlO 1 ai 0 h_ A l]∧k≤(tl l l.length)-1∧Ext w4 w_∧Lib.IsBuilder 212 5 w4.heap.size w4.heap.size (Lib.byteCells (((l.drop 1).take k).flatMap b8)) w_) _ ⟨0,ze,rfl,rfl,hs.to _ _,Nat.zero_le _,hx,hib⟩ ?_);rintro _ _ zf ⟨k,zg,hm14,rfl,hs,hk,hx,hib⟩;have hxk:(l.drop 1).getD k 0<18446744073709551616:=Dg.getD (Dg.drop hd 1) kD k;refine aE ?_;cases za:(decide ((k:Int)<(((tl l l.length)-1:Nat):Int)))
   ·
    have zc:=oF za;refine lB 29 za (af (cM (CG.exit ?_)))
    show CG _ _ _ _ _ _ _ _
    refine cQ (wn ⟨AC w4.heap.size zf.heap.size,none⟩ 5 mixed ?_);obtain ⟨_,hs,hj⟩:=hsB.liftJ hx.drew;refine aV 0 43 (qS A (tl l l.length) c) (aX 1 44 A (tl l l.length) c 1 0 0 ((hs.f.2.1).ok oM) (aH 2 45 (mV (l.getD 0 0)) hs ((hs.f.2.1).el 0 oM) ?_ (fun b hb=>hj b (j7.1 hb).1 (j7.1 hb).2)));refine aC 3 46 ((Tryz.Builder_String_any w4.heap.size w4.heap.size (((l.drop 1).take k).flatMap b8) _ (ph hib ((Ext.refl _).drew)) hx.size).mono fun e_ _ ⟨he_,hb_⟩=>⟨_,he_,wg hb_,?_⟩);obtain ⟨_,hs,-⟩:=hsB.liftJ (Below.trans hx.drew hb_);refine aV 4 47 (.agg #[mV (l.getD 0 0),.string (⟨(((l.drop 1).take k).flatMap b8).toArray⟩)]) (tP 5 0 0 ([mV (l.getD 0 0),.string (⟨(((l.drop 1).take k).flatMap b8).toArray⟩)]) hs (fun _ hs=>tN (kX ?_)));have hkn:k=(tl l l.length)-1:=by omega
    exact hs.ret [(0,0,2)] (.agg #[mV (l.getD 0 0),.string (⟨(((l.drop 1).take k).flatMap b8).toArray⟩)]) (by rw[hkn];exact Bh hd oM)
   have zc:=oT za;refine lB 29 za (af (bS (cK (cQ (kZ (aE (lX 30 (if c=1 then A else A.map (·.add (1*1))) ((tl l l.length)-1) (c-1) 1 (k:Nat) k ((hs.f.1).ok oM) ?_)))))));refine lH 31 (mV ((l.drop 1).getD k 0)) hs ((hs.f.1).el k oM) (lL hs [.m 5 31] (aT (lL hs [.v 32 (iV 0)] (bj ?_))));refine bx _ (CG.loop (fun μ_ Γ w_=>∃ (m:Nat) (h_:Hp),μ_=8-m∧Γ=[(0,qS A (tl l l.length) c),(2,pB b1),(3,.pointer (some ⟨w4.heap.size,0,none⟩)),(26,qS (if c=1 then A else A.map (·.add (1*1))) ((tl l l.length)-1) (c-1)),(27,nV ((tl l l.length)-1)),(28,nV k),(5,mV ((l.drop 1).getD k 0)),(32,nV m)]∧SS w h w_ h_ [⟨b1,24,[uV 0,eS]⟩] [] [fun h_=>SlO 1 ai 0 h_ (if c=1 then A else A.map (·.add (1*1))) (l.drop 1),fun h_=>SlO 1 ai 0 h_ A l]∧m≤8∧Ext w4 w_∧Lib.IsBuilder 212 5 w4.heap.size w4.heap.size (Lib.byteCells (((l.drop 1).take k).flatMap b8++(b8 ((l.drop 1).getD k 0)).take m)) w_) _ ⟨0,zg,rfl,rfl,hs.to _ _,Nat.zero_le _,hx,(by simpa using hib)⟩ ?_);rintro _ _ _ ⟨m,zi,hm22,rfl,hs,hm,hx,hib2⟩;refine aE ?_;cases zb:(decide ((m:Int)<(8:Int)))
   ·
    have zd:=oF zb;refine lB 33 zb (af (cM (CG.exit ?_)))
    show CG _ _ _ _ _ _ _ _
    refine kQ (bB 42 ((k:Nat)+1) (k+1) ?_);refine lL hs [.m 28 42] (lD ?_);intro a_ ka;refine ⟨_,_,?_,⟨k+1,zi,rfl,rfl,hs.to _ _,oM,hx,(by rw[show m=8 by omega,rD oM] at hib2;exact hib2)⟩,ka.to _ kR⟩
    omega
   have zd:=oT zb;refine lB 33 zb (af (bS (cK (cQ (kZ (aa hs [.m 34 32,.m 6 34] (lN (kQ (lL hs [.m 35 5,.m 36 6] (bB 37 (8*(m:Nat)) (8*m) ?_))))))))));refine lV 38 (mV (((l.drop 1).getD k 0)/2^(8*m))) ?_ (hr:=gm (t:=22) (u:=3) (x:=.tmp 35) (y:=.tmp 37) (ky:=.i64) (a:=((l.drop 1).getD k 0)) (n:=(8*m)) kR kR kR oM _);refine lV 39 (.int .u8 ((((l.drop 1).getD k 0)/2^(8*m):Nat)%256:Nat)) ?_ (hr:=ay (n:=IntKind.wrap .u8 ((((l.drop 1).getD k 0)/2^(8*m):Nat):Int)) kR (x9 _));refine Hz 40 hsB hx (Any.Builder_WriteByte xv tE w4.heap.size w4.heap.size _ ((((l.drop 1).getD k 0)/2^(8*m)%256:Nat):Int) _ hib2 (sv oM oM oM) hx.size) (fun _ zj hs hx_ hq_=>?_)
   clear hx
   have hx:=hx_;clear hx_;rw[pQ oM] at hq_
   have hib3:Lib.IsBuilder 212 5 w4.heap.size w4.heap.size _ _:=.inr hq_;refine lN (kQ (bB 41 ((m:Nat)+1) (m+1) ?_));refine lL hs [.m 32 41] (lD ?_);intro a_ ka;refine ⟨_,_,?_,⟨m+1,zj,rfl,rfl,hs.to _ _,oM,hx,hib3⟩,ka.to _ kR⟩
   omega
  have phb7:=eq_of_beq hb7;refine lB 15 hb7 (lL hs [.m 14 15] (ao (aa hs [.m 16 0] (lX 17 A (tl l l.length) c 1 0 0 ((hs.f.1).ok oM) ?_))));exact lH 18 (mV (l.getD 0 0)) hs ((hs.f.1).el 0 oM) (lL hs [.v 19 (.agg #[mV (l.getD 0 0),eS])] (lP 0 0 ([mV (l.getD 0 0),eS]) hs (fun _ hs=>ae hs [(0,0,2)] (.agg #[mV (l.getD 0 0),eS]) (D4 hd oM))))
 have phb6:=eq_of_beq hb6;exact lB 12 hb6 (lL hs [.m 11 12] (ao (aa hs [.v 13 (.agg #[uV 0,eS])] (lP 0 0 ([uV 0,eS]) hs (fun _ hs=>ae hs [(0,0,2)] (.agg #[uV 0,eS]) (wI oM))))))
theorem Dk (n:Nat)(hn:n<18446744073709551616)(w:World)(h:Hp)(g:G w h):CV 125 #[mV n] w h (nv n):=by
 have hs:=sS g;exact go Tryz.func125 [(0,mV n)] rfl (aE (lA 2 24 ([uV 0,eS]) hs (fun b1 w2 h3 hs=>aT (lL hs [.m 3 0,.v 4 (.agg #[mV n,eS])] (lP 0 0 ([mV n,eS]) hs (fun w4 hs=>ae hs [(0,0,2)] (.agg #[mV n,eS]) (iN hn)))))))
theorem iQ (n:Nat)(hn:n<18446744073709551616)(w:World)(h:Hp)(g:G w h):CV 146 #[nv n] w h (.tuple #[mV n,.bool true]):=by
 have hs:=sS g;refine go Tryz.func146 [(0,nv n)] rfl (aE (lA 1 24 (nc n) hs (fun b1 w2 h3 hs=>lL hs [.v 2 (uV 0),.v 3 qF] (af (aa hs [.v 4 (qP b1 1),.o 5 (.string (hi n)) 0 1 1] (lV 6 qF ?_ (hr:=rb kR (E2 (eh hn)))))))));exact aj (cK (aa hs [.v 7 (pB b1),.o 8 (mV (n%18446744073709551616)) 0 0 1,.m 2 8,.v 3 qT] (ae hs [] (.tuple #[mV (n%18446744073709551616),qT]) (by rw[Nat.mod_eq_of_lt hn]))))
theorem xZ (n:Nat)(hn:18446744073709551616≤n)(w:World)(h:Hp)(g:G w h):CV 146 #[nv n] w h (.tuple #[uV 0,.bool false]):=by
 have hs:=sS g;refine go Tryz.func146 [(0,nv n)] rfl (aE (lA 1 24 (nc n) hs (fun b1 w2 h3 hs=>lL hs [.v 2 (uV 0),.v 3 qF] (af (aa hs [.v 4 (qP b1 1),.o 5 (.string (hi n)) 0 1 1] (lV 6 qT ?_ (hr:=rb kR (ER (eN hn)))))))));exact ao (aa hs [.v 2 (uV 0),.v 3 qF] (ae hs [] (.tuple #[uV 0,qF]) rfl))
theorem BC (a b:Nat)(w:World)(h:Hp)(g:G w h):CV 186 #[mV a,mV b] w h (iV (bT a b)):=by
 have hs:=sS g;refine go Tryz.func186 [(0,mV a),(1,mV b)] rfl (aa hs [.v 4 (iV 0)] (af (kZ (aa hs [.m 6 0,.m 7 1] ?_))));cases hb1:(decide ((a:Int)<(b:Int)))
 ·
  have phb1:=oF hb1;refine lB 8 hb1 (lL hs [.m 5 8] (aj (aa hs [.m 10 0,.m 11 1] ?_)));cases hb2:(decide ((b:Int)<(a:Int)))
  ·
   have phb2:=oF hb2;exact lB 12 hb2 (lL hs [.m 9 12] (aj (cK (aa hs [.v 4 (iV 0)] (ae hs [] (iV 0) (by rw[gz oM]))))))
  have phb2:=oT hb2;exact lB 12 hb2 (lL hs [.m 9 12] (ao (aa hs [.v 4 (iV 1)] (ae hs [] (iV 1) (by rw[eZ oM])))))
 have phb1:=oT hb1;exact lB 8 hb1 (lL hs [.m 5 8] (ao (aa hs [.v 4 (iV (-1))] (ae hs [] (iV (-1)) (by rw[dN oM])))))
theorem D7 (n:Nat)(hn:n<18446744073709551616)(w:World)(h:Hp)(g:G w h):CV 68 #[nv n] w h (nV (nb n)):=by
 have hs:=sS g;refine go Tryz.func68 [(0,nv n)] rfl (aE (lA 1 24 (nc n) hs (fun b1 w2 h3 hs=>lL hs [.v 2 (iV 0)] (af (aa hs [.v 3 (qP b1 1),.o 4 (.string (hi n)) 0 1 1] (lV 5 qT ?_ (hr:=rb kR (iw (eh hn)))))))));exact ao (aa hs [.v 6 (pB b1),.o 7 (mV (n%18446744073709551616)) 0 0 1] (ag 8 hs (uH (n%18446744073709551616) wM _ _ hs.g) (fun w4 h5 hs=>lL hs [.m 2 8] (ae hs [] (nV (nb (n%18446744073709551616))) (by rw[Nat.mod_eq_of_lt hn])))))
theorem CK (n:Nat)(hn:18446744073709551616≤n)(hl:(wds n).length≤1000000000)(w:World)(h:Hp)(g:G w h):CV 68 #[nv n] w h (nV (nb n)):=by
 have hs:=sS g;have hz:=ib n;have h2:=dJ hn;refine go Tryz.func68 [(0,nv n)] rfl (aE (lA 1 24 (nc n) hs (fun b1 w2 h3 hs=>lL hs [.v 2 (iV 0)] (af (aa hs [.v 3 (qP b1 1),.o 4 (.string (hi n)) 0 1 1] (lV 5 qF ?_ (hr:=rb kR (ig (eN hn)))))))));refine aj (cK (cQ (cR 14 [] mixed hs aq ?_)));refine eV 0 9 (qP b1 1) (eO 1 10 [(0,1,1)] (.string (hi n)) hs (eV 2 11 (nV ((hi n).size)) (li 3 12 (8*((hi n).size:Nat)) (8*(hi n).size) (eV 4 13 (qP b1 1) (eO 5 14 [(0,1,1)] (.string (hi n)) hs (eV 6 15 (qP b1 1) (eO 7 16 [(0,1,1)] (.string (hi n)) hs (eV 8 17 (nV ((hi n).size)) (li 9 18 (((hi n).size:Nat)-8) (8*((wds n).length-2)) (eV 10 19 (.string ((hi n).extract (8*((wds n).length-2):Nat) (hi n).size)) ?_ (hv:=fun _=>n0 (tx:=9) (x:=.tmp 14) (i:=.tmp 18) (k:=.i64) (s:=hi n) (n:=(8*((wds n).length-2):Nat)) (j:=((8*((wds n).length-2):Nat):Int)) kR kR kR kR oM oM _)))))))))));refine ak 11 20 hs (fun _ _ hs=>n4 ((hi n).extract (8*((wds n).length-2):Nat) (hi n).size) (by rw[gT];omega) _ _ hs.g) (fun w4 h5 hs=>ak 12 21 hs (fun _ _ hs=>uH (wv ((hi n).extract (8*((wds n).length-2):Nat) (hi n).size):Nat) wM _ _ hs.g) (fun w6 h7 hs=>?_));have hw:=iA n ((wds n).length-2) oM;rw[show (wds n).length-2+1=(wds n).length-1 by omega] at hw
 have hbn:=vM (n:=n) oM;have hnb:nb (wv ((hi n).extract (8*((wds n).length-2)) (hi n).size))≤64:=kv (k:=64) (B7 _);rw[←hw] at hbn
 exact li 13 22 ((8*(hi n).size:Nat)+(nb (wv ((hi n).extract (8*((wds n).length-2):Nat) (hi n).size):Nat):Nat)) (nb n) (bM hs (fun w8 h9 hs=>tV 14 2 (nV (nb n)) (tN (kX (hs.ret [] (nV (nb n)) rfl)))))
theorem ej (n:Nat)(hl:(wds n).length≤1000000000)(w:World)(h:Hp)(g:G w h):CV 68 #[nv n] w h (nV (nb n)):=by
 rcases Nat.lt_or_ge n 18446744073709551616 with hs|hs
 ·exact D7 n hs w h g
 ·exact CK n hs hl w h g
theorem km (a b:Nat)(hla:(wds a).length≤1000000000)(hlb:(wds b).length≤1000000000)(w:World)(h:Hp)(g:G w h):CV 144 #[nv a,nv b] w h (iV (bT a b)):=by
 have hs:=sS g;have hza:=ib a;have hzb:=ib b;refine go Tryz.func144 [(0,nv a),(1,nv b)] rfl (aE (lA 2 24 (nc a) hs (fun b1 w2 h3 hs=>lA 3 24 (nc b) hs (fun b4 w5 h6 hs=>lL hs [.v 4 (iV 0)] (af (aa hs [.v 8 (qP b1 1),.o 9 (.string (hi a)) 1 1 1,.v 10 (nV ((hi a).size)),.v 11 (qP b4 1),.o 12 (.string (hi b)) 0 1 1,.v 13 (nV ((hi b).size))] ?_))))));cases hb7:((((hi a).size:Nat):Int) != (((hi b).size:Nat):Int))
 ·
  have phb7:=aI hb7;refine lB 14 hb7 (aj (cK (cQ (aa hs [.v 22 (qP b1 1),.o 23 (.string (hi a)) 1 1 1,.v 24 (nV ((hi a).size))] (lV 25 (iV (8*(((wds a).length-1:Nat):Int)-8)) ?_ (hr:=rS ((((hi a).size:Nat)-8)) kR ((fS oM oM).trans oM)))))));refine lL hs [.m 5 25] (bj ?_);refine bx _ (CG.loop (fun μ_ Γ w_=>∃ (m:Nat) (h_:Hp),μ_=m∧Γ=[(2,pB b1),(3,pB b4),(5,iV (8*(m:Int)-8))]∧SS w h w_ h_ [⟨b4,24,nc b⟩,⟨b1,24,nc a⟩] [] []∧m≤(wds a).length-1∧(wds a).length-1=(wds b).length-1∧(wds a).drop (m+1)=(wds b).drop (m+1)) _ ⟨(wds a).length-1,h6,rfl,rfl,hs.to _ _,nR _,oM,(by rw[List.drop_eq_nil_of_le oM,List.drop_eq_nil_of_le oM])⟩ ?_);rintro _ _ w8 ⟨m,h9,hm10,rfl,hs,hm,hlen,hdr⟩;refine cQ (aa hs [.m 26 5] ?_);cases za:(decide ((0:Int)≤(8*(m:Int)-8:Int)))
  ·
   have zd:=oF za;refine lB 27 za (aj (CG.exit ?_))
   show CG _ _ _ _ _ _ _ _
   exact aa hs [.v 46 (pB b1),.o 47 (mV (a%18446744073709551616)) 1 0 1,.v 48 (pB b4),.o 49 (mV (b%18446744073709551616)) 0 0 1] (ag 50 hs (BC (a%18446744073709551616) (b%18446744073709551616) _ _ hs.g) (fun _ _ hs=>lL hs [.m 4 50] (ae hs [] (iV (bT (a%18446744073709551616) (b%18446744073709551616))) (by rw[nK (a:=a) (b:=b) oM (by have hm0:m=0:=oM;rw[hm0] at hdr;exact hdr)]))))
  have zd:=oT za;refine lB 27 za (ao (cK (cQ (kZ (cQ ?_)))));have hsr:=hs;refine jd 10 [] [] mixed hs aq (eV 0 30 (qP b1 1) (eO 1 31 [(1,1,1)] (.string (hi a)) hs (eV 2 32 (iV (8*(m:Int)-8)) (eV 3 33 (.string ((hi a).extract (8*(m-1)) (hi a).size)) ?_ (hv:=fun _=>n0 (tx:=9) (x:=.tmp 31) (i:=.tmp 32) (k:=.i64) (s:=hi a) (n:=8*(m-1)) (j:=(8*(m:Int)-8:Int)) kR kR kR kR oM oM _)))));refine eV 5 35 (qP b4 1) (gZ 6 36 [(0,1,1)] (.string (hi b)) hsr hs (eV 7 37 (iV (8*(m:Int)-8)) (eV 8 38 (.string ((hi b).extract (8*(m-1)) (hi b).size)) ?_ (hv:=fun _=>n0 (tx:=9) (x:=.tmp 36) (i:=.tmp 37) (k:=.i64) (s:=hi b) (n:=8*(m-1)) (j:=(8*(m:Int)-8:Int)) kR kR kR kR oM oM _))));refine ak 4 34 hs (fun _ _ hs=>n4 ((hi a).extract (8*(m-1)) (hi a).size) (by rw[gT];omega) _ _ hs.g) (fun _ _ hs=>ak 9 39 hs (fun _ _ hs=>n4 ((hi b).extract (8*(m-1)) (hi b).size) (by rw[gT];omega) _ _ hs.g) (fun _ _ hs=>bM hs (fun _ zg hs=>tV 10 6 (mV (wv ((hi a).extract (8*(m-1)) (hi a).size))) (tV 11 7 (mV (wv ((hi b).extract (8*(m-1)) (hi b).size))) (tS ?_)))));have hwa:=iA a (m-1) oM;have hwb:=iA b (m-1) oM;rw[show m-1+1=m by omega] at hwa hwb
  refine lL hs [.m 40 6,.m 41 7] ?_;cases zb:(((wv ((hi a).extract (8*(m-1)) (hi a).size):Nat):Int) != ((wv ((hi b).extract (8*(m-1)) (hi b).size):Nat):Int))
  ·
   have ze:=aI zb;refine lB 42 zb (aj (cK (kQ (lL hs [.m 28 5] (lV 29 (iV (8*((m-1:Nat):Int)-8)) ?_ (hr:=rS (((8*(m:Int)-8)-8)) kR ((fS oM oM).trans oM)))))));refine lL hs [.m 5 29] (lD ?_);intro a_ ka;refine ⟨_,_,?_,⟨m-1,zg,rfl,rfl,hs.to _ _,oM,hlen,(by rw[show m-1+1=m by omega];exact eT oM oM hdr oM)⟩,ka.to _ kR⟩
   omega
  have ze:=aJ zb;exact lB 42 zb (ao (aa hs [.m 43 6,.m 44 7] (ag 45 hs (BC (wv ((hi a).extract (8*(m-1)) (hi a).size):Nat) (wv ((hi b).extract (8*(m-1)) (hi b).size):Nat) _ _ hs.g) (fun _ _ hs=>lL hs [.m 4 45] (ae hs [] (iV (bT (wv ((hi a).extract (8*(m-1)) (hi a).size):Nat) (wv ((hi b).extract (8*(m-1)) (hi b).size):Nat))) (by rw[iA a (m-1) oM,iA b (m-1) oM,show m-1+1=m by omega];exact congrArg (Value.int .i64) (jM oM oM hdr oM)))))))
 have phb7:=aJ hb7;refine lB 14 hb7 (ao (cQ (aa hs [.v 15 (qP b1 1),.o 16 (.string (hi a)) 1 1 1,.v 17 (nV ((hi a).size)),.v 18 (qP b4 1),.o 19 (.string (hi b)) 0 1 1,.v 20 (nV ((hi b).size))] ?_)));cases zc:(decide ((((hi a).size:Nat):Int)<(((hi b).size:Nat):Int)))
 ·
  have zf:=oF zc;exact lB 21 zc (aj (cK (aa hs [.v 4 (iV 1)] (ae hs [] (iV 1) (by rw[eZ (fG oM)])))))
 have zf:=oT zc;exact lB 21 zc (ao (aa hs [.v 4 (iV (-1))] (ae hs [] (iV (-1)) (by rw[dN (fG oM)]))))
theorem vX (hi lo y:Nat)(hlt:hi<y)(hy:y<18446744073709551616)(hlo:lo<18446744073709551616)(w:World)(h:Hp)(g:G w h):CR 215 #[mV hi,mV lo,mV y] w h (fun v _=>∃ q r:Nat,v=.tuple #[uV q,uV r]∧hi*18446744073709551616+lo=y*q+r∧r<y∧q<18446744073709551616):=by
 have hs:=sS g;refine go Tryz.func215 [(0,mV hi),(1,mV lo),(2,mV y)] rfl (aa hs [.v 6 (uV 0),.v 7 (uV 0)] (af (aa hs [.m 19 2] ?_)));have hb1:((y:Int) == (0:Int))=false:=ft oM;have phb1:=ah hb1;refine lB 20 hb1 (aj (cK (cQ (aa hs [.m 22 2,.m 23 0] ?_))));have ⟨hb2,phb2⟩:=dF (p:=(y:Int)≤(hi:Int)) oM;refine lB 24 hb2 (aj (cK (cQ (aa hs [.m 26 0] ?_))));cases hb3:((hi:Int) == (0:Int))
 ·
  have phb3:=ah hb3;refine lB 27 hb3 (aj (cK (aa hs [.m 34 2] (ag 35 hs (BA y wM _ _ hs.g) (fun w4 h5 hs=>?_)))));obtain ⟨s,hsd⟩:∃ x_,x_=64-nb y:=⟨_,rfl⟩;refine lV 36 (mV s) ?_ (hr:=ay (ay (n:=IntKind.wrap .u64 ((64-nb y:Nat):Int)) kR (bG oM oM)) (by rw[hsd]));refine lL hs [.m 8 36] (aT (lL hs [.m 37 2,.m 38 8] ?_));obtain ⟨Y,hY⟩:∃ x_,x_=y*2^s:=⟨_,rfl⟩;have hn:=qx (y:=y) oM oM;rw[←hsd,←hY] at hn
  refine lV 39 (mV Y) ?_ (hr:=ay (gB (t:=22) (u:=179) (x:=.tmp 37) (y:=.tmp 38) (ky:=.u64) (a:=y) (n:=s) kR kR kR _) (by rw[←hY,Nat.mod_eq_of_lt hn.2]));refine lL hs [.m 2 39] (aT (lL hs [.m 40 2] ?_));obtain ⟨y1,hy1⟩:∃ x_,x_=Y/4294967296:=⟨_,rfl⟩;refine lV 41 (mV y1) ?_ (hr:=ay (ay (n:=Int.fdiv (Y:Int) 4294967296) kR (j3 _ 4294967296)) (by rw[hy1]));refine lL hs [.m 9 41] (aT (lL hs [.m 42 2] ?_));obtain ⟨y0,hy0⟩:∃ x_,x_=Y%4294967296:=⟨_,rfl⟩;refine lV 43 (mV y0) ?_ (hr:=ay (v7 (t:=22) (u:=22) (x:=.tmp 42) (y:=.const (uV 4294967295)) (a:=Y) (m:=4294967295) 32 kR kR kR oM kD _) (by rw[hy0]));refine lL hs [.m 10 43] (aT (lL hs [.m 44 0,.m 45 8] ?_));have hhi:hi*2^s<Y:=by rw[hY];exact Nat.mul_lt_mul_of_pos_right hlt (Nat.two_pow_pos s)
  obtain ⟨hsh,hsl⟩:=xc (hi:=hi) (lo:=lo) (s:=s) oM hlo;have hdl:=Nat.div_le_self lo (2^(64-s));have hYY:Y=y1*4294967296+y0:=by omega
  refine lV 46 (mV (hi*2^s)) ?_ (hr:=ay (gB (t:=22) (u:=179) (x:=.tmp 44) (y:=.tmp 45) (ky:=.u64) (a:=hi) (n:=s) kR kR kR _) (by rw[Nat.mod_eq_of_lt oM]));refine lL hs [.m 47 1,.m 48 8] (lV 49 (mV (64-s)) ?_ (hr:=rU (((64:Int)-(s:Int))) kR (fj 64 s oM oM)));refine lV 50 (mV (lo/2^(64-s))) ?_ (hr:=gm (t:=22) (u:=179) (x:=.tmp 47) (y:=.tmp 49) (ky:=.u64) (a:=lo) (n:=(64-s)) kR kR kR oM _);obtain ⟨u32,hu32⟩:∃ x_,x_=hi*2^s+lo/2^(64-s):=⟨_,rfl⟩;rw[←hu32] at hsh
  have huY:u32<Y:=by
    have e2:(hi+1)*2^s≤y*2^s:=Nat.mul_le_mul_right _ hlt;rw[Nat.add_mul,Nat.one_mul,←hY] at e2
    omega
  refine lV 51 (mV u32) ?_ (hr:=ay (i8 (t:=22) (u:=22) (x:=.tmp 46) (y:=.tmp 50) (a:=(hi*2^s)) (b:=(lo/2^(64-s))) kR kR kR oM oM _) (by rw[hu32,Nat.or_comm,gN s hsl,Nat.add_comm]));refine lL hs [.m 11 51] (aT (lL hs [.m 52 1,.m 53 8] ?_));obtain ⟨u10,hu10⟩:∃ x_,x_=lo*2^s%18446744073709551616:=⟨_,rfl⟩;rw[←hu10] at hsh
  have hu10b:u10<18446744073709551616:=by omega
  refine lV 54 (mV u10) ?_ (hr:=ay (gB (t:=22) (u:=179) (x:=.tmp 52) (y:=.tmp 53) (ky:=.u64) (a:=lo) (n:=s) kR kR kR _) (by rw[hu10]));refine lL hs [.m 12 54] (aT (lL hs [.m 55 12] ?_));obtain ⟨u1,hu1⟩:∃ x_,x_=u10/4294967296:=⟨_,rfl⟩;refine lV 56 (mV u1) ?_ (hr:=ay (ay (n:=Int.fdiv (u10:Int) 4294967296) kR (j3 _ 4294967296)) (by rw[hu1]));refine lL hs [.m 13 56] (lN (bx [(2,mV Y),(6,uV 0),(7,uV 0),(8,mV s),(9,mV y1),(10,mV y0),(11,mV u32),(12,mV u10),(13,mV u1)] ?_));refine aa hs [.m 57 12] ?_;obtain ⟨u0,hu0⟩:∃ x_,x_=u10%4294967296:=⟨_,rfl⟩;refine lV 58 (mV u0) ?_ (hr:=ay (v7 (t:=22) (u:=22) (x:=.tmp 57) (y:=.const (uV 4294967295)) (a:=u10) (m:=4294967295) 32 kR kR kR oM kD _) (by rw[hu0]));refine lL hs [.m 14 58] (aT (lL hs [.m 59 11,.m 60 9] ?_));have hH0:=k6 (Y:=Y) (y1:=y1) (y0:=y0) (u:=u32) (u1:=u1) hYY oM oM oM huY;have hR0:=mq (u:=u32) (y1:=y1) oM;have hM0:=Nat.div_mul_le_self u32 y1;obtain ⟨qa,hqa⟩:∃ x_,x_=u32/y1:=⟨_,rfl⟩;rw[←hqa] at hH0 hR0 hM0
  refine lV 61 (mV qa) ?_ (hr:=ay (ay (dQ (t:=22) (u:=22) (x:=.tmp 59) (y:=.tmp 60) (k:=.u64) (a:=(u32:Int)) (b:=(y1:Int)) kR kR kR oM _) (kg u32 y1 oM)) (by rw[hqa]));refine lL hs [.m 15 61] (aT (lL hs [.m 62 11,.m 63 15,.m 64 9] (lV 65 (mV (qa*y1)) ?_ (hr:=rU (((qa:Int)*(y1:Int))) kR (gQ qa y1 oM)))));obtain ⟨ra,hra⟩:∃ x_,x_=u32-qa*y1:=⟨_,rfl⟩;rw[←hra] at hH0 hR0
  refine lV 66 (mV ra) ?_ (hr:=ay (ay (n:=IntKind.wrap .u64 ((u32:Int)-((qa*y1:Nat):Int))) kR (fj u32 (qa*y1) oM oM)) (by rw[hra]));refine lL hs [.m 16 66] (lN (CG.join (fun Γ w_=>∃ (q1:Nat) (h_:Hp),Γ=[(2,mV Y),(6,uV 0),(7,uV 0),(8,mV s),(9,mV y1),(10,mV y0),(11,mV u32),(13,mV u1),(14,mV u0),(15,mV q1)]∧SS w h w_ h_ [] [] []∧q1=(u32*4294967296+u1)/Y∧(u32*4294967296+u1)-q1*Y=(u32*4294967296+u1)%Y∧q1*Y≤u32*4294967296+u1) ?_ ?_))
  ·
   refine kZ ?_;refine bx _ (CG.loop (fun μ_ Γ w_=>∃ (q:Nat) (r:Nat) (h_:Hp),μ_=q∧Γ=[(2,mV Y),(6,uV 0),(7,uV 0),(8,mV s),(9,mV y1),(10,mV y0),(11,mV u32),(13,mV u1),(14,mV u0),(15,mV q),(16,mV r)]∧SS w h w_ h_ [] [] []∧HalfQ Y y1 y0 u32 u1 q r∧r<4294967296) _ ⟨qa,ra,h5,rfl,rfl,hs.to _ _,hH0,oM⟩ ?_);rintro _ _ w6 ⟨q,r,h7,hm8,rfl,hs,hH,hr⟩;have hqb_:=hH.qb;refine cQ (aa hs [.m 67 15] ?_);cases hb9:(decide ((4294967296:Int)≤(q:Int)))
   ·
    have phb9:=oF hb9;refine lB 68 hb9 (lL hs [.m 69 68,.m 70 15,.m 71 10] (lV 72 (mV (q*y0)) ?_ (hr:=rU (((q:Int)*(y0:Int))) kR (gQ q y0 (BJ oM oM)))));refine lL hs [.m 73 16] (lV 74 (mV (4294967296*r)) ?_ (hr:=rU (((4294967296:Int)*(r:Int))) kR (gQ 4294967296 r oM)));refine lL hs [.m 75 13] (lV 76 (mV ((4294967296*r)+u1)) ?_ (hr:=rU ((((4294967296*r:Nat):Int)+(u1:Int))) kR (gq (4294967296*r) u1 oM)));cases za:(decide ((((4294967296*r)+u1:Nat):Int)<((q*y0:Nat):Int)))
    ·
     have zj:=oF za;refine lB 77 za (lL hs [.v 78 qF] (aj (CG.exit ?_)));intro a_ ka;exact ⟨_,⟨q,h7,rfl,hs.to _ _,(by first|exact hH.fin hYY oM|exact hH2.brk hYY oM oM (by have:=hH2.qb;omega))⟩,ka.to _ kR⟩
    have zj:=oT za;refine lB 77 za (lL hs [.v 78 qT] (ao (cK (kZ (aa hs [.m 79 15] ?_)))));have hq1:0<q:=by first|omega|exact dq (show 4294967296*r+u1<q*y0 by omega)
    have hH2:=hH.dec hYY oM huY (by first|exact .inl oM|exact .inr oM);refine lV 80 (mV (q-1)) ?_ (hr:=rU (((q:Int)-(1:Int))) kR (fj q 1 oM oM));refine lL hs [.m 15 80] (aT (lL hs [.m 81 16,.m 82 9] (lV 83 (mV (r+y1)) ?_ (hr:=rU (((r:Int)+(y1:Int))) kR (gq r y1 oM)))));refine lL hs [.m 16 83] (aT (lL hs [.m 84 16] ?_));cases zb:(decide ((4294967296:Int)≤((r+y1:Nat):Int)))
    ·
     have zk:=oF zb;refine lB 85 zb (aj (CG.skip ?_));intro a_ ka;refine ⟨_,_,?_,⟨q-1,r+y1,h7,rfl,rfl,hs.to _ _,hH2,oM⟩,ka.to _ kR⟩
     omega
    have zk:=oT zb;refine lB 85 zb (ao (CG.exit ?_));intro a_ ka;exact ⟨_,⟨(q-1),h7,rfl,hs.to _ _,(by first|exact hH.fin hYY oM|exact hH2.brk hYY oM oM (by have:=hH2.qb;omega))⟩,ka.to _ kR⟩
   have phb9:=oT hb9;refine lB 68 hb9 (lL hs [.m 69 68] (lG 70 ?_));refine lG 71 (lG 72 (lG 73 (lG 74 (lG 75 (lG 76 (lG 77 (lL hs [.v 78 qT] (ao (cK (kZ (aa hs [.m 79 15] ?_)))))))))));have hq1:0<q:=by first|omega|exact dq (show 4294967296*r+u1<q*y0 by omega)
   have hH2:=hH.dec hYY oM huY (by first|exact .inl oM|exact .inr oM);refine lV 80 (mV (q-1)) ?_ (hr:=rU (((q:Int)-(1:Int))) kR (fj q 1 oM oM));refine lL hs [.m 15 80] (aT (lL hs [.m 81 16,.m 82 9] (lV 83 (mV (r+y1)) ?_ (hr:=rU (((r:Int)+(y1:Int))) kR (gq r y1 oM)))));refine lL hs [.m 16 83] (aT (lL hs [.m 84 16] ?_));cases zc:(decide ((4294967296:Int)≤((r+y1:Nat):Int)))
   ·
    have zl:=oF zc;refine lB 85 zc (aj (CG.skip ?_));intro a_ ka;refine ⟨_,_,?_,⟨q-1,r+y1,h7,rfl,rfl,hs.to _ _,hH2,oM⟩,ka.to _ kR⟩
    omega
   have zl:=oT zc;refine lB 85 zc (ao (CG.exit ?_));intro a_ ka;exact ⟨_,⟨(q-1),h7,rfl,hs.to _ _,(by first|exact hH.fin hYY oM|exact hH2.brk hYY oM oM (by have:=hH2.qb;omega))⟩,ka.to _ kR⟩
  rintro _ _ ⟨q1,zq,rfl,hs,hF⟩;refine aE ?_;obtain ⟨hF1,hF2,hF3⟩:=hF;have hF4:=oI (u1:=u1) huY oM;rw[←hF1] at hF4
  refine lL hs [.m 86 11] (lV 87 (mV ((u32*4294967296)%18446744073709551616)) ?_ (hr:=rU (((u32:Int)*(4294967296:Int))) kR (kY u32 4294967296)));refine lL hs [.m 88 13] (lV 89 (mV ((((u32*4294967296)%18446744073709551616)+u1)%18446744073709551616)) ?_ (hr:=rU (((((u32*4294967296)%18446744073709551616:Nat):Int)+(u1:Int))) kR (uO ((u32*4294967296)%18446744073709551616) u1)));refine lL hs [.m 90 15,.m 91 2] (lV 92 (mV ((q1*Y)%18446744073709551616)) ?_ (hr:=rU (((q1:Int)*(Y:Int))) kR (kY q1 Y)));obtain ⟨r1,hr1⟩:∃ x_,x_=(u32*4294967296+u1)%Y:=⟨_,rfl⟩;have hr1Y:r1<Y:=by rw[hr1];exact Nat.mod_lt _ oM
  refine lV 93 (mV r1) ?_ (hr:=ay (ay (n:=IntKind.wrap .u64 ((((((u32*4294967296)%18446744073709551616)+u1)%18446744073709551616:Nat):Int)-(((q1*Y)%18446744073709551616:Nat):Int))) kR (BX ((((u32*4294967296)%18446744073709551616)+u1)%18446744073709551616:Nat) ((q1*Y)%18446744073709551616) oM)) (by rw[mj hF3 (hF2.trans hr1.symm) oM]));refine lL hs [.m 17 93] (aT (lL hs [.m 94 17,.m 95 9] ?_));have hK0:=k6 (Y:=Y) (y1:=y1) (y0:=y0) (u:=r1) (u1:=u0) hYY oM oM oM hr1Y;have hS0:=mq (u:=r1) (y1:=y1) oM;have hL0:=Nat.div_mul_le_self r1 y1;obtain ⟨qb,hqb⟩:∃ x_,x_=r1/y1:=⟨_,rfl⟩;rw[←hqb] at hK0 hS0 hL0
  refine lV 96 (mV qb) ?_ (hr:=ay (ay (dQ (t:=22) (u:=22) (x:=.tmp 94) (y:=.tmp 95) (k:=.u64) (a:=(r1:Int)) (b:=(y1:Int)) kR kR kR oM _) (kg r1 y1 oM)) (by rw[hqb]));refine lL hs [.m 18 96] (aT (lL hs [.m 97 17,.m 98 18,.m 99 9] (lV 100 (mV (qb*y1)) ?_ (hr:=rU (((qb:Int)*(y1:Int))) kR (gQ qb y1 oM)))));obtain ⟨rb,hrb⟩:∃ x_,x_=r1-qb*y1:=⟨_,rfl⟩;rw[←hrb] at hK0 hS0
  refine lV 101 (mV rb) ?_ (hr:=ay (ay (n:=IntKind.wrap .u64 ((r1:Int)-((qb*y1:Nat):Int))) kR (fj r1 (qb*y1) oM oM)) (by rw[hrb]));refine lL hs [.m 16 101] (lN (CG.join (fun Γ w_=>∃ (p1:Nat) (h_:Hp),Γ=[(2,mV Y),(6,uV 0),(7,uV 0),(8,mV s),(14,mV u0),(15,mV q1),(17,mV r1),(18,mV p1)]∧SS w h w_ h_ [] [] []∧p1=(r1*4294967296+u0)/Y∧(r1*4294967296+u0)-p1*Y=(r1*4294967296+u0)%Y∧p1*Y≤r1*4294967296+u0) ?_ ?_))
  ·
   refine kZ ?_;refine bx _ (CG.loop (fun μ_ Γ w_=>∃ (p:Nat) (t:Nat) (h_:Hp),μ_=p∧Γ=[(2,mV Y),(6,uV 0),(7,uV 0),(8,mV s),(9,mV y1),(10,mV y0),(14,mV u0),(15,mV q1),(17,mV r1),(18,mV p),(16,mV t)]∧SS w h w_ h_ [] [] []∧HalfQ Y y1 y0 r1 u0 p t∧t<4294967296) _ ⟨qb,rb,zq,rfl,rfl,hs.to _ _,hK0,oM⟩ ?_);rintro _ _ _ ⟨p,t,zi,hm24,rfl,hs,hK,ht⟩;have hpb_:=hK.qb;refine cQ (aa hs [.m 102 18] ?_);cases zd:(decide ((4294967296:Int)≤(p:Int)))
   ·
    have zm:=oF zd;refine lB 103 zd (lL hs [.m 104 103,.m 105 18,.m 106 10] (lV 107 (mV (p*y0)) ?_ (hr:=rU (((p:Int)*(y0:Int))) kR (gQ p y0 (BJ oM oM)))));refine lL hs [.m 108 16] (lV 109 (mV (4294967296*t)) ?_ (hr:=rU (((4294967296:Int)*(t:Int))) kR (gQ 4294967296 t oM)));refine lL hs [.m 110 14] (lV 111 (mV ((4294967296*t)+u0)) ?_ (hr:=rU ((((4294967296*t:Nat):Int)+(u0:Int))) kR (gq (4294967296*t) u0 oM)));cases ze:(decide ((((4294967296*t)+u0:Nat):Int)<((p*y0:Nat):Int)))
    ·
     have zn:=oF ze;refine lB 112 ze (lL hs [.v 113 qF] (aj (CG.exit ?_)));intro a_ ka;exact ⟨_,⟨p,zi,rfl,hs.to _ _,(by first|exact hK.fin hYY oM|exact hK2.brk hYY oM oM (by have:=hK2.qb;omega))⟩,ka.to _ kR⟩
    have zn:=oT ze;refine lB 112 ze (lL hs [.v 113 qT] (ao (cK (kZ (aa hs [.m 114 18] ?_)))));have hq2:0<p:=by first|omega|exact dq (show 4294967296*t+u0<p*y0 by omega)
    have hK2:=hK.dec hYY oM hr1Y (by first|exact .inl oM|exact .inr oM);refine lV 115 (mV (p-1)) ?_ (hr:=rU (((p:Int)-(1:Int))) kR (fj p 1 oM oM));refine lL hs [.m 18 115] (aT (lL hs [.m 116 16,.m 117 9] (lV 118 (mV (t+y1)) ?_ (hr:=rU (((t:Int)+(y1:Int))) kR (gq t y1 oM)))));refine lL hs [.m 16 118] (aT (lL hs [.m 119 16] ?_));cases zf:(decide ((4294967296:Int)≤((t+y1:Nat):Int)))
    ·
     have zo:=oF zf;refine lB 120 zf (aj (CG.skip ?_));intro a_ ka;refine ⟨_,_,?_,⟨p-1,t+y1,zi,rfl,rfl,hs.to _ _,hK2,oM⟩,ka.to _ kR⟩
     omega
    have zo:=oT zf;refine lB 120 zf (ao (CG.exit ?_));intro a_ ka;exact ⟨_,⟨(p-1),zi,rfl,hs.to _ _,(by first|exact hK.fin hYY oM|exact hK2.brk hYY oM oM (by have:=hK2.qb;omega))⟩,ka.to _ kR⟩
   have zm:=oT zd;refine lB 103 zd (lL hs [.m 104 103] (lG 105 ?_));refine lG 106 (lG 107 (lG 108 (lG 109 (lG 110 (lG 111 (lG 112 (lL hs [.v 113 qT] (ao (cK (kZ (aa hs [.m 114 18] ?_)))))))))));have hq2:0<p:=by first|omega|exact dq (show 4294967296*t+u0<p*y0 by omega)
   have hK2:=hK.dec hYY oM hr1Y (by first|exact .inl oM|exact .inr oM);refine lV 115 (mV (p-1)) ?_ (hr:=rU (((p:Int)-(1:Int))) kR (fj p 1 oM oM));refine lL hs [.m 18 115] (aT (lL hs [.m 116 16,.m 117 9] (lV 118 (mV (t+y1)) ?_ (hr:=rU (((t:Int)+(y1:Int))) kR (gq t y1 oM)))));refine lL hs [.m 16 118] (aT (lL hs [.m 119 16] ?_));cases zg:(decide ((4294967296:Int)≤((t+y1:Nat):Int)))
   ·
    have zp:=oF zg;refine lB 120 zg (aj (CG.skip ?_));intro a_ ka;refine ⟨_,_,?_,⟨p-1,t+y1,zi,rfl,rfl,hs.to _ _,hK2,oM⟩,ka.to _ kR⟩
    omega
   have zp:=oT zg;refine lB 120 zg (ao (CG.exit ?_));intro a_ ka;exact ⟨_,⟨(p-1),zi,rfl,hs.to _ _,(by first|exact hK.fin hYY oM|exact hK2.brk hYY oM oM (by have:=hK2.qb;omega))⟩,ka.to _ kR⟩
  rintro _ _ ⟨p1,_,rfl,hs,hE⟩;refine aE ?_;obtain ⟨hE1,hE2,hE3⟩:=hE;have hE4:=oI (u1:=u0) hr1Y oM;rw[←hE1] at hE4
  refine lL hs [.m 121 15] (lV 122 (mV (q1*4294967296)) ?_ (hr:=rU (((q1:Int)*(4294967296:Int))) kR (gQ q1 4294967296 oM)));refine lL hs [.m 123 18] (lV 124 (mV ((q1*4294967296)+p1)) ?_ (hr:=rU ((((q1*4294967296:Nat):Int)+(p1:Int))) kR (gq (q1*4294967296) p1 oM)));refine lL hs [.m 125 17] (lV 126 (mV ((r1*4294967296)%18446744073709551616)) ?_ (hr:=rU (((r1:Int)*(4294967296:Int))) kR (kY r1 4294967296)));refine lL hs [.m 127 14] (lV 128 (mV ((((r1*4294967296)%18446744073709551616)+u0)%18446744073709551616)) ?_ (hr:=rU (((((r1*4294967296)%18446744073709551616:Nat):Int)+(u0:Int))) kR (uO ((r1*4294967296)%18446744073709551616) u0)));refine lL hs [.m 129 18,.m 130 2] (lV 131 (mV ((p1*Y)%18446744073709551616)) ?_ (hr:=rU (((p1:Int)*(Y:Int))) kR (kY p1 Y)));obtain ⟨R,hR⟩:∃ x_,x_=(r1*4294967296+u0)%Y:=⟨_,rfl⟩;have hRY:R<Y:=by rw[hR];exact Nat.mod_lt _ oM
  refine lV 132 (mV R) ?_ (hr:=ay (ay (n:=IntKind.wrap .u64 ((((((r1*4294967296)%18446744073709551616)+u0)%18446744073709551616:Nat):Int)-(((p1*Y)%18446744073709551616:Nat):Int))) kR (BX ((((r1*4294967296)%18446744073709551616)+u0)%18446744073709551616:Nat) ((p1*Y)%18446744073709551616) oM)) (by rw[mj hE3 (hE2.trans hR.symm) oM]));refine lL hs [.m 133 8] (lV 134 (mV (R/2^s)) ?_ (hr:=gm (t:=22) (u:=179) (x:=.tmp 132) (y:=.tmp 133) (ky:=.u64) (a:=R) (n:=s) kR kR kR oM _));refine lL hs [.m 6 124,.m 7 134] (lN (kX ?_));obtain ⟨hB1,hB2⟩:=rF (A:=hi*18446744073709551616+lo) (y:=y) hY hsh (show u10=u1*4294967296+u0 by omega) oM hF1 hr1 hE1 hR;exact hs.ret [] (.tuple #[mV ((q1*4294967296)+p1),mV (R/2^s)]) (⟨_,_,rfl,hB1,hB2,by omega⟩)
 have phb3:=eq_of_beq hb3;refine lB 27 hb3 (ao (cQ (cR 6 [] mixed hs aq ?_)));refine eV 0 28 (mV lo) (eV 1 29 (mV y) (eV 2 30 (mV (lo/y)) ?_ (hv:=fun _=>ay (dQ (t:=22) (u:=22) (x:=.tmp 28) (y:=.tmp 29) (k:=.u64) (a:=(lo:Int)) (b:=(y:Int)) kR kR kR oM _) (kg lo y oM))));refine eV 3 31 (mV lo) (eV 4 32 (mV y) (eV 5 33 (mV (lo%y)) ?_ (hv:=fun _=>ay (fD (t:=22) (u:=22) (x:=.tmp 31) (y:=.tmp 32) (k:=.u64) (a:=(lo:Int)) (b:=(y:Int)) kR kR kR oM _) (dD lo y))));refine bM hs (fun _ _ hs=>tV 6 6 (mV (lo/y)) (tV 7 7 (mV (lo%y)) (tN (kX ?_))));have hdm:=Nat.div_add_mod lo y;have hml:=Nat.mod_lt lo (show 0<y by omega);have hdle:=Nat.div_le_self lo y;have hh0:hi=0:=by omega
 subst hh0;exact hs.ret [] (.tuple #[mV (lo/y),mV (lo%y)]) (⟨lo/y,lo%y,rfl,by rw[Nat.zero_mul,Nat.zero_add];exact hdm.symm,hml,by omega⟩)
def Bq (h1:Hp)(v:Value)(m:Nat)(Q:List Nat→Prop):Prop:=∃ A c,∃ z:List Nat,v=.slice A z.length c∧z.length≤c∧z.length=m∧Wd z∧Q z∧SlO 1 ai 0 h1 A z
theorem Wd.set {l:List Nat}(h:Wd l)(k:Nat){x:Nat}(hx:x<18446744073709551616):Wd (l.set k x):=Dg.set h k hx
theorem Wd.rep (n:Nat):Wd (List.replicate n 0):=Dg.rep kD
theorem ot {l:List Nat}{k j x:Nat}(hk:k<l.length)(h:∀ i,j≤i→l.getD i 0=0)(hj:k<j):∀ i,j≤i→(l.set k x).getD i 0=0:=fun i hi=>by rw[bD hk,if_neg oM];exact h i hi
theorem BO (A:Option Addr)(c:Nat)(x:List Nat)(D:Option Addr)(d:Nat)(y:List Nat)(hx:Wd x)(hy:Wd y)(hlx:x.length≤1000000000)(hly:y.length≤1000000000)(w:World)(h:Hp)(g:G w h)(hA:SlO 1 ai 0 h A x)(hD:SlO 1 ai 0 h D y):CR 158 #[.slice A x.length c,.slice D y.length d] w h (fun v h1=>Bq h1 v (x.length+y.length) (fun z=>aA z=aA x*aA y)):=by
 have hs:=(((sS g).aS hA).aS hD);refine go Tryz.func158 [(0,qS A x.length c),(1,qS D y.length d)] rfl (aa hs [.v 4 (sZ)] (aT (lL hs [.m 15 0,.v 16 (nV x.length),.m 17 1,.v 18 (nV y.length)] (bB 19 ((x.length:Nat)+(y.length:Nat)) (x.length+y.length) ?_))));refine lK 20 22 (x.length+y.length) 1 8 (uV 0) ai 0 hs (fun b1 w2 h3 hs=>?_);have hl4:(List.replicate (x.length+y.length) 0).length=(x.length+y.length):=by simp
 refine lL hs [.m 5 20] (af (aa hs [.m 21 0,.v 22 (nV x.length),.v 23 (iV 0)] (bj ?_)));refine bx _ (CG.loop (fun μ_ Γ w_=>∃ (i:Nat) (l:List Nat) (h_:Hp),μ_=x.length-i∧Γ=[(1,qS D y.length d),(4,sZ),(5,qS (sB b1) (x.length+y.length) (x.length+y.length)),(21,qS A x.length c),(22,nV x.length),(23,nV i)]∧SS w h w_ h_ [⟨b1,22,(l).flatMap ai⟩] [] [fun h_=>SlO 1 ai 0 h_ D y,fun h_=>SlO 1 ai 0 h_ A x]∧i≤x.length∧l.length=x.length+y.length∧Wd l∧aA l=am 18446744073709551616 (x.take i)*aA y∧(∀ k,i+y.length≤k→l.getD k 0=0)) _ ⟨0,List.replicate (x.length+y.length) 0,h3,rfl,rfl,hs.to _ _,Nat.zero_le _,hl4,Wd.rep _,(by show am _ _=_;rw[fs];simp[am]),fun k _=>fX⟩ ?_);rintro _ _ w5 ⟨i,l,h6,hm7,rfl,hs,hi,hll,hW,hv,hz⟩;refine aE ?_;cases hb8:(decide ((i:Int)<(x.length:Int)))
 ·
  have phb8:=oF hb8;refine lB 24 hb8 (af (cM (CG.exit ?_)))
  show CG _ _ _ _ _ _ _ _
  refine aa hs [.m 79 5,.m 4 79] (lN (kX ?_));have hix:i=x.length:=by omega
  rw[hix,List.take_length] at hv
  obtain ⟨h9,hs,sg10,lo11,bc12⟩:=hs.pub 0;replace hs:=(hs.to [] []).aS (SlO.of_flat (sz:=1) (f:=ai) (d:=0) (b:=b1) (o:=0) (l:=l) (fun _=>rfl) sg10);exact hs.ret [] (qS (sB b1) (x.length+y.length) (x.length+y.length)) (⟨sB b1,_,l,by rw[hll],by omega,hll,hW,hv,hs.f.1⟩)
 have phb8:=oT hb8;refine lB 24 hb8 (af (bS (cK (cQ (kZ (aa hs [.m 25 23] (lX 26 A x.length c 1 (i:Nat) i ((hs.f.2.1).ok oM) ?_)))))));refine lH 27 (mV (x.getD i 0)) hs ((hs.f.2.1).el i oM) (lL hs [.m 6 25,.m 7 27] (aT (lL hs [.v 8 (uV 0)] (af (aa hs [.m 28 1,.v 29 (nV y.length),.v 30 (iV 0)] (bj ?_))))));refine bx _ (CG.loop (fun μ_ Γ w_=>∃ (j:Nat) (l2:List Nat) (cy:Nat) (h_:Hp),μ_=y.length-j∧Γ=[(1,qS D y.length d),(4,sZ),(5,qS (sB b1) (x.length+y.length) (x.length+y.length)),(21,qS A x.length c),(22,nV x.length),(23,nV i),(6,nV i),(7,mV (x.getD i 0)),(28,qS D y.length d),(29,nV y.length),(30,nV j),(8,mV cy)]∧SS w h w_ h_ [⟨b1,22,(l2).flatMap ai⟩] [] [fun h_=>SlO 1 ai 0 h_ D y,fun h_=>SlO 1 ai 0 h_ A x]∧j≤y.length∧l2.length=x.length+y.length∧Wd l2∧cy<18446744073709551616∧am 18446744073709551616 l2+18446744073709551616^(i+j)*cy=aA l+18446744073709551616^i*(x.getD i 0*am 18446744073709551616 (y.take j))∧(∀ k,i+y.length≤k→l2.getD k 0=0)) _ ⟨0,l,0,h6,rfl,rfl,hs.to _ _,Nat.zero_le _,hll,hW,by omega,(by show am _ l+_=am _ l+_;simp[am]),hz⟩ ?_);rintro _ _ _ ⟨j,l2,cy,zi,hm16,rfl,hs,hj,hll2,hW2,hc,inv,hz2⟩;have hlk:=hW2.get (i+j);refine aE ?_;cases zc:(decide ((j:Int)<(y.length:Int)))
 ·
  have zd:=oF zc;refine lB 31 zc (af (cM (CG.exit ?_)))
  show CG _ _ _ _ _ _ _ _
  refine kQ (lL hs [.m 71 5,.m 72 6,.m 73 1,.v 74 (nV y.length)] (bB 75 ((i:Nat)+(y.length:Nat)) (i+y.length) ?_));refine lL hs [.m 76 8] (lX 77 (sB b1) (x.length+y.length) (x.length+y.length) 1 (i+y.length:Nat) (i+y.length) rfl ?_);refine lW 0 l2 ai 1 (i+y.length) cy hs oM (fun _ hs=>?_);have zf:((l2).set (i+y.length) cy).length=(x.length+y.length):=by rw[List.length_set];exact hll2
  replace hs:=hs.to [⟨b1,22,((l2).set (i+y.length) cy).flatMap ai⟩] [];refine lN (kQ (bB 78 ((i:Nat)+1) (i+1) ?_));refine lL hs [.m 23 78] (lD ?_);intro a_ ka;refine ⟨_,_,?_,⟨i+1,(l2).set (i+y.length) cy,zi,rfl,rfl,hs.to _ _,oM,zf,(hW2.set _ hc),(by have hjy:j=y.length:=oM;rw[hjy] at inv;exact (x6 oM inv (hz2 _ oM)).trans (Bg hv)),(ot oM (fun k hk=>hz2 k oM) oM)⟩,ka.to _ kR⟩
  omega
 have zd:=oT zc;refine lB 31 zc (af (bS (cK (cQ (kZ (aa hs [.m 32 30] (lX 33 D y.length d 1 (j:Nat) j ((hs.f.1).ok oM) ?_)))))));refine lH 34 (mV (y.getD j 0)) hs ((hs.f.1).el j oM) (lL hs [.m 9 32,.m 10 34] (aT (lL hs [.m 36 7,.m 37 10] (lC 38 hs (kl (x.getD i 0) (y.getD j 0) wM wM _ _ hs.g) ?_))));rintro _ _ zj hs ⟨s25,ze,rfl,he27,hl28,hm29,hn30⟩;have hxhe27:=gC (a:=(x.getD i 0)) (b:=(y.getD j 0)) wM wM;refine lL hs [.m 35 38,.v 39 (mV s25),.v 40 (mV ze),.m 11 39,.m 12 40] (aT (lL hs [.m 42 12,.m 43 5,.m 44 6,.m 45 9] (bB 46 ((i:Nat)+(j:Nat)) (i+j) ?_)));refine lX 47 (sB b1) (x.length+y.length) (x.length+y.length) 1 (i+j:Nat) (i+j) rfl (lQ 48 0 l2 ai 1 0 (i+j) (mV ((l2).getD (i+j) 0)) hs oM ?_);obtain ⟨s33,za,he35,hl36,hm37,hr38⟩:=dh ze ((l2).getD (i+j) 0) 0 wM wM oM;refine lV 49 (.tuple #[mV s33,mV za]) ?_ (hr:=de kR (hr38 _));refine lL hs [.m 41 49,.v 50 (mV s33),.v 51 (mV za),.m 13 50,.m 14 51] (aT (lL hs [.m 52 11,.m 53 14] (lV 54 (mV (s25+za)) ?_ (hr:=rU (((s25:Int)+(za:Int))) kR (gq s25 za oM)))));refine lL hs [.m 11 54] (lN (bx [(1,qS D y.length d),(4,sZ),(5,qS (sB b1) (x.length+y.length) (x.length+y.length)),(21,qS A x.length c),(22,nV x.length),(23,nV i),(6,nV i),(7,mV (x.getD i 0)),(28,qS D y.length d),(29,nV y.length),(30,nV j),(8,mV cy),(9,nV j),(11,mV (s25+za)),(13,mV s33),(14,mV za)] ?_));refine aa hs [.m 56 13,.m 57 8] ?_;obtain ⟨s39,zb,he41,hl42,hm43,hr44⟩:=dh s33 cy 0 wM wM oM;refine lV 58 (.tuple #[mV s39,mV zb]) ?_ (hr:=de kR (hr44 _));refine lL hs [.m 55 58,.v 59 (mV s39),.v 60 (mV zb),.m 13 59,.m 14 60] (lN (kQ (lL hs [.m 61 5,.m 62 6,.m 63 9] (bB 64 ((i:Nat)+(j:Nat)) (i+j) ?_))));refine lL hs [.m 65 13,.m 66 11,.m 67 14] (lV 68 (mV ((s25+za)+zb)) ?_ (hr:=rU ((((s25+za:Nat):Int)+(zb:Int))) kR (gq (s25+za) zb oM)));refine lX 69 (sB b1) (x.length+y.length) (x.length+y.length) 1 (i+j:Nat) (i+j) rfl (lW 0 l2 ai 1 (i+j) s39 hs oM (fun _ hs=>?_));have zg:((l2).set (i+j) s39).length=(x.length+y.length):=by rw[List.length_set];exact hll2
 replace hs:=hs.to [⟨b1,22,((l2).set (i+j) s39).flatMap ai⟩] [];refine lL hs [.m 8 68] (lN (kQ (bB 70 ((j:Nat)+1) (j+1) ?_)));refine lL hs [.m 30 70] (lD ?_);intro a_ ka;refine ⟨_,_,?_,⟨j+1,(l2).set (i+j) s39,((s25+za)+zb),zj,rfl,rfl,hs.to _ _,oM,zg,(hW2.set _ oM),oM,(nN oM inv oM),(ot oM hz2 oM)⟩,ka.to _ kR⟩
 omega
theorem AS {x:List Nat}(hx:Wd x){n:Nat}(h:x.length≤n/64):aA x<2^n:=by
 have h1:=bX hx;have h2:(18446744073709551616:Nat)^x.length=2^(64*x.length):=by rw[Nat.pow_mul]
 have h3:(2:Nat)^(64*x.length)≤2^n:=Nat.pow_le_pow_right oM oM
 show am _ x<_
 omega
theorem mp {l:List Nat}{k x:Nat}(hk:k<l.length)(h:∀ i,k≤i→l.getD i 0=0):∀ i,k+1≤i→(l.set k x).getD i 0=0:=fun i hi=>by rw[bD hk,if_neg oM];exact h i oM
theorem ua (A:Option Addr)(c:Nat)(x:List Nat)(hx:Wd x)(hlx:x.length≤1000000000)(n:Nat)(hn:n≤1000000000)(w:World)(h:Hp)(g:G w h)(hA:SlO 1 ai 0 h A x):CR 161 #[.slice A x.length c,nV n] w h (fun v h1=>Bq h1 v (x.length+n/64+1) (fun z=>aA z=aA x*2^n)):=by
 have hs:=((sS g).aS hA);refine go Tryz.func161 [(0,qS A x.length c),(1,nV n)] rfl (aa hs [.v 4 (sZ)] (aT (lL hs [.m 10 1] (lV 11 (nV (n/64)) ?_ (hr:=ay (dQ (t:=3) (u:=3) (x:=.tmp 10) (y:=.const (iV 64)) (k:=.i64) (a:=(n:Int)) (b:=(64:Int)) kR kR kR oM _) (dH n 64 oM))))));refine lL hs [.m 12 1] (lV 13 (nV (n%64)) ?_ (hr:=ay (fD (t:=3) (u:=3) (x:=.tmp 12) (y:=.const (iV 64)) (k:=.i64) (a:=(n:Int)) (b:=(64:Int)) kR kR kR oM _) (dD n 64)));refine lV 14 (mV (n%64)) ?_ (hr:=rU (((n%64:Nat):Int)) kR (bG oM oM));refine lL hs [.m 5 11,.m 6 14] (aT (lL hs [.m 15 0,.v 16 (nV x.length),.m 17 5] (bB 18 ((x.length:Nat)+(n/64:Nat)) (x.length+(n/64)) ?_)));refine bB 19 ((x.length+(n/64):Nat)+1) ((x.length+(n/64))+1) (lK 20 22 ((x.length+(n/64))+1:Nat) 1 8 (uV 0) ai 0 hs (fun b1 w2 h3 hs=>?_));have hl4:(List.replicate ((x.length+(n/64))+1:Nat) 0).length=((x.length+(n/64))+1:Nat):=by simp
 refine lL hs [.m 7 20] (af (aa hs [.m 21 0,.v 22 (nV x.length),.v 23 (iV 0)] (bj ?_)));refine bx _ (CG.loop (fun μ_ Γ w_=>∃ (i:Nat) (l:List Nat) (h_:Hp),μ_=x.length-i∧Γ=[(4,sZ),(5,nV (n/64)),(6,mV (n%64)),(7,qS (sB b1) ((x.length+(n/64))+1:Nat) ((x.length+(n/64))+1:Nat)),(21,qS A x.length c),(22,nV x.length),(23,nV i)]∧SS w h w_ h_ [⟨b1,22,(l).flatMap ai⟩] [] [fun h_=>SlO 1 ai 0 h_ A x]∧i≤x.length∧l.length=x.length+n/64+1∧Wd l∧aA l=2^(n%64)*(18446744073709551616^(n/64)*am 18446744073709551616 (x.take i))∧l.getD (i+n/64) 0<2^(n%64)∧(∀ k,i+n/64+1≤k→l.getD k 0=0)) _ ⟨0,List.replicate ((x.length+(n/64))+1:Nat) 0,h3,rfl,rfl,hs.to _ _,Nat.zero_le _,hl4,Wd.rep _,(by show am _ _=_;rw[fs];simp[am]),(by rw[fX];exact Nat.two_pow_pos _),fun k _=>fX⟩ ?_);rintro _ _ w5 ⟨i,l,h6,hm7,rfl,hs,hi,hll,hW,hv,ho,hz⟩;refine aE ?_;cases hb8:(decide ((i:Int)<(x.length:Int)))
 ·
  have phb8:=oF hb8;refine lB 24 hb8 (af (cM (CG.exit ?_)))
  show CG _ _ _ _ _ _ _ _
  refine aa hs [.m 50 7,.m 4 50] (lN (kX ?_));have hix:i=x.length:=by omega
  rw[hix,List.take_length] at hv
  obtain ⟨h9,hs,sg10,lo11,bc12⟩:=hs.pub 0;replace hs:=(hs.to [] []).aS (SlO.of_flat (sz:=1) (f:=ai) (d:=0) (b:=b1) (o:=0) (l:=l) (fun _=>rfl) sg10);exact hs.ret [] (qS (sB b1) ((x.length+(n/64))+1:Nat) ((x.length+(n/64))+1:Nat)) (⟨sB b1,_,l,by rw[hll],by omega,hll,hW,(by show aA l=_;rw[hv,ux n];show _*(_*aA x)=_;ac_rfl),hs.f.1⟩)
 have phb8:=oT hb8;refine lB 24 hb8 (af (bS (cK (cQ (kZ (aa hs [.m 25 23] (lX 26 A x.length c 1 (i:Nat) i ((hs.f.1).ok oM) ?_)))))));refine lH 27 (mV (x.getD i 0)) hs ((hs.f.1).el i oM) (lL hs [.m 8 25,.m 9 27] (aT (lL hs [.m 28 7,.m 29 8,.m 30 5] (bB 31 ((i:Nat)+(n/64:Nat)) (i+(n/64)) ?_))));refine lX 32 (sB b1) ((x.length+(n/64))+1:Nat) ((x.length+(n/64))+1:Nat) 1 (i+(n/64):Nat) (i+(n/64)) rfl (lQ 33 0 l ai 1 0 (i+(n/64)) (mV ((l).getD (i+(n/64)) 0)) hs oM (lL hs [.m 34 9,.m 35 6] (lV 36 (mV ((x.getD i 0)*2^(n%64)%18446744073709551616)) ?_ (hr:=gB (t:=22) (u:=179) (x:=.tmp 34) (y:=.tmp 35) (ky:=.u64) (a:=(x.getD i 0)) (n:=(n%64)) kR kR kR _))));have hxi:=hx.get i;obtain ⟨hS1,hS2,hS3,hS4⟩:=wm (x:=x.getD i 0) (p:=n%64) (o:=l.getD (i+n/64) 0) oM hxi ho;have hlg:=hW.get (i+n/64);refine lV 37 (mV (l.getD (i+n/64) 0+x.getD i 0*2^(n%64)%18446744073709551616)) ?_ (hr:=ay (i8 (t:=22) (u:=22) (x:=.tmp 33) (y:=.tmp 36) (a:=((l).getD (i+(n/64)) 0:Nat)) (b:=((x.getD i 0)*2^(n%64)%18446744073709551616)) kR kR kR oM oM _) (by rw[hS1]));refine lX 38 (sB b1) ((x.length+(n/64))+1:Nat) ((x.length+(n/64))+1:Nat) 1 (i+(n/64):Nat) (i+(n/64)) rfl (lW 0 l ai 1 (i+(n/64)) (l.getD (i+n/64) 0+x.getD i 0*2^(n%64)%18446744073709551616) hs oM (fun _ hs=>?_));have za:((l).set (i+(n/64)) (l.getD (i+n/64) 0+x.getD i 0*2^(n%64)%18446744073709551616)).length=((x.length+(n/64))+1:Nat):=by rw[List.length_set];exact hll
 replace hs:=hs.to [⟨b1,22,((l).set (i+(n/64)) (l.getD (i+n/64) 0+x.getD i 0*2^(n%64)%18446744073709551616)).flatMap ai⟩] [];refine lN (kQ (lL hs [.m 39 7,.m 40 8,.m 41 5] (bB 42 ((i:Nat)+(n/64:Nat)) (i+(n/64)) ?_)));refine bB 43 ((i+(n/64):Nat)+1) ((i+(n/64))+1) (lL hs [.m 44 9,.m 45 6] (lV 46 (mV (64-(n%64))) ?_ (hr:=rU (((64:Int)-((n%64:Nat):Int))) kR (fj 64 (n%64) oM oM))));refine lV 47 (mV ((x.getD i 0)/2^(64-(n%64)))) ?_ (hr:=gm (t:=22) (u:=179) (x:=.tmp 44) (y:=.tmp 46) (ky:=.u64) (a:=(x.getD i 0)) (n:=(64-(n%64))) kR kR kR oM _);refine lX 48 (sB b1) ((x.length+(n/64))+1:Nat) ((x.length+(n/64))+1:Nat) 1 ((i+(n/64))+1:Nat) ((i+(n/64))+1:Nat) rfl (lW 0 ((l).set (i+(n/64)) (l.getD (i+n/64) 0+x.getD i 0*2^(n%64)%18446744073709551616)) ai 1 ((i+(n/64))+1:Nat) ((x.getD i 0)/2^(64-(n%64)):Nat) hs oM (fun _ hs=>?_));have zb:(((l).set (i+(n/64)) (l.getD (i+n/64) 0+x.getD i 0*2^(n%64)%18446744073709551616)).set ((i+(n/64))+1:Nat) ((x.getD i 0)/2^(64-(n%64)):Nat)).length=((x.length+(n/64))+1:Nat):=by rw[List.length_set];exact za
 replace hs:=hs.to [⟨b1,22,(((l).set (i+(n/64)) (l.getD (i+n/64) 0+x.getD i 0*2^(n%64)%18446744073709551616)).set ((i+(n/64))+1:Nat) ((x.getD i 0)/2^(64-(n%64)):Nat)).flatMap ai⟩] [];refine lN (kQ (bB 49 ((i:Nat)+1) (i+1) ?_));refine lL hs [.m 23 49] (lD ?_);intro a_ ka;refine ⟨_,_,?_,⟨i+1,((l).set (i+(n/64)) (l.getD (i+n/64) 0+x.getD i 0*2^(n%64)%18446744073709551616)).set ((i+(n/64))+1:Nat) ((x.getD i 0)/2^(64-(n%64)):Nat),h6,rfl,rfl,hs.to _ _,oM,zb,((hW.set _ hS2).set _ (by have:=Nat.div_le_self (x.getD i 0) (2^(64-n%64));omega)),(tk oM hv (hz _ oM) hS3 rfl rfl),(by rw[show i+1+n/64=i+n/64+1 by omega,bD (by rw[List.length_set];omega),if_pos rfl];exact hS4),(fun k hk=>by rw[bD (by rw[List.length_set];omega),if_neg oM,bD oM,if_neg oM];exact hz k oM)⟩,ka.to _ kR⟩
 omega
theorem Fe (A:Option Addr)(c:Nat)(x:List Nat)(hx:Wd x)(hlx:x.length≤1000000000)(n:Nat)(hn:n≤1000000000)(w:World)(h:Hp)(g:G w h)(hA:SlO 1 ai 0 h A x):CR 160 #[.slice A x.length c,nV n] w h (fun v h1=>Bq h1 v (x.length-n/64) (fun z=>aA z=aA x/2^n)):=by
 have hs:=((sS g).aS hA);refine go Tryz.func160 [(0,qS A x.length c),(1,nV n)] rfl (aa hs [.v 4 (sZ)] (aT (lL hs [.m 9 1] (lV 10 (nV (n/64)) ?_ (hr:=ay (dQ (t:=3) (u:=3) (x:=.tmp 9) (y:=.const (iV 64)) (k:=.i64) (a:=(n:Int)) (b:=(64:Int)) kR kR kR oM _) (dH n 64 oM))))));refine lL hs [.m 11 1] (lV 12 (nV (n%64)) ?_ (hr:=ay (fD (t:=3) (u:=3) (x:=.tmp 11) (y:=.const (iV 64)) (k:=.i64) (a:=(n:Int)) (b:=(64:Int)) kR kR kR oM _) (dD n 64)));refine lV 13 (mV (n%64)) ?_ (hr:=rU (((n%64:Nat):Int)) kR (bG oM oM));refine lL hs [.m 5 10,.m 6 13] (af (aa hs [.m 14 5,.m 15 0,.v 16 (nV x.length)] ?_));cases hb1:(decide ((x.length:Int)≤((n/64:Nat):Int)))
 ·
  have phb1:=oF hb1;refine lB 17 hb1 (aj (cK (aa hs [.m 18 0,.v 19 (nV x.length),.m 20 5] (bB 21 ((x.length:Nat)-(n/64:Nat)) (x.length-(n/64)) ?_))));refine lK 22 22 (x.length-(n/64)) 1 8 (uV 0) ai 0 hs (fun b2 w3 h4 hs=>?_);have hl5:(List.replicate (x.length-(n/64)) 0).length=(x.length-(n/64)):=by simp
  refine lL hs [.m 7 22] (af (aa hs [.m 23 7,.v 24 (nV (x.length-(n/64))),.v 25 (iV 0)] (bj ?_)));refine bx _ (CG.loop (fun μ_ Γ w_=>∃ (i:Nat) (l:List Nat) (h_:Hp),μ_=x.length-n/64-i∧Γ=[(0,qS A x.length c),(4,sZ),(5,nV (n/64)),(6,mV (n%64)),(7,qS (sB b2) (x.length-(n/64)) (x.length-(n/64))),(24,nV (x.length-(n/64))),(25,nV i)]∧SS w h w_ h_ [⟨b2,22,(l).flatMap ai⟩] [] [fun h_=>SlO 1 ai 0 h_ A x]∧i≤x.length-n/64∧l.length=x.length-n/64∧Wd l∧2^(n%64)*am 18446744073709551616 l+(x.drop (n/64)).getD 0 0%2^(n%64)=am 18446744073709551616 ((x.drop (n/64)).take i)+18446744073709551616^i*((x.drop (n/64)).getD i 0%2^(n%64))∧(∀ k,i≤k→l.getD k 0=0)) _ ⟨0,List.replicate (x.length-(n/64)) 0,h4,rfl,rfl,hs.to _ _,Nat.zero_le _,hl5,Wd.rep _,(by rw[fs];simp[am]),fun k _=>fX⟩ ?_);rintro _ _ w6 ⟨i,l,h7,hm8,rfl,hs,hi,hll,hW,inv,hz⟩;refine aE ?_;cases hb9:(decide ((i:Int)<(((x.length-(n/64)):Nat):Int)))
  ·
   have phb9:=oF hb9;refine lB 26 hb9 (af (cM (CG.exit ?_)))
   show CG _ _ _ _ _ _ _ _
   refine aa hs [.m 63 7,.m 4 63] (lN (kX ?_));have hix:i=x.length-n/64:=by omega
   have hE:=xd (W:=x.drop (n/64)) (m:=i) (by rw[List.length_drop];omega) inv;rw[mi hx oM,Nat.div_div_eq_div_mul,←ux n] at hE
   obtain ⟨_,hs,sg11,lo12,bc13⟩:=hs.pub 0;replace hs:=(hs.to [] []).aS (SlO.of_flat (sz:=1) (f:=ai) (d:=0) (b:=b2) (o:=0) (l:=l) (fun _=>rfl) sg11);exact hs.ret [] (qS (sB b2) (x.length-(n/64)) (x.length-(n/64))) (⟨sB b2,_,l,by rw[hll],by omega,by omega,hW,hE,hs.f.1⟩)
  have phb9:=oT hb9;refine lB 26 hb9 (af (bS (cK (cQ (kZ (aa hs [.m 27 25,.m 8 27] (aT (lL hs [.m 28 7,.m 29 8,.m 30 0,.m 31 8,.m 32 5] (bB 33 ((i:Nat)+(n/64:Nat)) (i+(n/64)) ?_)))))))));refine lX 34 A x.length c 1 (i+(n/64):Nat) (i+(n/64)) ((hs.f.1).ok oM) (lH 35 (mV (x.getD (i+(n/64)) 0)) hs ((hs.f.1).el (i+(n/64)) oM) (lL hs [.m 36 6] ?_));have hxi:=hx.get (i+n/64);refine lV 37 (mV ((x.getD (i+(n/64)) 0:Nat)/2^(n%64))) ?_ (hr:=gm (t:=22) (u:=179) (x:=.tmp 35) (y:=.tmp 36) (ky:=.u64) (a:=(x.getD (i+(n/64)) 0:Nat)) (n:=(n%64)) kR kR kR oM _);refine lX 38 (sB b2) (x.length-(n/64)) (x.length-(n/64)) 1 (i:Nat) i rfl (lW 0 l ai 1 i ((x.getD (i+(n/64)) 0:Nat)/2^(n%64):Nat) hs oM (fun _ hs=>?_));have zb:((l).set i ((x.getD (i+(n/64)) 0:Nat)/2^(n%64):Nat)).length=(x.length-(n/64)):=by rw[List.length_set];exact hll
  replace hs:=hs.to [⟨b2,22,((l).set i ((x.getD (i+(n/64)) 0:Nat)/2^(n%64):Nat)).flatMap ai⟩] [];refine aT (lL hs [.m 39 8,.m 40 5] (bB 41 ((i:Nat)+(n/64:Nat)) (i+(n/64)) ?_));refine bB 42 ((i+(n/64):Nat)+1) ((i+(n/64))+1) (lL hs [.m 43 0,.v 44 (nV x.length)] ?_);cases za:(decide ((((i+(n/64))+1:Nat):Int)<(x.length:Int)))
  ·
   have zc:=oF za;refine lB 45 za (aj (cK (kQ (bB 62 ((i:Nat)+1) (i+1) ?_))));refine lL hs [.m 25 62] (lD ?_);intro a_ ka;refine ⟨_,_,?_,⟨i+1,(l).set i ((x.getD (i+(n/64)) 0:Nat)/2^(n%64):Nat),h7,rfl,rfl,hs.to _ _,oM,zb,(hW.set _ (by have:=Nat.div_le_self (x.getD (i+n/64) 0) (2^(n%64));omega)),(oP oM inv (hz _ (nR _)) (by rw[bC,bC,show n/64+i=i+n/64 by omega,bL (show x.length≤n/64+(i+1) by omega),Nat.zero_mod,Nat.mul_zero,Nat.add_zero];exact Nat.div_add_mod _ _)),(mp oM hz)⟩,ka.to _ kR⟩
   omega
  have zc:=oT za;refine lB 45 za (ao (cR 15 [] mixed hs aq ?_));refine eV 0 46 (qS (sB b2) (x.length-(n/64)) (x.length-(n/64))) (eV 1 47 (nV i) (eX 2 48 (sB b2) (x.length-(n/64)) (x.length-(n/64)) 1 (i:Nat) i rfl (eQ 3 49 0 ((l).set i ((x.getD (i+(n/64)) 0:Nat)/2^(n%64):Nat)) ai 1 0 i (mV (((l).set i ((x.getD (i+(n/64)) 0:Nat)/2^(n%64):Nat)).getD i 0)) hs oM (eV 4 50 (qS A x.length c) (eV 5 51 (nV i) (eV 6 52 (nV (n/64)) (li 7 53 ((i:Nat)+(n/64:Nat)) (i+(n/64)) (li 8 54 ((i+(n/64):Nat)+1) ((i+(n/64))+1) (eX 9 55 A x.length c 1 ((i+(n/64))+1:Nat) ((i+(n/64))+1:Nat) ((hs.f.1).ok oM) (eH 10 56 (mV (x.getD ((i+(n/64))+1:Nat) 0)) hs ((hs.f.1).el ((i+(n/64))+1:Nat) oM) (eV 11 57 (mV (n%64)) (eV 12 58 (mV (64-(n%64))) ?_ (hv:=fun _=>rU (((64:Int)-((n%64:Nat):Int))) kR (fj 64 (n%64) oM oM))))))))))))));refine eV 13 59 (mV ((x.getD ((i+(n/64))+1:Nat) 0:Nat)*2^(64-(n%64))%18446744073709551616)) ?_ (hv:=fun _=>gB (t:=22) (u:=179) (x:=.tmp 56) (y:=.tmp 58) (ky:=.u64) (a:=(x.getD ((i+(n/64))+1:Nat) 0:Nat)) (n:=(64-(n%64))) kR kR kR _);obtain ⟨hS1,hS2,hS3⟩:=oO (x:=x.getD (i+n/64) 0) (y:=x.getD (i+n/64+1) 0) (p:=n%64) oM hxi;have hdv:=Nat.div_le_self (x.getD (i+n/64) 0) (2^(n%64));have hgs:=bD (l:=l) (k:=i) (j:=i) (x:=x.getD (i+n/64) 0/2^(n%64)) oM;rw[if_pos rfl] at hgs
  refine eV 14 60 (mV (x.getD (i+n/64) 0/2^(n%64)+x.getD (i+n/64+1) 0*2^(64-n%64)%18446744073709551616)) ?_ (hv:=fun _=>ay (i8 (t:=22) (u:=22) (x:=.tmp 49) (y:=.tmp 59) (a:=(((l).set i ((x.getD (i+(n/64)) 0:Nat)/2^(n%64):Nat)).getD i 0:Nat)) (b:=((x.getD ((i+(n/64))+1:Nat) 0:Nat)*2^(64-(n%64))%18446744073709551616:Nat)) kR kR kR oM oM _) (by rw[hgs,hS1]));refine bM hs (fun _ ze hs=>tX 15 61 (sB b2) (x.length-(n/64)) (x.length-(n/64)) 1 (i:Nat) i rfl (tW 16 0 ((l).set i ((x.getD (i+(n/64)) 0:Nat)/2^(n%64):Nat)) ai 1 i (x.getD (i+n/64) 0/2^(n%64)+x.getD (i+n/64+1) 0*2^(64-n%64)%18446744073709551616) hs oM (fun _ hs=>?_)));have zd:(((l).set i ((x.getD (i+(n/64)) 0:Nat)/2^(n%64):Nat)).set i (x.getD (i+n/64) 0/2^(n%64)+x.getD (i+n/64+1) 0*2^(64-n%64)%18446744073709551616)).length=(x.length-(n/64)):=by rw[List.length_set];exact zb
  replace hs:=hs.to [⟨b2,22,(((l).set i ((x.getD (i+(n/64)) 0:Nat)/2^(n%64):Nat)).set i (x.getD (i+n/64) 0/2^(n%64)+x.getD (i+n/64+1) 0*2^(64-n%64)%18446744073709551616)).flatMap ai⟩] [];refine tN (bx [(0,qS A x.length c),(4,sZ),(5,nV (n/64)),(6,mV (n%64)),(7,qS (sB b2) (x.length-(n/64)) (x.length-(n/64))),(24,nV (x.length-(n/64))),(25,nV i)] ?_);refine kQ (bB 62 ((i:Nat)+1) (i+1) ?_);refine lL hs [.m 25 62] (lD ?_);intro a_ ka;refine ⟨_,_,?_,⟨i+1,((l).set i ((x.getD (i+(n/64)) 0:Nat)/2^(n%64):Nat)).set i (x.getD (i+n/64) 0/2^(n%64)+x.getD (i+n/64+1) 0*2^(64-n%64)%18446744073709551616),ze,rfl,rfl,hs.to _ _,oM,zd,((hW.set _ oM).set _ hS2),(by rw[List.set_set];exact oP oM inv (hz _ (nR _)) (by rw[bC,bC,show n/64+i=i+n/64 by omega,show n/64+(i+1)=i+n/64+1 by omega];exact hS3)),(by rw[List.set_set];exact mp oM hz)⟩,ka.to _ kR⟩
  omega
 have phb1:=oT hb1;exact lB 17 hb1 (ao (aa hs [.v 4 (sZ)] (ae hs [] (sZ) (⟨none,0,[],rfl,by simp,by simp;omega,Dg.nil,(by show 0=_;exact (Nat.div_eq_of_lt (AS hx oM)).symm),SlO.nil⟩))))
theorem GW {a b:Nat}(ha:a<18446744073709551616)(hb:b<18446744073709551616):a*b≤340282366920938463426481119284349108225:=by
 have h1:a≤18446744073709551615:=by omega
 have h2:b≤18446744073709551615:=by omega
 exact Nat.mul_le_mul h1 h2
def w3 (u2 u1 u0:Nat):Nat:=18446744073709551616*(18446744073709551616*u2+u1)+u0
def w2 (v1 v0:Nat):Nat:=18446744073709551616*v1+v0
structure Gss (u2 u1 u0 v1 v0 g r o:Nat):Prop where
  e:g*v1+(r+18446744073709551616*o)=18446744073709551616*u2+u1
  lt:g+1=18446744073709551616∨w3 u2 u1 u0<(g+1)*w2 v1 v0
  gb:g<18446744073709551616
def xH (u2 u1 u0 v1 v0 g:Nat):Prop:=g*w2 v1 v0≤w3 u2 u1 u0∧(g+1=18446744073709551616∨w3 u2 u1 u0<(g+1)*w2 v1 v0)∧g<18446744073709551616
theorem gv {g v1 v0:Nat}:g*w2 v1 v0=18446744073709551616*(g*v1)+g*v0:=by unfold w2;rw[Nat.mul_add,Nat.mul_left_comm]
theorem Gss.fin {u2 u1 u0 v1 v0 g r o:Nat}(h:Gss u2 u1 u0 v1 v0 g r o)(ht:g*v0≤18446744073709551616*(r+18446744073709551616*o)+u0):xH u2 u1 u0 v1 v0 g:=by
 refine ⟨?_,h.lt,h.gb⟩;rw[gv]
 unfold w3
 rw[←h.e,Nat.mul_add]
 omega
theorem Gss.over {u2 u1 u0 v1 v0 g r o:Nat}(h:Gss u2 u1 u0 v1 v0 g r o)(ho:0<o)(h0:v0<18446744073709551616):xH u2 u1 u0 v1 v0 g:=by
 refine h.fin ?_;have h1:=GW h.gb h0
 omega
theorem Gss.dec {u2 u1 u0 v1 v0 g r r' o':Nat}(h:Gss u2 u1 u0 v1 v0 g r 0)(ht:18446744073709551616*r+u0<g*v0)(e:r'+18446744073709551616*o'=r+v1):0<g∧Gss u2 u1 u0 v1 v0 (g-1) r' o':=by
 have hg:0<g:=dq ht;obtain ⟨p,rfl⟩:∃ p,g=p+1:=⟨g-1,by omega⟩;have e1:=h.e;rw[Nat.mul_zero,Nat.add_zero] at e1
 have h1:w3 u2 u1 u0<(p+1)*w2 v1 v0:=by
  rw[gv]
  unfold w3
  rw[←e1,Nat.mul_add]
  omega
 have e2:(p+1)*v1=p*v1+v1:=by rw[Nat.add_mul,Nat.one_mul]
 rw[Nat.add_sub_cancel];exact ⟨hg,⟨by omega,Or.inr h1,by have:=h.gb;omega⟩⟩
theorem wH {u2 u1 u0 v1 v0 r o:Nat}(h:u2=v1)(e:r+18446744073709551616*o=u1+v1):Gss u2 u1 u0 v1 v0 18446744073709551615 r o:=by
 subst h;exact ⟨by omega,.inl rfl,by decide⟩
theorem xe {u2 u1 u0 v1 v0 q r:Nat}(e:u2*18446744073709551616+u1=v1*q+r)(hr:r<v1)(h0:u0<18446744073709551616)(hq:q<18446744073709551616):Gss u2 u1 u0 v1 v0 q r 0:=by
 rw[Nat.mul_comm u2] at e
 refine ⟨by rw[Nat.mul_comm q];omega,.inr ?_,hq⟩;rw[gv,Nat.add_mul q 1 v1,Nat.one_mul,Nat.mul_comm q v1]
 unfold w3
 rw[e]
 have h1:18446744073709551616*(v1*q+r)+18446744073709551616≤18446744073709551616*(v1*q+v1):=by
  rw[←Nat.mul_succ];exact Nat.mul_le_mul_left _ oM
 have h2:0≤(q+1)*v0:=Nat.zero_le _
 omega
theorem Ct (u2 u1 u0 v1 v0:Nat)(h0:u2<18446744073709551616)(h1:u1<18446744073709551616)(h2:u0<18446744073709551616)(h3:v1<18446744073709551616)(h4:v0<18446744073709551616)(hle:u2≤v1)(hv:0<v1)(w:World)(h:Hp)(g:G w h):CR 217 #[mV u2,mV u1,mV u0,mV v1,mV v0] w h (fun v _=>∃ g:Nat,v=mV g∧xH u2 u1 u0 v1 v0 g):=by
 have hs:=sS g;refine go Tryz.func217 [(0,mV u2),(1,mV u1),(2,mV u0),(3,mV v1),(4,mV v0)] rfl (aa hs [.v 10 (uV 0)] (aT (lL hs [.v 11 (uV 0),.v 12 (uV 0),.v 13 (uV 0)] (af (aa hs [.m 16 0,.m 17 3] ?_)))));cases hb1:((u2:Int) == (v1:Int))
 ·
  have phb1:=ah hb1;refine lB 18 hb1 (aj (kQ (lL hs [.m 26 0,.m 27 1,.m 28 3] (lC 29 hs (vX u2 u1 v1 oM wM wM _ _ hs.g) ?_))));rintro _ w7 h8 hs ⟨q2,r3,rfl,he4,hl5,hm6⟩;refine lL hs [.m 25 29,.v 30 (mV q2),.v 31 (mV r3),.m 11 30,.m 12 31] (af (kZ ?_));refine bx _ (CG.loop (fun μ_ Γ w_=>∃ (g:Nat) (r:Nat) (ov:Nat) (h_:Hp),μ_=g∧Γ=[(2,mV u0),(3,mV v1),(4,mV v0),(10,uV 0),(11,mV g),(12,mV r),(13,mV ov)]∧SS w h w_ h_ [] [] []∧Gss u2 u1 u0 v1 v0 g r ov∧r<18446744073709551616∧ov≤1) _ ⟨q2,r3,0,h8,rfl,rfl,hs.to _ _,xe oM oM h2 oM,oM,oM⟩ ?_);rintro _ _ w9 ⟨g,r,ov,_,hm11,rfl,hs,hG,hr,hov⟩;have hgl:=hG.gb;refine cQ (aa hs [.m 32 13] ?_);cases za:((ov:Int) == (0:Int))
  ·
   have zo:=ah za;refine lB 33 za (aj (CG.exit ?_))
   show CG _ _ _ _ _ _ _ _
   exact aa hs [.m 61 11,.m 10 61] (ae hs [] (mV g) (⟨g,rfl,(by first|exact hG.over oM h4|(rw[show ov=0 by omega] at hG;exact hG.fin oM))⟩))
  have zo:=eq_of_beq za;refine lB 33 za (ao (cK (kZ (aa hs [.m 35 11,.m 36 4] (lC 37 hs (kl g v0 wM wM _ _ hs.g) ?_)))));rintro _ _ zx hs ⟨s13,zA,rfl,he15,hl16,hm17,hn18⟩;have hxhe15:=gC (a:=g) (b:=v0) wM wM;refine lL hs [.m 34 37,.v 38 (mV s13),.v 39 (mV zA),.m 14 38,.m 15 39] (af (aa hs [.m 40 14,.m 41 12] ?_));cases zb:(decide ((s13:Int)<(r:Int)))
  ·
   have zp:=oF zb;refine lB 42 zb (lL hs [.m 43 42,.m 44 14,.m 45 12] ?_);cases zc:((s13:Int) == (r:Int))
   ·
    have zq:=ah zc;refine lB 46 zc (lL hs [.m 47 46] (lG 48 ?_));refine lG 49 (lG 50 (lL hs [.v 51 qF,.v 52 qF] (aj (cK (aE ?_)))));have hgt:18446744073709551616*r+u0<g*v0:=by omega
    rw[show ov=0 by omega] at hG
    have hg0:=dq hgt;have hgb:=hG.gb;refine lL hs [.m 53 11] (lV 54 (mV (g-1)) ?_ (hr:=rU (((g:Int)-(1:Int))) kR (fj g 1 oM oM)));refine lL hs [.m 11 54] (lN (kQ (lL hs [.m 56 12,.m 57 3] ?_)));obtain ⟨s23,zj,he25,hl26,hm27,hr28⟩:=dh r v1 0 wM wM oM;refine lV 58 (.tuple #[mV s23,mV zj]) ?_ (hr:=de kR (hr28 _));refine lL hs [.m 55 58,.v 59 (mV s23),.v 60 (mV zj),.m 12 59,.m 13 60] (lD ?_);intro a_ ka;refine ⟨_,_,?_,⟨g-1,s23,zj,zx,rfl,rfl,hs.to _ _,((hG.dec hgt oM).2),oM,oM⟩,ka.to _ kR⟩
    omega
   have zq:=eq_of_beq zc;refine lB 46 zc (lL hs [.m 47 46,.m 48 15,.m 49 2] ?_);cases zd:(decide ((zA:Int)≤(u0:Int)))
   ·
    have zs:=oF zd;refine lB 50 zd (lL hs [.v 51 qF,.v 52 qF] (aj (cK (aE ?_))));have hgt:18446744073709551616*r+u0<g*v0:=by omega
    rw[show ov=0 by omega] at hG
    have hg0:=dq hgt;have hgb:=hG.gb;refine lL hs [.m 53 11] (lV 54 (mV (g-1)) ?_ (hr:=rU (((g:Int)-(1:Int))) kR (fj g 1 oM oM)));refine lL hs [.m 11 54] (lN (kQ (lL hs [.m 56 12,.m 57 3] ?_)));obtain ⟨s33,zk,he35,hl36,hm37,hr38⟩:=dh r v1 0 wM wM oM;refine lV 58 (.tuple #[mV s33,mV zk]) ?_ (hr:=de kR (hr38 _));refine lL hs [.m 55 58,.v 59 (mV s33),.v 60 (mV zk),.m 12 59,.m 13 60] (lD ?_);intro a_ ka;refine ⟨_,_,?_,⟨g-1,s33,zk,zx,rfl,rfl,hs.to _ _,((hG.dec hgt oM).2),oM,oM⟩,ka.to _ kR⟩
    omega
   have zs:=oT zd;refine lB 50 zd (lL hs [.v 51 qT,.v 52 qT] (ao (CG.exit ?_)))
   show CG _ _ _ _ _ _ _ _
   exact aa hs [.m 61 11,.m 10 61] (ae hs [] (mV g) (⟨g,rfl,(by first|exact hG.over oM h4|(rw[show ov=0 by omega] at hG;exact hG.fin oM))⟩))
  have zp:=oT zb;refine lB 42 zb (lL hs [.m 43 42] (lG 44 ?_));refine lG 45 (lG 46 (lG 47 (lG 48 (lG 49 (lG 50 (lG 51 (lL hs [.v 52 qT] (ao (CG.exit ?_)))))))))
  show CG _ _ _ _ _ _ _ _
  exact aa hs [.m 61 11,.m 10 61] (ae hs [] (mV g) (⟨g,rfl,(by first|exact hG.over oM h4|(rw[show ov=0 by omega] at hG;exact hG.fin oM))⟩))
 have phb1:=eq_of_beq hb1;refine lB 18 hb1 (ao (aa hs [.v 11 (uV 18446744073709551615)] (lN (kQ (lL hs [.m 20 1,.m 21 3] ?_)))));obtain ⟨s42,zl,he44,hl45,hm46,hr47⟩:=dh u1 v1 0 wM wM oM;refine lV 22 (.tuple #[mV s42,mV zl]) ?_ (hr:=de kR (hr47 _));refine lL hs [.m 19 22,.v 23 (mV s42),.v 24 (mV zl),.m 12 23,.m 13 24] (af (kZ ?_));refine bx _ (CG.loop (fun μ_ Γ w_=>∃ (g:Nat) (r:Nat) (ov:Nat) (h_:Hp),μ_=g∧Γ=[(2,mV u0),(3,mV v1),(4,mV v0),(10,uV 0),(11,mV g),(12,mV r),(13,mV ov)]∧SS w h w_ h_ [] [] []∧Gss u2 u1 u0 v1 v0 g r ov∧r<18446744073709551616∧ov≤1) _ ⟨18446744073709551615,s42,zl,h,rfl,rfl,hs.to _ _,wH oM oM,oM,oM⟩ ?_);rintro _ _ _ ⟨g,r,ov,_,hm50,rfl,hs,hG,hr,hov⟩;have hgl:=hG.gb;refine cQ (aa hs [.m 32 13] ?_);cases ze:((ov:Int) == (0:Int))
 ·
  have zt:=ah ze;refine lB 33 ze (aj (CG.exit ?_))
  show CG _ _ _ _ _ _ _ _
  exact aa hs [.m 61 11,.m 10 61] (ae hs [] (mV g) (⟨g,rfl,(by first|exact hG.over oM h4|(rw[show ov=0 by omega] at hG;exact hG.fin oM))⟩))
 have zt:=eq_of_beq ze;refine lB 33 ze (ao (cK (kZ (aa hs [.m 35 11,.m 36 4] (lC 37 hs (kl g v0 wM wM _ _ hs.g) ?_)))));rintro _ _ zB hs ⟨s52,zD,rfl,he54,hl55,hm56,hn57⟩;have hxhe54:=gC (a:=g) (b:=v0) wM wM;refine lL hs [.m 34 37,.v 38 (mV s52),.v 39 (mV zD),.m 14 38,.m 15 39] (af (aa hs [.m 40 14,.m 41 12] ?_));cases zf:(decide ((s52:Int)<(r:Int)))
 ·
  have zu:=oF zf;refine lB 42 zf (lL hs [.m 43 42,.m 44 14,.m 45 12] ?_);cases zg:((s52:Int) == (r:Int))
  ·
   have zv:=ah zg;refine lB 46 zg (lL hs [.m 47 46] (lG 48 ?_));refine lG 49 (lG 50 (lL hs [.v 51 qF,.v 52 qF] (aj (cK (aE ?_)))));have hgt:18446744073709551616*r+u0<g*v0:=by omega
   rw[show ov=0 by omega] at hG
   have hg0:=dq hgt;have hgb:=hG.gb;refine lL hs [.m 53 11] (lV 54 (mV (g-1)) ?_ (hr:=rU (((g:Int)-(1:Int))) kR (fj g 1 oM oM)));refine lL hs [.m 11 54] (lN (kQ (lL hs [.m 56 12,.m 57 3] ?_)));obtain ⟨s62,zm,he64,hl65,hm66,hr67⟩:=dh r v1 0 wM wM oM;refine lV 58 (.tuple #[mV s62,mV zm]) ?_ (hr:=de kR (hr67 _));refine lL hs [.m 55 58,.v 59 (mV s62),.v 60 (mV zm),.m 12 59,.m 13 60] (lD ?_);intro a_ ka;refine ⟨_,_,?_,⟨g-1,s62,zm,zB,rfl,rfl,hs.to _ _,((hG.dec hgt oM).2),oM,oM⟩,ka.to _ kR⟩
   omega
  have zv:=eq_of_beq zg;refine lB 46 zg (lL hs [.m 47 46,.m 48 15,.m 49 2] ?_);cases zi:(decide ((zD:Int)≤(u0:Int)))
  ·
   have zw:=oF zi;refine lB 50 zi (lL hs [.v 51 qF,.v 52 qF] (aj (cK (aE ?_))));have hgt:18446744073709551616*r+u0<g*v0:=by omega
   rw[show ov=0 by omega] at hG
   have hg0:=dq hgt;have hgb:=hG.gb;refine lL hs [.m 53 11] (lV 54 (mV (g-1)) ?_ (hr:=rU (((g:Int)-(1:Int))) kR (fj g 1 oM oM)));refine lL hs [.m 11 54] (lN (kQ (lL hs [.m 56 12,.m 57 3] ?_)));obtain ⟨s72,zn,he74,hl75,hm76,hr77⟩:=dh r v1 0 wM wM oM;refine lV 58 (.tuple #[mV s72,mV zn]) ?_ (hr:=de kR (hr77 _));refine lL hs [.m 55 58,.v 59 (mV s72),.v 60 (mV zn),.m 12 59,.m 13 60] (lD ?_);intro a_ ka;refine ⟨_,_,?_,⟨g-1,s72,zn,zB,rfl,rfl,hs.to _ _,((hG.dec hgt oM).2),oM,oM⟩,ka.to _ kR⟩
   omega
  have zw:=oT zi;refine lB 50 zi (lL hs [.v 51 qT,.v 52 qT] (ao (CG.exit ?_)))
  show CG _ _ _ _ _ _ _ _
  exact aa hs [.m 61 11,.m 10 61] (ae hs [] (mV g) (⟨g,rfl,(by first|exact hG.over oM h4|(rw[show ov=0 by omega] at hG;exact hG.fin oM))⟩))
 have zu:=oT zf;refine lB 42 zf (lL hs [.m 43 42] (lG 44 ?_));refine lG 45 (lG 46 (lG 47 (lG 48 (lG 49 (lG 50 (lG 51 (lL hs [.v 52 qT] (ao (CG.exit ?_)))))))))
 show CG _ _ _ _ _ _ _ _
 exact aa hs [.m 61 11,.m 10 61] (ae hs [] (mV g) (⟨g,rfl,(by first|exact hG.over oM h4|(rw[show ov=0 by omega] at hG;exact hG.fin oM))⟩))
theorem C9 (A:Option Addr)(c:Nat)(l:List Nat)(n:Nat)(hn:l.length=n)(hl:l.length≤1099511627776)(hc:l.length≤c)(w:World)(h:Hp)(g:G w h)(hA:SlO 1 ai 0 h A l):CV 148 #[.slice A n c] w h (.slice A (tl l n) c):=by
 subst hn;exact BW A c l hl hc w h g hA
theorem FM (rb:Nat)(l:List Nat)(c d:Nat)(hd:0<d)(hdB:d<18446744073709551616)(hW:Wd l)(hl:l.length≤1000000000)(hc:l.length≤c)(w:World)(h:Hp)(g:G w h)(ho:Own w rb 22 (l.flatMap ai))(hj:h[rb]?=some bc):Calls Tryz.prog 187 #[.slice (sB rb) l.length c,mV d] w (ef rb w h fun v w' _=>∃ z:List Nat,∃ r:Nat,v=.tuple #[.slice (sB rb) (tl z z.length) c,uV r]∧z.length=l.length∧Wd z∧aA l=d*aA z+r∧r<d∧Own w' rb 22 (z.flatMap ai)):=by
 have hmo:UpM [rb] w h w h:=UpM.refl g;obtain ⟨wz,hz,hs⟩:=SS.at_ g ho hj;have hll:l.length=l.length:=rfl;refine go Tryz.func187 [(0,qS (sB rb) l.length c),(1,mV d)] rfl (aa hs [.v 4 (sZ),.v 5 (uV 0)] (aT (lL hs [.v 6 (uV 0)] (af (aa hs [.m 8 0,.v 9 (nV l.length)] (lV 10 (iV ((l.length:Int)-1)) ?_ (hr:=rS (((l.length:Nat)-1)) kR ((fS oM oM).trans oM))))))));refine lL hs [.m 7 10] (bj ?_);refine bx _ (CG.loop (fun μ_ Γ w_=>∃ (m:Nat) (z:List Nat) (r:Nat) (h_:Hp),μ_=m∧Γ=[(0,qS (sB rb) l.length c),(1,mV d),(4,sZ),(5,uV 0),(7,iV ((m:Int)-1)),(6,mV r)]∧SS wz hz w_ h_ [⟨rb,22,(z).flatMap ai⟩] [] []∧m≤l.length∧z.length=l.length∧Wd z∧aA l=d*(18446744073709551616^m*am 18446744073709551616 (z.drop m))+(18446744073709551616^m*r+am 18446744073709551616 (z.take m))∧r<d∧UpM [rb] w h w_ h_) _ ⟨l.length,l,0,h,rfl,rfl,hs.to _ _,nR _,rfl,hW,(by show am _ l=_;simp[am,List.drop_eq_nil_of_le]),hd,hmo⟩ ?_);rintro _ _ w1 ⟨m,z,r,h2,hm3,rfl,hs,hm,hzl,hZ,inv,hrd,hmo⟩;refine cQ (aa hs [.m 11 7] ?_);cases hb4:(decide ((0:Int)≤((m:Int)-1:Int)))
 ·
  have phb4:=oF hb4;refine lB 12 hb4 (aj (CG.exit ?_))
  show CG _ _ _ _ _ _ _ _
  refine aa hs [.m 28 0] (wK 29 0 hs (fun _ g_ f_ sg_=>C9 (sB rb) c (z) (l.length) hzl oM oM _ _ g_ (SlO.of_flat (sz:=1) (f:=ai) (d:=0) (b:=rb) (o:=0) (l:=z) (fun _=>rfl) sg_)) ?_);rintro _ w5 h6 u7 hs rfl;replace hmo:=hmo.trans (u7.m _);refine lL hs [.m 30 6,.m 4 29,.m 5 30] (lN (kX ?_));have hm0:m=0:=by omega
  rw[hm0] at inv
  exact hs.retM hmo [] (.tuple #[qS (sB rb) (tl (z) l.length) c,mV r]) ⟨z,r,by rw[hzl],hzl,hZ,(by simp only[Nat.pow_zero,Nat.one_mul,List.drop_zero,List.take_zero,am] at inv;exact inv),hrd,hs.own 0⟩
 have phb4:=oT hb4;refine lB 12 hb4 (ao (cK (cQ (kZ (kQ (lL hs [.m 16 0,.m 17 7,.m 18 6,.m 19 0,.m 20 7] (lX 21 (sB rb) l.length c 1 ((m:Int)-1) (m-1) rfl ?_)))))));have hzg:=hZ.get (m-1);refine lQ 22 0 z ai 1 0 (m-1) (mV ((z).getD (m-1) 0)) hs oM (lL hs [.m 23 1] (nB 24 (vX r ((z).getD (m-1) 0) d oM wM wM _ _ hs.g) ?_));rintro _ _ zb u15 ⟨q8,r9,rfl,he10,hl11,hm12⟩;replace hmo:=hmo.trans (u15.m _);replace hs:=hs.step u15;refine lL hs [.m 15 24,.v 25 (mV q8),.v 26 (mV r9)] (lX 27 (sB rb) l.length c 1 ((m:Int)-1) (m-1) rfl ?_);refine GM 0 z ai 1 (m-1) q8 hs oM (fun _ pu hs=>?_);replace hmo:=hmo.put pu (List.mem_singleton.2 rfl) hs.g;have za:((z).set (m-1) q8).length=l.length:=by rw[List.length_set];exact hzl
 replace hs:=hs.to [⟨rb,22,((z).set (m-1) q8).flatMap ai⟩] [];refine lL hs [.m 6 26] (lN (kQ (lL hs [.m 13 7] (lV 14 (iV (((m-1:Nat):Int)-1)) ?_ (hr:=rS ((((m:Int)-1)-1)) kR ((fS oM oM).trans oM))))));refine lL hs [.m 7 14] (lD ?_);intro a_ ka;refine ⟨_,_,?_,⟨m-1,(z).set (m-1) q8,r9,zb,rfl,rfl,hs.to _ _,oM,za,(hZ.set _ oM),(Bc oM (by rw[show m-1+1=m by omega];exact inv) oM),oM,hmo⟩,ka.to _ kR⟩
 omega
theorem Ee {u:List Nat}{k:Nat}(hk:2≤k):w3 (u.getD k 0) (u.getD (k-1) 0) (u.getD (k-2) 0)=u.getD k 0*18446744073709551616*18446744073709551616+u.getD (k-1) 0*18446744073709551616+u.getD (k-2) 0:=by
 unfold w3
 rw[Nat.mul_comm (u.getD k 0) 18446744073709551616,Nat.mul_comm (18446744073709551616*u.getD k 0) 18446744073709551616,Nat.mul_comm (u.getD (k-1) 0),Nat.mul_add]
theorem Ej {v1 v0:Nat}:w2 v1 v0=v1*18446744073709551616+v0:=by unfold w2;rw[Nat.mul_comm]
section
variable {n j G:Nat} {u v:List Nat}
theorem C5 (hn:2≤n)(hl:v.length=n)(hdv:Wd v)(hdu:Wd u)(hu:j+n<u.length)(hR:aA u<18446744073709551616^(j+1)*aA v):u.getD (j+n) 0≤v.getD (n-1) 0:=by
 rcases Nat.lt_or_ge (v.getD (n-1) 0) (u.getD (j+n) 0) with h|h
 ·exfalso
  have e1:=aW 18446744073709551616 (l:=v) (k:=n-1) oM;rw[show n-1+1=v.length by omega,List.take_length] at e1
  have h1:=bX (Dg.take hdv (n-1));rw[List.length_take,Nat.min_eq_left oM] at h1
  have e2:=aW 18446744073709551616 (l:=u) (k:=j+n) oM;have e3:=bP 18446744073709551616 (l:=u) (k:=j+n+1) oM;have h2:18446744073709551616^(j+n)*(v.getD (n-1) 0+1)≤18446744073709551616^(j+n)*u.getD (j+n) 0:=Nat.mul_le_mul_left _ h
  have h3:18446744073709551616^(j+1)*aA v<18446744073709551616^(j+1)*(18446744073709551616^(n-1)*(v.getD (n-1) 0+1)):=by
   refine Nat.mul_lt_mul_of_pos_left ?_ (Nat.pow_pos kD)
   show am _ v<_
   rw[e1,Nat.mul_add,Nat.mul_one];omega
  rw[←Nat.mul_assoc,←Nat.pow_add,show j+1+(n-1)=j+n by omega] at h3
  have h4:aA u=am 18446744073709551616 (u.take (j+n))+18446744073709551616^(j+n)*u.getD (j+n) 0+18446744073709551616^(j+n+1)*am 18446744073709551616 (u.drop (j+n+1)):=by
   show am _ u=_
   rw[e3,e2]
  have h5:=Nat.zero_le (18446744073709551616^(j+n+1)*am 18446744073709551616 (u.drop (j+n+1)))
  omega
 ·exact h
theorem uP (hn:2≤n)(hl:v.length=n)(hdv:Wd v)(hdu:Wd u)(hu:j+n<u.length)(htop:v.getD (n-1) 0≠0)(hR:aA u<18446744073709551616^(j+1)*aA v)(hG:xH (u.getD (j+n) 0) (u.getD (j+n-1) 0) (u.getD (j+n-2) 0) (v.getD (n-1) 0) (v.getD (n-2) 0) G) :
  aA u/(18446744073709551616^j*aA v)≤G∧G≤aA u/(18446744073709551616^j*aA v)+1:=by
 obtain ⟨h1,h2,h3⟩:=hG;rw[Ee oM,Ej] at h1 h2
 exact rB kD hn hl hdv hdu hu htop hR h1 h2 h3
theorem tp (hn:2≤n)(hl:v.length=n)(hdv:Wd v)(htop:v.getD (n-1) 0≠0):18446744073709551616^(n-1)≤aA v∧aA v<18446744073709551616^n:=by
 have h2:=bX hdv;rw[hl] at h2
 refine ⟨?_,h2⟩;have e1:=aW 18446744073709551616 (l:=v) (k:=n-1) oM;rw[show n-1+1=v.length by omega,List.take_length] at e1
 have h3:18446744073709551616^(n-1)*1≤18446744073709551616^(n-1)*v.getD (n-1) 0:=Nat.mul_le_mul_left _ oM
 show _≤am _ v
 omega
theorem vE (hn:2≤n)(hl:v.length=n)(hdv:Wd v)(hR:aA u<18446744073709551616^(j+1)*aA v):aA u<18446744073709551616^(j+n+1):=by
 have h2:=bX hdv;rw[hl] at h2
 have h1:18446744073709551616^(j+1)*aA v<18446744073709551616^(j+1)*18446744073709551616^n:=Nat.mul_lt_mul_of_pos_left h2 (Nat.pow_pos kD);rw[←Nat.pow_add,show j+1+n=j+n+1 by omega] at h1
 omega
theorem AO {u1:List Nat}(hn:2≤n)(hl:v.length=n)(hdv:Wd v)(hdu:Wd u)(hd1:Wd u1)(hu:j+n<u.length)(htop:v.getD (n-1) 0≠0)(hR:aA u<18446744073709551616^(j+1)*aA v)
  (hG:aA u/(18446744073709551616^j*aA v)≤G∧G≤aA u/(18446744073709551616^j*aA v)+1)(hab:Above u1 u (j+n+1))(e:aA u1+18446744073709551616^j*(G*aA v)=aA u+18446744073709551616^(j+n+1)*0) :
  aA u1<18446744073709551616^j*aA v∧aA u1+18446744073709551616^j*(G*aA v)=aA u:=by
 obtain ⟨v1,v2⟩:=tp hn hl hdv htop;have hb:=iT (b:=18446744073709551616) kD hab hd1 hdu (by rw[hab.1];omega) (vE hn hl hdv hR);have:=(jl (b:=18446744073709551616) kD hn v1 v2 hR hb e (Nat.zero_le 1) hG).1 rfl;rw[Nat.mul_zero,Nat.add_zero] at e
 exact ⟨this.2.2.1,e⟩
theorem Gj {U1 U2 W K T c:Nat}(e2:U2+T*c=U1+W)(g2:U1+W=K+T)(hU:U2<T)(hK:K<W)(hW:W≤T):U2=K:=by
 have hc:c=1:=by
  rcases Nat.lt_trichotomy c 1 with h|h|h
  ·have:c=0:=by omega
   subst this;omega
  ·exact h
  ·have h2:T*2≤T*c:=Nat.mul_le_mul_left _ h
   omega
 subst hc
 omega
theorem Dn {u1 u2:List Nat}{c:Nat}(hn:2≤n)(hl:v.length=n)(hdv:Wd v)(hdu:Wd u)(hd1:Wd u1)(hd2:Wd u2)(hu:j+n<u.length)(htop:v.getD (n-1) 0≠0)(hR:aA u<18446744073709551616^(j+1)*aA v)
  (hG:aA u/(18446744073709551616^j*aA v)≤G∧G≤aA u/(18446744073709551616^j*aA v)+1)(hab:Above u1 u (j+n+1))(hab2:Above u2 u (j+n+1))(e:aA u1+18446744073709551616^j*(G*aA v)=aA u+18446744073709551616^(j+n+1)*1)
  (e2:aA u2+18446744073709551616^(j+n+1)*c=aA u1+18446744073709551616^j*aA v) :
  aA u2<18446744073709551616^j*aA v∧aA u2+18446744073709551616^j*((G-1)*aA v)=aA u∧0<G:=by
 obtain ⟨v1,v2⟩:=tp hn hl hdv htop;have hRb:=vE hn hl hdv hR;have hb:=iT (b:=18446744073709551616) kD hab hd1 hdu (by rw[hab.1];omega) hRb;have hb2:=iT (b:=18446744073709551616) kD hab2 hd2 hdu (by rw[hab2.1];omega) hRb;obtain ⟨g1,g2,g3,g4⟩:=(jl (b:=18446744073709551616) kD hn v1 v2 hR hb e oM hG).2 rfl
 have hbig:18446744073709551616^j*aA v≤18446744073709551616^(j+n+1):=by
  have h1:18446744073709551616^j*aA v≤18446744073709551616^j*18446744073709551616^n:=Nat.mul_le_mul_left _ (Nat.le_of_lt v2);rw[←Nat.pow_add] at h1
  have h2:(18446744073709551616:Nat)^(j+n)≤18446744073709551616^(j+n+1):=Nat.pow_le_pow_right kD oM;exact Nat.le_trans h1 h2
 have hk:aA u2=aA u-18446744073709551616^j*((G-1)*aA v):=Gj e2 g2 hb2 g3 hbig;exact ⟨by rw[hk];exact g3,by rw[hk];exact Nat.sub_add_cancel g4,by rw[g1];exact Nat.succ_pos _⟩
theorem Cw {u1:List Nat}(hn:2≤n)(hl:v.length=n)(hdv:Wd v)(hdu:Wd u)(hd1:Wd u1)(hu:j+n<u.length)(htop:v.getD (n-1) 0≠0)(hR:aA u<18446744073709551616^(j+1)*aA v)
  (hG:aA u/(18446744073709551616^j*aA v)≤G∧G≤aA u/(18446744073709551616^j*aA v)+1)(hab:Above u1 u (j+n+1))(e:aA u1+18446744073709551616^j*(G*aA v)=aA u+18446744073709551616^(j+n+1)*1):0<G:=by
 obtain ⟨v1,v2⟩:=tp hn hl hdv htop;have hb:=iT (b:=18446744073709551616) kD hab hd1 hdu (by rw[hab.1];omega) (vE hn hl hdv hR);obtain ⟨g1,_⟩:=(jl (b:=18446744073709551616) kD hn v1 v2 hR hb e (Nat.le_refl 1) hG).2 rfl;rw[g1];exact Nat.succ_pos _
theorem xS (hn:n≤u.length)(hl:v.length=n)(hdv:Wd v)(hdu:Wd u)(hR:aA u<aA v):aA (u.take n)=aA u:=by
 have h2:=bX hdv;rw[hl] at h2
 have h3:am 18446744073709551616 u<18446744073709551616^(n+0):=Nat.lt_trans hR h2;have hz:=(gu 18446744073709551616 (l:=u) (k:=n) (m:=0) oM kD hdu h3).2;have e:=bP 18446744073709551616 (l:=u) (k:=n) hn;have h4:am 18446744073709551616 (u.drop n)=0:=gi _ (fun i=>by rw[bC];exact hz _ oM);rw[h4,Nat.mul_zero,Nat.add_zero] at e
 exact e.symm
end
theorem vZ {q:List Nat}{j Q X V R R':Nat}(hj:j<q.length)(h0:q.getD j 0=0)(inv:X=aA q*V+R)(e:R'+18446744073709551616^j*(Q*V)=R):X=aA (q.set j Q)*V+R':=by
 have s1:=di 18446744073709551616 (l:=q) (k:=j) Q hj;rw[h0,Nat.mul_zero,Nat.add_zero] at s1
 have s2:aA (q.set j Q)=aA q+18446744073709551616^j*Q:=s1;rw[s2,Nat.add_mul,inv,←e,Nat.mul_assoc];omega
theorem Du {X V R q a b s:Nat}(hV:V=b*2^s)(hX:X=a*2^s)(inv:X=q*V+R)(hR:R<V):q=a/b∧R/2^s=a%b:=by
 have hp:=Nat.two_pow_pos s;have hV0:0<V:=by omega
 have hb:0<b:=by
  rcases Nat.eq_zero_or_pos b with h|h
  ·rw[h,Nat.zero_mul] at hV;omega
  ·exact h
 have e1:a*2^s=V*q+R:=by rw[←hX,inv,Nat.mul_comm]
 obtain ⟨h1,h2⟩:=lw (A:=a) (y:=b) (Q:=q) hV e1 hR;have h3:a=R/2^s+b*q:=by omega
 constructor
 ·rw[h3,Nat.add_mul_div_left _ _ hb,Nat.div_eq_of_lt h2,Nat.zero_add]
 ·rw[h3,Nat.add_mul_mod_self_left,Nat.mod_eq_of_lt h2]
theorem tR {a s:Nat}(hs:s≤64)(h:a*2^s<18446744073709551616):a*2^s+2^s≤18446744073709551616:=by
 have e:=vK hs;rw[e] at h ⊢
 have h1:a<2^(64-s):=Nat.lt_of_mul_lt_mul_right h;have h2:(a+1)*2^s≤2^(64-s)*2^s:=Nat.mul_le_mul_right _ h1;rw[Nat.add_mul,Nat.one_mul] at h2
 exact h2
theorem tf {x y:List Nat}{s:Nat}(hx:Wd x)(hy:Wd y)(hn:1≤y.length)(htop:y.getD (y.length-1) 0≠0)(hxy:y.length≤x.length):aA x*2^s<18446744073709551616^(x.length-y.length+1)*(aA y*2^s):=by
 have e1:=aW 18446744073709551616 (l:=y) (k:=y.length-1) oM;rw[show y.length-1+1=y.length by omega,List.take_length] at e1
 have h3:18446744073709551616^(y.length-1)*1≤18446744073709551616^(y.length-1)*y.getD (y.length-1) 0:=Nat.mul_le_mul_left _ oM;have h4:18446744073709551616^(y.length-1)≤aA y:=by show _≤am _ y;omega
 have h5:18446744073709551616^(x.length-y.length+1)*18446744073709551616^(y.length-1)≤18446744073709551616^(x.length-y.length+1)*aA y:=Nat.mul_le_mul_left _ h4;rw[←Nat.pow_add,show x.length-y.length+1+(y.length-1)=x.length by omega] at h5
 have h6:aA x<18446744073709551616^x.length:=bX hx;rw[←Nat.mul_assoc];exact Nat.mul_lt_mul_of_pos_right (Nat.lt_of_lt_of_le h6 h5) (Nat.two_pow_pos s)
theorem Dj (A:Option Addr)(c:Nat)(x:List Nat)(m:Nat)(hm:x.length=m)(hx:Wd x)(hlx:x.length≤1000000000)(n:Nat)(hn:n≤1000000000)(w:World)(h:Hp)(g:G w h)(hA:SlO 1 ai 0 h A x):CR 160 #[.slice A m c,nV n] w h (fun v h1=>Bq h1 v (x.length-n/64) (fun z=>aA z=aA x/2^n)):=by
 subst hm;exact Fe A c x hx hlx n hn w h g hA
theorem CA {y z:List Nat}{s:Nat}(hs64:s≤64)(hy:Wd y)(hz:Wd z)(hV:aA z=aA y*2^s)(hn:1≤y.length)(hs:y.getD (y.length-1) 0*2^s<18446744073709551616)(hlen:y.length≤z.length):aA (z.take y.length)=aA y*2^s:=by
 have hlt:aA z<18446744073709551616^(y.length+0):=by
  rw[hV,Nat.add_zero];have e1:=aW 18446744073709551616 (l:=y) (k:=y.length-1) oM;rw[show y.length-1+1=y.length by omega,List.take_length] at e1
  have h1:=bX (Dg.take hy (y.length-1));rw[List.length_take,Nat.min_eq_left oM] at h1
  have h2:aA y<18446744073709551616^(y.length-1)*(y.getD (y.length-1) 0+1):=by
   show am _ y<_
   rw[e1,Nat.mul_add,Nat.mul_one];omega
  have h3:aA y*2^s<18446744073709551616^(y.length-1)*(y.getD (y.length-1) 0+1)*2^s:=Nat.mul_lt_mul_of_pos_right h2 (Nat.two_pow_pos s)
  have h4:18446744073709551616^(y.length-1)*(y.getD (y.length-1) 0+1)*2^s≤18446744073709551616^y.length:=by
   have e5:(18446744073709551616:Nat)^y.length=18446744073709551616^(y.length-1)*18446744073709551616:=by rw[←Nat.pow_succ];congr 1;omega
   rw[e5,Nat.mul_assoc];refine Nat.mul_le_mul_left _ ?_;rw[Nat.add_mul,Nat.one_mul];exact tR hs64 hs
  exact Nat.lt_of_lt_of_le h3 h4
 have hzz:=(gu 18446744073709551616 (l:=z) (k:=y.length) (m:=0) oM kD hz hlt).2;have e:=bP 18446744073709551616 (l:=z) (k:=y.length) oM;have h4:am 18446744073709551616 (z.drop y.length)=0:=gi _ (fun i=>by rw[bC];exact hzz _ oM);rw[h4,Nat.mul_zero,Nat.add_zero] at e
 rw[←hV];exact e.symm
theorem xb {y v:List Nat}{s:Nat}(hy:Wd y)(hv:Wd v)(hl:v.length=y.length)(hV:aA v=aA y*2^s)(hn:1≤y.length)(hs:9223372036854775808≤y.getD (y.length-1) 0*2^s):v.getD (v.length-1) 0≠0:=by
 intro h0;have e1:=aW 18446744073709551616 (l:=v) (k:=v.length-1) oM;rw[show v.length-1+1=v.length by omega,List.take_length,h0,Nat.mul_zero,Nat.add_zero] at e1
 have h1:=bX (Dg.take hv (v.length-1));rw[List.length_take,Nat.min_eq_left oM] at h1
 have e2:=aW 18446744073709551616 (l:=y) (k:=y.length-1) oM;rw[show y.length-1+1=y.length by omega,List.take_length] at e2
 have h2:18446744073709551616^(y.length-1)*y.getD (y.length-1) 0≤aA y:=by show _≤am _ y;omega
 have h3:18446744073709551616^(y.length-1)*y.getD (y.length-1) 0*2^s≤aA y*2^s:=Nat.mul_le_mul_right _ h2;rw[Nat.mul_assoc] at h3
 have h4:18446744073709551616^(y.length-1)*1≤18446744073709551616^(y.length-1)*(y.getD (y.length-1) 0*2^s):=Nat.mul_le_mul_left _ oM
 have h5:aA v<18446744073709551616^(y.length-1):=by
  show am _ v<_
  rw[e1,←hl];exact h1
 omega
theorem CC (A:Option Addr)(c:Nat)(x:List Nat)(D:Option Addr)(d:Nat)(y:List Nat)(hx:Wd x)(hy:Wd y)(hlx:x.length≤1000000000)(hny:2≤y.length)(hxy:y.length≤x.length)(htop:y.getD (y.length-1) 0≠0)(w:World)(h:Hp)(g:G w h)(hA:SlO 1 ai 0 h A x)(hD:SlO 1 ai 0 h D y):CR 188 #[.slice A x.length c,.slice D y.length d] w h (fun v h1=>∃ Aq cq,∃ q:List Nat,∃ Ar cr,∃ r:List Nat,v=.tuple #[.slice Aq q.length cq,.slice Ar r.length cr]∧q.length≤cq∧r.length≤cr∧Wd q∧Wd r∧aA q=aA x/aA y∧aA r=aA x%aA y∧q.length≤x.length∧r.length≤y.length∧SlO 1 ai 0 h1 Aq q∧SlO 1 ai 0 h1 Ar r):=by
 have hs:=(((sS g).aS hA).aS hD);refine go Tryz.func188 [(0,qS A x.length c),(1,qS D y.length d)] rfl (aa hs [.v 4 (sZ),.v 5 (sZ)] (aT (lL hs [.m 21 1,.v 22 (nV y.length),.m 6 22] (aT (lL hs [.m 23 1,.m 24 6] (bB 25 ((y.length:Nat)-1) (y.length-1) ?_))))));refine lX 26 D y.length d 1 (y.length-1:Nat) (y.length-1) ((hs.f.1).ok oM) (lH 27 (mV (y.getD (y.length-1) 0)) hs ((hs.f.1).el (y.length-1) oM) ?_);have hyt:=hy.get (y.length-1);refine ag 28 hs (BA (y.getD (y.length-1) 0) wM _ _ hs.g) (fun w1 h2 hs=>lL hs [.m 7 28] (aT (lL hs [.m 29 1,.m 30 7] (lC 31 hs (ua D d y hy oM (64-nb (y.getD (y.length-1) 0)) oM _ _ hs.g hs.f.1) ?_))));rintro _ w3 h4 hs ⟨V,vc,zv,rfl,hvc,hvlz,hWv,hVv,hFv⟩;replace hs:=hs.aS hFv;refine lL hs [.m 32 6] (lT 33 V zv.length vc 1 (y.length:Nat) y.length ?_);obtain ⟨vl,hvl_⟩:∃ vl,vl=zv.take y.length:=⟨_,rfl⟩;have hvlen:vl.length=y.length:=by rw[hvl_,List.length_take];omega
 have hWvl:Wd vl:=by rw[hvl_];exact Dg.take hWv _
 have hnbp:=(cB (n:=y.getD (y.length-1) 0) oM).2.2;have hnrm:=qx (y:=y.getD (y.length-1) 0) oM (hy.get _);have hVvl:aA vl=aA y*2^(64-nb (y.getD (y.length-1) 0)):=by rw[hvl_];exact CA oM hy hWv hVv oM hnrm.2 oM
 have htopv:vl.getD (vl.length-1) 0≠0:=xb hy hWvl hvlen hVvl oM hnrm.1;replace hs:=hs.aS ((hs.f.1).take y.length);rw[←hvl_] at hs
 refine lL hs [.m 8 33] (aT (lL hs [.m 34 0,.v 35 (nV x.length)] (bB 36 ((x.length:Nat)+1) (x.length+1) ?_)));refine lK 37 22 (x.length+1) 1 8 (uV 0) ai 0 hs (fun b5 w6 h7 hs=>?_);have hl8:(List.replicate (x.length+1) 0).length=(x.length+1):=by simp
 refine lL hs [.m 9 37] (aT (lL hs [.m 38 9,.m 39 0,.m 40 7] (lC 41 hs (ua A c x hx hlx (64-nb (y.getD (y.length-1) 0)) oM _ _ hs.g hs.f.r.2.1) ?_)));rintro _ w9 _ hs ⟨Uo,uc,zu,rfl,huc,hulz,hWzu,hVu,hFu⟩;replace hs:=hs.aS hFu;have hlu_:zu.length=x.length+1:=by omega
 refine H7 42 0 (.tmp 38) (.tmp 41) 175 22 ai 0 Uo zu (x.length+1) zu.length uc (x.length+1) hs hs.f.1 rfl oM oM (by show ((List.replicate (x.length+1) 0).flatMap ai).length=_;rw[cj (sz:=1) (fun _=>rfl)];simp) (fun _ hs=>?_);replace hs:=hs.to [⟨b5,22,(zu).flatMap ai⟩] [];refine aT (lL hs [.m 43 0,.v 44 (nV x.length),.m 45 6] (bB 46 ((x.length:Nat)-(y.length:Nat)) (x.length-y.length) ?_));refine bB 47 ((x.length-y.length:Nat)+1) ((x.length-y.length)+1) (lK 48 22 ((x.length-y.length)+1) 1 8 (uV 0) ai 0 hs (fun za _ zD hs=>?_));have zt:(List.replicate ((x.length-y.length)+1) 0).length=((x.length-y.length)+1):=by simp
 refine lL hs [.m 4 48] (af (aa hs [.m 49 0,.v 50 (nV x.length),.m 51 6] (lV 52 (iV (((x.length-y.length+1:Nat):Int)-1)) ?_ (hr:=rS (((x.length:Nat)-(y.length:Nat))) kR ((fS oM oM).trans oM)))));refine lL hs [.m 10 52] (lN (bx [(4,qS (sB za) ((x.length-y.length)+1) ((x.length-y.length)+1)),(5,sZ),(6,nV y.length),(7,nV (64-nb (y.getD (y.length-1) 0))),(8,qS V y.length vc),(9,qS (sB b5) (x.length+1) (x.length+1)),(10,iV (((x.length-y.length+1:Nat):Int)-1))] ?_));refine kZ ?_;refine bx _ (CG.loop (fun μ_ Γ w_=>∃ (m:Nat) (ul:List Nat) (ql:List Nat) (h_:Hp),μ_=m∧Γ=[(4,qS (sB za) ((x.length-y.length)+1) ((x.length-y.length)+1)),(5,sZ),(6,nV y.length),(7,nV (64-nb (y.getD (y.length-1) 0))),(8,qS V y.length vc),(9,qS (sB b5) (x.length+1) (x.length+1)),(10,iV ((m:Int)-1))]∧SS w h w_ h_ [⟨za,22,(ql).flatMap ai⟩,⟨b5,22,(ul).flatMap ai⟩] [] [fun h_=>SlO 1 ai 0 h_ Uo zu,fun h_=>SlO 1 ai 0 h_ V vl,fun h_=>SlO 1 ai 0 h_ V zv,fun h_=>SlO 1 ai 0 h_ D y,fun h_=>SlO 1 ai 0 h_ A x]∧m≤x.length-y.length+1∧ul.length=x.length+1∧Wd ul∧ql.length=x.length-y.length+1∧Wd ql∧aA ul<18446744073709551616^m*aA vl∧aA zu=aA ql*aA vl+aA ul∧(∀ k,k<m→ql.getD k 0=0)) _ ⟨x.length-y.length+1,zu,List.replicate ((x.length-y.length)+1) 0,zD,rfl,rfl,hs.to _ _,nR _,hlu_,hWzu,zt,Wd.rep _,(by rw[hVu,hVvl];exact tf hx hy oM htop oM),(by show _=am _ _*_+_;rw[fs,Nat.zero_mul,Nat.zero_add]),fun k _=>fX⟩ ?_);rintro _ _ _ ⟨m,ul,ql,_,hm18,rfl,hs,hm,hul,hWu,hql,hWq,hR,inv,hq0⟩;refine cQ (aa hs [.m 53 10] ?_);cases zd:(decide ((0:Int)≤((m:Int)-1:Int)))
 ·
  have zl:=oF zd;refine lB 54 zd (aj (CG.exit ?_))
  show CG _ _ _ _ _ _ _ _
  refine aE ?_;have hm0:m=0:=by omega
  obtain ⟨_,hs,sg21,lo22,bc23⟩:=hs.pub 0;replace hs:=(hs.to [⟨b5,22,(ul).flatMap ai⟩] []).aS (SlO.of_flat (sz:=1) (f:=ai) (d:=0) (b:=za) (o:=0) (l:=ql) (fun _=>rfl) sg21);obtain ⟨_,hs,sg26,lo27,bc28⟩:=hs.pub 0;replace hs:=(hs.to [] []).aS (SlO.of_flat (sz:=1) (f:=ai) (d:=0) (b:=b5) (o:=0) (l:=ul) (fun _=>rfl) sg26);refine lL hs [.m 187 4,.m 188 9,.m 189 6] (lT 190 (sB b5) (x.length+1) (x.length+1) 1 (y.length:Nat) y.length ?_);refine lL hs [.m 191 7] (lC 192 hs (Dj (sB b5) (x.length+1) (ul.take y.length) y.length (by rw[List.length_take];omega) (Dg.take hWu _) (by rw[List.length_take];omega) (64-nb (y.getD (y.length-1) 0)) oM _ _ hs.g ((hs.f.1).take y.length)) ?_);rintro _ _ _ hs ⟨Ar,cr,zr,rfl,hcr,hlr,hWr,hVr,hFr⟩;replace hs:=hs.aS hFr;refine lL hs [.m 4 187,.m 5 192] (lN (kX ?_));rw[hm0,Nat.pow_zero,Nat.one_mul] at hR
  obtain ⟨hQ,hRm⟩:=Du hVvl hVu inv hR;rw[xS (v:=vl) oM oM hWvl hWu hR] at hVr
  exact hs.ret [] (.tuple #[qS (sB za) ((x.length-y.length)+1) ((x.length-y.length)+1),qS Ar zr.length cr]) (⟨_,_,ql,Ar,cr,zr,by rw[hql],by omega,hcr,hWq,hWr,hQ,hVr.trans hRm,by omega,(by have:=List.length_take_le y.length ul;omega),hs.f.r.1,hs.f.1⟩)
 have zl:=oT zd;refine lB 54 zd (ao (cK (cQ (kZ (cQ (cR 31 [] mixed hs aq ?_))))));have hm1:0<m:=by omega
 have hn2:2≤vl.length:=by omega
 have hjn:m-1+vl.length<ul.length:=by omega
 have hR1:aA ul<18446744073709551616^(m-1+1)*aA vl:=by rw[show m-1+1=m by omega];exact hR
 have hle:=C5 (n:=vl.length) (j:=m-1) hn2 rfl hWvl hWu hjn hR1;refine eV 0 57 (qS (sB b5) (x.length+1) (x.length+1)) (eV 1 58 (iV ((m:Int)-1)) (eV 2 59 (nV y.length) (li 3 60 (((m:Int)-1)+(y.length:Nat)) (m-1+vl.length) (eX 4 61 (sB b5) (x.length+1) (x.length+1) 1 (m-1+vl.length:Nat) (m-1+vl.length) rfl (eQ 5 62 1 ul ai 1 0 (m-1+vl.length) (mV ((ul).getD (m-1+vl.length) 0)) hs oM (eV 6 63 (qS (sB b5) (x.length+1) (x.length+1)) (eV 7 64 (iV ((m:Int)-1)) (eV 8 65 (nV y.length) (li 9 66 (((m:Int)-1)+(y.length:Nat)) (m-1+vl.length) (li 10 67 ((m-1+vl.length:Nat)-1) (m-1+vl.length-1) (eX 11 68 (sB b5) (x.length+1) (x.length+1) 1 (m-1+vl.length-1:Nat) (m-1+vl.length-1) rfl (eQ 12 69 1 ul ai 1 0 (m-1+vl.length-1) (mV ((ul).getD (m-1+vl.length-1) 0)) hs oM (eV 13 70 (qS (sB b5) (x.length+1) (x.length+1)) (eV 14 71 (iV ((m:Int)-1)) (eV 15 72 (nV y.length) (li 16 73 (((m:Int)-1)+(y.length:Nat)) (m-1+vl.length) (li 17 74 ((m-1+vl.length:Nat)-2) (m-1+vl.length-2) (eX 18 75 (sB b5) (x.length+1) (x.length+1) 1 (m-1+vl.length-2:Nat) (m-1+vl.length-2) rfl (eQ 19 76 1 ul ai 1 0 (m-1+vl.length-2) (mV ((ul).getD (m-1+vl.length-2) 0)) hs oM (eV 20 77 (qS V y.length vc) (eV 21 78 (nV y.length) (li 22 79 ((y.length:Nat)-1) (vl.length-1) (eX 23 80 V y.length vc 1 (vl.length-1:Nat) (vl.length-1) ((hs.f.2.1).ok oM) (eH 24 81 (mV (vl.getD (vl.length-1) 0)) hs ((hs.f.2.1).el (vl.length-1) oM) (eV 25 82 (qS V y.length vc) (eV 26 83 (nV y.length) (li 27 84 ((y.length:Nat)-2) (vl.length-2) (eX 28 85 V y.length vc 1 (vl.length-2:Nat) (vl.length-2) ((hs.f.2.1).ok oM) (eH 29 86 (mV (vl.getD (vl.length-2) 0)) hs ((hs.f.2.1).el (vl.length-2) oM) (eC 30 87 hs (fun _ _ hs=>Ct (((ul).getD (m-1+vl.length) 0)) (((ul).getD (m-1+vl.length-1) 0)) (((ul).getD (m-1+vl.length-2) 0)) ((vl.getD (vl.length-1) 0)) ((vl.getD (vl.length-2) 0)) (hWu.get _) (hWu.get _) (hWu.get _) (hWvl.get _) (hWvl.get _) hle oM _ _ hs.g) ?_))))))))))))))))))))))))))))));rintro _ _ _ _ _ hs ⟨g,rfl,hG0⟩;have hG:=uP (n:=vl.length) (j:=m-1) hn2 rfl hWvl hWu hjn htopv hR1 hG0;have hgb:=hG0.2.2;refine bM hs (fun _ zE hs=>tV 31 11 (mV g) (tN (bx [(4,qS (sB za) ((x.length-y.length)+1) ((x.length-y.length)+1)),(5,sZ),(6,nV y.length),(7,nV (64-nb (y.getD (y.length-1) 0))),(8,qS V y.length vc),(9,qS (sB b5) (x.length+1) (x.length+1)),(10,iV ((m:Int)-1)),(11,mV g)] ?_)));refine aa hs [.v 12 (uV 0),.v 13 (uV 0)] (af (aa hs [.m 88 6,.v 89 (iV 0)] (bj ?_)));refine bx _ (CG.loop (fun μ_ Γ w_=>∃ (i:Nat) (u1:List Nat) (cy:Nat) (bo:Nat) (h_:Hp),μ_=y.length-i∧Γ=[(4,qS (sB za) ((x.length-y.length)+1) ((x.length-y.length)+1)),(5,sZ),(6,nV y.length),(7,nV (64-nb (y.getD (y.length-1) 0))),(8,qS V y.length vc),(9,qS (sB b5) (x.length+1) (x.length+1)),(10,iV ((m:Int)-1)),(11,mV g),(88,nV y.length),(89,nV i),(12,mV cy),(13,mV bo)]∧SS w h w_ h_ [⟨za,22,(ql).flatMap ai⟩,⟨b5,22,(u1).flatMap ai⟩] [] [fun h_=>SlO 1 ai 0 h_ Uo zu,fun h_=>SlO 1 ai 0 h_ V vl,fun h_=>SlO 1 ai 0 h_ V zv,fun h_=>SlO 1 ai 0 h_ D y,fun h_=>SlO 1 ai 0 h_ A x]∧i≤y.length∧u1.length=x.length+1∧Wd u1∧cy<18446744073709551616∧bo≤1∧am 18446744073709551616 u1+18446744073709551616^(m-1)*(g*am 18446744073709551616 (vl.take i))=aA ul+18446744073709551616^(m-1+i)*(cy+bo)∧Above u1 ul (m-1+vl.length+1)) _ ⟨0,ul,0,0,zE,rfl,rfl,hs.to _ _,Nat.zero_le _,hul,hWu,oM,oM,(by show am _ ul+_=am _ ul+_;simp[am]),Above.refl _ _⟩ ?_);rintro _ _ _ ⟨i,u1,cy,bo,zq,hm38,rfl,hs,hi,hu1,hW1,hcy,hbo,inv1,hab1⟩;have hu1k:=hW1.get (m-1+i);have hvk:=hWvl.get i;refine aE ?_;cases ze:(decide ((i:Int)<(y.length:Int)))
 ·
  have zm:=oF ze;refine lB 90 ze (af (cM (CG.exit ?_)))
  show CG _ _ _ _ _ _ _ _
  refine aE ?_;rw[show i=vl.length by omega] at inv1
  have hu1n:=hW1.get (m-1+vl.length);refine lL hs [.m 129 9,.m 130 10,.m 131 6] (bB 132 (((m:Int)-1)+(y.length:Nat)) (m-1+vl.length) ?_);refine lL hs [.m 133 9,.m 134 10,.m 135 6] (bB 136 (((m:Int)-1)+(y.length:Nat)) (m-1+vl.length) ?_);refine lX 137 (sB b5) (x.length+1) (x.length+1) 1 (m-1+vl.length:Nat) (m-1+vl.length) rfl (lQ 138 1 u1 ai 1 0 (m-1+vl.length) (mV ((u1).getD (m-1+vl.length) 0)) hs oM (lL hs [.m 139 12,.m 140 13] ?_));obtain ⟨s40,zc,he42,hl43,hm44,hr45⟩:=iD ((u1).getD (m-1+vl.length) 0) cy bo wM wM oM;refine lV 141 (.tuple #[mV s40,mV zc]) ?_ (hr:=de kR (hr45 _));refine lL hs [.m 128 141,.v 142 (mV s40),.v 143 (mV zc)] (lX 144 (sB b5) (x.length+1) (x.length+1) 1 (m-1+vl.length:Nat) (m-1+vl.length) rfl ?_);refine lW 1 u1 ai 1 (m-1+vl.length) s40 hs oM (fun _ hs=>?_);have zk:((u1).set (m-1+vl.length) s40).length=(x.length+1):=by rw[List.length_set];exact hu1
  replace hs:=hs.to [⟨za,22,(ql).flatMap ai⟩,⟨b5,22,((u1).set (m-1+vl.length) s40).flatMap ai⟩] [];refine lL hs [.m 13 143] (af (aE ?_));have hE:=Dc oM inv1 (s:=s40) (bo':=zc) oM;have hW4:Wd ((u1).set (m-1+vl.length) s40):=hW1.set _ oM;have hab4:=hab1.set (x:=s40) (show m-1+vl.length<m-1+vl.length+1 by omega) oM;refine lL hs [.m 145 13] ?_;cases zf:((zc:Int) != (0:Int))
  ·
   have zn:=aI zf;refine lB 146 zf (aj (cK (kQ ?_)));have hD_:=AO hn2 rfl hWvl hWu hW4 hjn htopv hR1 hG hab4 (by rw[show zc=0 by omega] at hE;exact hE);have hDw:=hW4;have hDg:=hgb;have hDu:=hD_.1;have hDe:=hD_.2;refine lL hs [.m 183 4,.m 184 10,.m 185 11] (lX 186 (sB za) ((x.length-y.length)+1) ((x.length-y.length)+1) 1 ((m:Int)-1) (m-1) rfl ?_);refine lW 0 ql ai 1 (m-1) g hs oM (fun _ hs=>?_);have zw:((ql).set (m-1) g).length=((x.length-y.length)+1):=by rw[List.length_set];exact hql
   replace hs:=hs.to [⟨za,22,((ql).set (m-1) g).flatMap ai⟩,⟨b5,22,((u1).set (m-1+vl.length) s40).flatMap ai⟩] [];refine lN (kQ (lL hs [.m 55 10] (lV 56 (iV (((m-1:Nat):Int)-1)) ?_ (hr:=rS ((((m:Int)-1)-1)) kR ((fS oM oM).trans oM)))));refine lL hs [.m 10 56] (lD ?_);intro a_ ka;refine ⟨_,_,?_,⟨m-1,(u1).set (m-1+vl.length) s40,(ql).set (m-1) g,zq,rfl,rfl,hs.to _ _,oM,zk,hDw,zw,(hWq.set _ hDg),hDu,(vZ oM (hq0 _ oM) inv hDe),(fun k hk=>by rw[bD oM,if_neg oM];exact hq0 k oM)⟩,ka.to _ kR⟩
   omega
  have zn:=aJ zf;refine lB 146 zf (ao (aa hs [.m 147 11] ?_));have hE1:=hE;rw[show zc=1 by omega] at hE1
  have hgp:=Cw hn2 rfl hWvl hWu hW4 hjn htopv hR1 hG hab4 hE1;refine lV 148 (mV (g-1)) ?_ (hr:=rU (((g:Int)-(1:Int))) kR (fj g 1 oM oM));refine lL hs [.m 11 148] (aT (lL hs [.v 19 (uV 0)] (af (aa hs [.m 149 6,.v 150 (iV 0)] (bj ?_)))));refine bx _ (CG.loop (fun μ_ Γ w_=>∃ (i2:Nat) (u2:List Nat) (c2:Nat) (h_:Hp),μ_=y.length-i2∧Γ=[(4,qS (sB za) ((x.length-y.length)+1) ((x.length-y.length)+1)),(5,sZ),(6,nV y.length),(7,nV (64-nb (y.getD (y.length-1) 0))),(8,qS V y.length vc),(9,qS (sB b5) (x.length+1) (x.length+1)),(10,iV ((m:Int)-1)),(11,mV (g-1)),(149,nV y.length),(150,nV i2),(19,mV c2)]∧SS w h w_ h_ [⟨za,22,(ql).flatMap ai⟩,⟨b5,22,(u2).flatMap ai⟩] [] [fun h_=>SlO 1 ai 0 h_ Uo zu,fun h_=>SlO 1 ai 0 h_ V vl,fun h_=>SlO 1 ai 0 h_ V zv,fun h_=>SlO 1 ai 0 h_ D y,fun h_=>SlO 1 ai 0 h_ A x]∧i2≤y.length∧u2.length=x.length+1∧Wd u2∧c2≤1∧am 18446744073709551616 u2+18446744073709551616^(m-1+i2)*c2=am 18446744073709551616 ((u1).set (m-1+vl.length) s40)+18446744073709551616^(m-1)*am 18446744073709551616 (vl.take i2)∧Above u2 ul (m-1+vl.length+1)) _ ⟨0,(u1).set (m-1+vl.length) s40,0,zq,rfl,rfl,hs.to _ _,Nat.zero_le _,zk,hW4,oM,(by simp[am]),hab4⟩ ?_);rintro _ _ _ ⟨i2,u2,c2,zF,hm61,rfl,hs,hi2,hu2,hW2,hc2,inv3,hab2⟩;have hu2k:=hW2.get (m-1+i2);have hvk2:=hWvl.get i2;refine aE ?_;cases zg:(decide ((i2:Int)<(y.length:Int)))
  ·
   have zo:=oF zg;refine lB 151 zg (af (cM (CG.exit ?_)))
   show CG _ _ _ _ _ _ _ _
   refine kQ (lL hs [.m 174 9,.m 175 10,.m 176 6] (bB 177 (((m:Int)-1)+(y.length:Nat)) (m-1+vl.length) ?_));refine lX 178 (sB b5) (x.length+1) (x.length+1) 1 (m-1+vl.length:Nat) (m-1+vl.length) rfl (lQ 179 1 u2 ai 1 0 (m-1+vl.length) (mV ((u2).getD (m-1+vl.length) 0)) hs oM (lL hs [.m 180 19] (lV 181 (mV ((((u2).getD (m-1+vl.length) 0)+c2)%18446744073709551616)) ?_ (hr:=rU (((((u2).getD (m-1+vl.length) 0:Nat):Int)+(c2:Int))) kR (uO ((u2).getD (m-1+vl.length) 0) c2)))));refine lX 182 (sB b5) (x.length+1) (x.length+1) 1 (m-1+vl.length:Nat) (m-1+vl.length) rfl (lW 1 u2 ai 1 (m-1+vl.length) ((((u2).getD (m-1+vl.length) 0)+c2)%18446744073709551616:Nat) hs oM (fun _ hs=>?_));have zx:((u2).set (m-1+vl.length) ((((u2).getD (m-1+vl.length) 0)+c2)%18446744073709551616:Nat)).length=(x.length+1):=by rw[List.length_set];exact hu2
   replace hs:=hs.to [⟨za,22,(ql).flatMap ai⟩,⟨b5,22,((u2).set (m-1+vl.length) ((((u2).getD (m-1+vl.length) 0)+c2)%18446744073709551616:Nat)).flatMap ai⟩] [];refine lN (kQ ?_);have hi2n:i2=vl.length:=by omega
   rw[hi2n] at inv3
   have hu2k:=hW2.get (m-1+vl.length);have hE3:=Er (s:=(u2.getD (m-1+vl.length) 0+c2)%18446744073709551616) (c':=(u2.getD (m-1+vl.length) 0+c2)/18446744073709551616) oM inv3 (Nat.mod_add_div _ _);have hDw:Wd ((u2).set (m-1+vl.length) ((((u2).getD (m-1+vl.length) 0)+c2)%18446744073709551616:Nat)):=hW2.set _ (Nat.mod_lt _ kD);obtain ⟨hDu,hDe,hDp⟩:=Dn hn2 rfl hWvl hWu hW4 hDw hjn htopv hR1 hG hab4 (hab2.set oM oM) hE1 hE3;have hDg:g-1<18446744073709551616:=by omega
   refine lL hs [.m 183 4,.m 184 10,.m 185 11] (lX 186 (sB za) ((x.length-y.length)+1) ((x.length-y.length)+1) 1 ((m:Int)-1) (m-1) rfl ?_);refine lW 0 ql ai 1 (m-1) (g-1) hs oM (fun _ hs=>?_);have zA:((ql).set (m-1) (g-1)).length=((x.length-y.length)+1):=by rw[List.length_set];exact hql
   replace hs:=hs.to [⟨za,22,((ql).set (m-1) (g-1)).flatMap ai⟩,⟨b5,22,((u2).set (m-1+vl.length) ((((u2).getD (m-1+vl.length) 0)+c2)%18446744073709551616:Nat)).flatMap ai⟩] [];refine lN (kQ (lL hs [.m 55 10] (lV 56 (iV (((m-1:Nat):Int)-1)) ?_ (hr:=rS ((((m:Int)-1)-1)) kR ((fS oM oM).trans oM)))));refine lL hs [.m 10 56] (lD ?_);intro a_ ka;refine ⟨_,_,?_,⟨m-1,(u2).set (m-1+vl.length) ((((u2).getD (m-1+vl.length) 0)+c2)%18446744073709551616:Nat),(ql).set (m-1) (g-1),zF,rfl,rfl,hs.to _ _,oM,zx,hDw,zA,(hWq.set _ hDg),hDu,(vZ oM (hq0 _ oM) inv hDe),(fun k hk=>by rw[bD oM,if_neg oM];exact hq0 k oM)⟩,ka.to _ kR⟩
   omega
  have zo:=oT zg;refine lB 151 zg (af (bS (cK (cQ (kZ (aa hs [.m 152 150,.m 20 152] (lN (cR 19 [] mixed hs aq ?_))))))));refine eV 0 154 (qS (sB b5) (x.length+1) (x.length+1)) (eV 1 155 (iV ((m:Int)-1)) (eV 2 156 (nV i2) (li 3 157 (((m:Int)-1)+(i2:Nat)) (m-1+i2) (eV 4 158 (qS (sB b5) (x.length+1) (x.length+1)) (eV 5 159 (iV ((m:Int)-1)) (eV 6 160 (nV i2) (li 7 161 (((m:Int)-1)+(i2:Nat)) (m-1+i2) (eX 8 162 (sB b5) (x.length+1) (x.length+1) 1 (m-1+i2:Nat) (m-1+i2) rfl (eQ 9 163 1 u2 ai 1 0 (m-1+i2) (mV ((u2).getD (m-1+i2) 0)) hs oM (eV 10 164 (qS V y.length vc) (eV 11 165 (nV i2) (eX 12 166 V y.length vc 1 (i2:Nat) i2 ((hs.f.2.1).ok oM) (eH 13 167 (mV (vl.getD i2 0)) hs ((hs.f.2.1).el i2 oM) (eV 14 168 (mV c2) ?_))))))))))))));obtain ⟨s75,zj,he77,hl78,hm79,hr80⟩:=dh ((u2).getD (m-1+i2) 0) (vl.getD i2 0) c2 wM wM oM;refine eV 15 169 (.tuple #[mV s75,mV zj]) ?_ (hv:=fun _=>de kR (hr80 _));refine eV 16 153 (.tuple #[mV s75,mV zj]) (eV 17 170 (mV s75) (eV 18 171 (mV zj) (bM hs (fun _ zG hs=>tX 19 172 (sB b5) (x.length+1) (x.length+1) 1 (m-1+i2:Nat) (m-1+i2) rfl (tW 20 1 u2 ai 1 (m-1+i2) s75 hs oM (fun _ hs=>?_))))));have zB:((u2).set (m-1+i2) s75).length=(x.length+1):=by rw[List.length_set];exact hu2
  replace hs:=hs.to [⟨za,22,(ql).flatMap ai⟩,⟨b5,22,((u2).set (m-1+i2) s75).flatMap ai⟩] [];refine tV 21 19 (mV zj) (tN (kQ (bB 173 ((i2:Nat)+1) (i2+1) ?_)));refine lL hs [.m 150 173] (lD ?_);intro a_ ka;refine ⟨_,_,?_,⟨i2+1,(u2).set (m-1+i2) s75,zj,zG,rfl,rfl,hs.to _ _,oM,zB,(hW2.set _ oM),oM,(xg oM inv3 oM),(hab2.set oM oM)⟩,ka.to _ kR⟩
  omega
 have zm:=oT ze;refine lB 90 ze (af (bS (cK (cQ (kZ (aa hs [.m 91 89,.m 14 91] (aT (lL hs [.m 93 11,.m 94 8,.m 95 14] (lX 96 V y.length vc 1 (i:Nat) i ((hs.f.2.1).ok oM) ?_)))))))));refine lH 97 (mV (vl.getD i 0)) hs ((hs.f.2.1).el i oM) (lC 98 hs (kl g (vl.getD i 0) wM wM _ _ hs.g) ?_);rintro _ _ zH hs ⟨s91,zs,rfl,he93,hl94,hm95,hn96⟩;have hxhe93:=gC (a:=g) (b:=(vl.getD i 0)) wM wM;refine lL hs [.m 92 98,.v 99 (mV s91),.v 100 (mV zs),.m 15 99,.m 16 100] (aT (lL hs [.m 102 16,.m 103 12] ?_));obtain ⟨s99,zb,he101,hl102,hm103,hr104⟩:=dh zs cy 0 wM wM oM;refine lV 104 (.tuple #[mV s99,mV zb]) ?_ (hr:=de kR (hr104 _));refine lL hs [.m 101 104,.v 105 (mV s99),.v 106 (mV zb),.m 17 105,.m 18 106] (aT (lL hs [.m 107 15,.m 108 18] (lV 109 (mV (s91+zb)) ?_ (hr:=rU (((s91:Int)+(zb:Int))) kR (gq s91 zb oM)))));refine lL hs [.m 12 109] (lN (kQ (lL hs [.m 111 9,.m 112 10,.m 113 14] (bB 114 (((m:Int)-1)+(i:Nat)) (m-1+i) ?_))));refine lL hs [.m 115 9,.m 116 10,.m 117 14] (bB 118 (((m:Int)-1)+(i:Nat)) (m-1+i) ?_);refine lX 119 (sB b5) (x.length+1) (x.length+1) 1 (m-1+i:Nat) (m-1+i) rfl (lQ 120 1 u1 ai 1 0 (m-1+i) (mV ((u1).getD (m-1+i) 0)) hs oM (lL hs [.m 121 17,.m 122 13] ?_));obtain ⟨s105,zi,he107,hl108,hm109,hr110⟩:=iD ((u1).getD (m-1+i) 0) s99 bo wM wM oM;refine lV 123 (.tuple #[mV s105,mV zi]) ?_ (hr:=de kR (hr110 _));refine lL hs [.m 110 123,.v 124 (mV s105),.v 125 (mV zi)] (lX 126 (sB b5) (x.length+1) (x.length+1) 1 (m-1+i:Nat) (m-1+i) rfl ?_);refine lW 1 u1 ai 1 (m-1+i) s105 hs oM (fun _ hs=>?_);have zp:((u1).set (m-1+i) s105).length=(x.length+1):=by rw[List.length_set];exact hu1
 replace hs:=hs.to [⟨za,22,(ql).flatMap ai⟩,⟨b5,22,((u1).set (m-1+i) s105).flatMap ai⟩] [];refine lL hs [.m 13 125] (lN (bx [(4,qS (sB za) ((x.length-y.length)+1) ((x.length-y.length)+1)),(5,sZ),(6,nV y.length),(7,nV (64-nb (y.getD (y.length-1) 0))),(8,qS V y.length vc),(9,qS (sB b5) (x.length+1) (x.length+1)),(10,iV ((m:Int)-1)),(11,mV g),(88,nV y.length),(89,nV i),(12,mV (s91+zb)),(13,mV zi)] ?_));refine kQ (bB 127 ((i:Nat)+1) (i+1) ?_);refine lL hs [.m 89 127] (lD ?_);intro a_ ka;refine ⟨_,_,?_,⟨i+1,(u1).set (m-1+i) s105,(s91+zb),zi,zH,rfl,rfl,hs.to _ _,oM,zp,(hW1.set _ oM),oM,oM,(xL (t:=s99) oM inv1 oM oM),(hab1.set oM oM)⟩,ka.to _ kR⟩
 omega
end Go.Proofs.YtlgfpiiafagihaaGreatDoor
