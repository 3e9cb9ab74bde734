/- Laws and contracts that the card of this claim stands on, part 2. No condition of ours. -/
import Derived.Test.YtinhhhfjchckcaaGreatDoorPx0
set_option maxRecDepth 100000
set_option maxHeartbeats 4000000
namespace Go.Proofs.YtinhhhfjchckcaaGreatDoor
open Go.RowKit
theorem uL:∀ (f m:Nat),m≤f→wb f m=(fx 18446744073709551616 m).flatMap b8
  | 0,m,h=>by
    have:m=0:=by omega
    subst this;rfl
  | f+1,m,h=>by
    unfold wb
    split
    · rename_i h0;subst h0;rfl
    · rw[dH kD oM,List.flatMap_cons,Bo,uL f _ oM];rfl
theorem wL (n:Nat):fx 18446744073709551616 (n/18446744073709551616)=(fx 18446744073709551616 n).drop 1:=by
 rcases Nat.eq_zero_or_pos n with h|h
 ·subst h;rfl
 ·conv=>rhs;rw[dH kD h]
  rfl
theorem me (n:Nat):(hi n).data.toList=((wds n).drop 1).flatMap b8:=by
 unfold hi wds
 rw[uL _ _ oM,wL]
theorem kW (l:List Nat):(l.flatMap b8).length=8*l.length:=by
 induction l with
 | nil=>rfl
 | cons x l ih=>rw[List.flatMap_cons,List.length_append,ih,iZ,List.length_cons];omega
theorem gm (n:Nat):(hi n).size=8*((wds n).length-1):=by
 have:(hi n).size=(hi n).data.toList.length:=by rw[Array.length_toList];rfl
 rw[this,me,kW,List.length_drop]
theorem kK:∀ (l:List Nat) (j k:Nat),j<l.length→k<8→(l.flatMap b8).getD (8*j+k) 0=(b8 (l.getD j 0)).getD k 0
  | [],j,k,hj,_=>by simp at hj
  | x::l,0,k,hj,hk=>by
    rw[List.flatMap_cons]
    simp only[List.getD_eq_getElem?_getD]
    rw[List.getElem?_append_left (by rw[iZ];omega)]
    simp
  | x::l,j+1,k,hj,hk=>by
    rw[List.flatMap_cons,List.getD_cons_succ,←kK l j k (by simpa using hj) hk]
    simp only[List.getD_eq_getElem?_getD]
    rw[List.getElem?_append_right (by rw[iZ];omega),iZ]
    congr 2
    omega
theorem Bn (x k:Nat)(hk:k<8):((b8 x).getD k 0).toNat=x/256^k%256:=by
 unfold b8
 simp only[List.getD_eq_getElem?_getD,List.getElem?_map,List.getElem?_range hk]
 rfl
theorem Br (n j k:Nat)(hj:j+1<(wds n).length)(hk:k<8):aE (hi n) (8*j+k)=(wds n).getD (j+1) 0/256^k%256:=by
 unfold aE
 rw[me,kK _ _ _ (by rw[List.length_drop];omega) hk,Bn _ _ hk,bu,Nat.add_comm 1 j]
theorem EH {s:ByteArray}{x:Nat}(hx:x<18446744073709551616)(h:∀ k,k<8→aE s k=x/256^k%256):wv s=x:=by
 unfold wv
 rw[h 0 oM,h 1 oM,h 2 oM,h 3 oM,h 4 oM,h 5 oM,h 6 oM,h 7 oM]
 simp only[Nat.reducePow,Nat.div_one]
 omega
theorem gV (n j:Nat)(hj:j+1<(wds n).length):wv ((hi n).extract (8*j) (hi n).size)=(wds n).getD (j+1) 0 :=
 EH (lz n _) (fun k hk=>by rw[nk,Br n j k hj hk])
theorem dG {n:Nat}(h:n<18446744073709551616):hi n=⟨#[]⟩:=kj h
theorem cZ {n:Nat}(h:18446744073709551616≤n):2≤(wds n).length:=by
 rcases Nat.lt_or_ge (wds n).length 2 with h1|h1
 ·have h2:=gX (b:=18446744073709551616) kD n
  have:(18446744073709551616:Nat)^(fx 18446744073709551616 n).length≤18446744073709551616^1:=Nat.pow_le_pow_right kD (by show (wds n).length≤1;omega)
  omega
 ·exact h1
theorem d9 {n:Nat}(h:18446744073709551616≤n):(hi n).size≠0:=by rw[gm];have:=cZ h;omega
theorem iz {n:Nat}(h0:0<n)(h:n<18446744073709551616):wds n=[n]:=by
 unfold wds
 rw[dH kD h0,Nat.mod_eq_of_lt h,Nat.div_eq_of_lt h,iG]
theorem m6:wds 0=[]:=rfl
theorem jq {n:Nat}:0<(wds n).length↔0<n:=lk kD
theorem oL (n:Nat):lo n=(((wds n).getD 0 0:Nat):Int):=by
 unfold lo wds
 rcases Nat.eq_zero_or_pos n with h|h
 ·subst h;rfl
 ·rw[dH kD h];rfl
theorem ma {l:List Nat}(h:Wd l):wds (aA l)=l.take (tl l l.length):=BS kD h
theorem jH {n:Nat}(h:0<n):(wds n).getD ((wds n).length-1) 0≠0:=jX kD n h
theorem Ej {n:Nat}{l:List UInt8}(h:l=((wds n).drop 1).flatMap b8):(⟨l.toArray⟩:ByteArray)=hi n:=by
 have:(hi n).data.toList=l:=by rw[me,h]
 cases e:hi n with
 | mk d=>rw[e] at this;rw[←this]
theorem cF (n:Nat):n<18446744073709551616^(wds n).length:=gX kD n
theorem co {a b:Nat}(h:a≤b):(wds a).length≤(wds b).length:=eZ kD (Nat.lt_of_le_of_lt h (cF b))
theorem fv {a b:Nat}(k:Nat)(h:a<2^k):a ||| b*2^k=a+b*2^k:=by
 have:=Nat.two_pow_add_eq_or_of_lt h b;rw[Nat.or_comm,Nat.mul_comm b,←this];omega
def bL (a b:Nat):Int:=if a<b then -1 else if b<a then 1 else 0
theorem da {a b:Nat}(h:a<b):bL a b = -1:=by simp[bL,h]
theorem ei {a b:Nat}(h:b<a):bL a b=1:=by unfold bL;rw[if_neg oM,if_pos h]
theorem gB {a b:Nat}(h:a=b):bL a b=0:=by unfold bL;rw[if_neg oM,if_neg oM]
theorem eg {a b:Nat}(h:b≤a):bL a b=0∨bL a b=1:=by
 unfold bL
 rw[if_neg oM]
 split<;>simp
theorem ff {a b:Nat}(h:(wds a).length<(wds b).length):a<b:=by
 rcases Nat.lt_or_ge a b with hl|hl
 ·exact hl
 ·have:=co hl;omega
theorem j4 {a b k:Nat}(hlen:(wds a).length=(wds b).length)(hk:k<(wds a).length)(hd:(wds a).drop (k+1)=(wds b).drop (k+1))(hlt:(wds a).getD k 0<(wds b).getD k 0):a<b:=by
 have ea:=bD 18446744073709551616 (l:=wds a) (k:=k+1) oM;have eb:=bD 18446744073709551616 (l:=wds b) (k:=k+1) oM;have e1:aj 18446744073709551616 (wds a)=a:=aR a;have e2:aj 18446744073709551616 (wds b)=b:=aR b;have ta:=aN 18446744073709551616 (l:=wds a) (k:=k) hk;have tb:=aN 18446744073709551616 (l:=wds b) (k:=k) oM;have la:=bC (Dg.take (Wd.wds a) k);rw[List.length_take,Nat.min_eq_left oM] at la
 have hm:18446744073709551616^k*(wds a).getD k 0+18446744073709551616^k≤18446744073709551616^k*(wds b).getD k 0:=by
  rw[←Nat.mul_succ];exact Nat.mul_le_mul_left _ hlt
 rw[hd] at ea
 omega
theorem jt {a b k:Nat}(hlen:(wds a).length=(wds b).length)(hk:k<(wds a).length)(hd:(wds a).drop (k+1)=(wds b).drop (k+1))(hne:(wds a).getD k 0≠(wds b).getD k 0):bL ((wds a).getD k 0) ((wds b).getD k 0)=bL a b:=by
 rcases Nat.lt_or_ge ((wds a).getD k 0) ((wds b).getD k 0) with h|h
 ·rw[da h,da (j4 hlen hk hd h)]
 ·rw[ei oM,ei (j4 hlen.symm oM hd.symm oM)]
theorem ej {l m:List Nat}{k:Nat}(hl:l.length=m.length)(hk:k<l.length)(hd:l.drop (k+1)=m.drop (k+1))(he:l.getD k 0=m.getD k 0):l.drop k=m.drop k:=by
 rw[List.drop_eq_getElem_cons hk,List.drop_eq_getElem_cons (l:=m) (i:=k) oM,hd]
 simp[hk,show k<m.length by omega] at he
 rw[he]
theorem pp (n:Nat):n%18446744073709551616=(wds n).getD 0 0:=Int.ofNat.inj (oL n)
theorem lu {a b:Nat}(hlen:(wds a).length=(wds b).length)(hd:(wds a).drop 1=(wds b).drop 1):bL (a%18446744073709551616) (b%18446744073709551616)=bL a b:=by
  rw[pp,pp]
  by_cases h:(wds a).getD 0 0=(wds b).getD 0 0
  · have:a=b:=by
      rcases Nat.eq_zero_or_pos (wds a).length with h0|h0
      · have e1:=aR a
        have e2:=aR b;have e3:wds a=[]:=List.eq_nil_of_length_eq_zero h0;have e4:wds b=[]:=List.eq_nil_of_length_eq_zero oM;rw[e3] at e1
        rw[e4] at e2
        exact e1.symm.trans e2
      · have:=ej hlen h0 hd h
        simp only[List.drop_zero] at this
        rw[←aR a,←aR b,this]
    rw[h,gB rfl,gB this]
  · refine jt hlen ?_ hd h
    rcases Nat.eq_zero_or_pos (wds a).length with h0|h0
    · exfalso;apply h
      have e1:wds a=[]:=List.eq_nil_of_length_eq_zero h0;have e2:wds b=[]:=List.eq_nil_of_length_eq_zero oM;rw[e1,e2]
    · exact h0
theorem ph {n:Nat}(h:(wds n).length≤1):n<18446744073709551616:=by
 rcases Nat.lt_or_ge n 18446744073709551616 with h1|h1
 ·exact h1
 ·have:=cZ h1;omega
theorem nq {a b:Nat}(hlen:(wds a).length-1=(wds b).length-1)(hd:(wds a).drop 1=(wds b).drop 1):bL (a%18446744073709551616) (b%18446744073709551616)=bL a b:=by
 rcases Nat.lt_or_ge 1 (wds a).length with h|h
 ·exact lu oM hd
 ·rw[Nat.mod_eq_of_lt (ph h),Nat.mod_eq_of_lt (ph oM)]
theorem uj {n:Nat}(h:0<n):nb n=64*((wds n).length-1)+nb ((wds n).getD ((wds n).length-1) 0):=by
 have hp:=jq.2 h;have e:=aN 18446744073709551616 (l:=wds n) (k:=(wds n).length-1) oM;rw[show (wds n).length-1+1=(wds n).length by omega,List.take_length] at e
 have e1:aj 18446744073709551616 (wds n)=n:=aR n;have hlt:=bC (Dg.take (Wd.wds n) ((wds n).length-1));rw[List.length_take,Nat.min_eq_left oM] at hlt
 have e2:(18446744073709551616:Nat)^((wds n).length-1)=2^(64*((wds n).length-1)):=by rw[Nat.pow_mul]
 rw[e1,e2] at e
 rw[e2] at hlt
 have:=sY hlt (Nat.pos_of_ne_zero (jH h));rw[←e] at this
 exact this
theorem g6 {n:Nat}(h:n<18446744073709551616):Value.agg #[.int .u64 (n:Int),.string ⟨#[]⟩]=nv n:=by unfold nv;rw[ii h,kj h]
theorem fd {n:Nat}:(wds n).length≤1↔n<18446744073709551616:=by
 constructor
 ·intro h
  rcases Nat.lt_or_ge n 18446744073709551616 with h1|h1
  ·exact h1
  ·have:=cZ h1;omega
 ·intro h
  rcases Nat.eq_zero_or_pos n with h0|h0
  ·subst h0;simp[m6]
  ·rw[iz h0 h];simp
structure HalfQ (Y y1 y0 u u1 q r:Nat):Prop where
  e:q*y1+r=u
  lt:u*4294967296+u1<(q+1)*Y
  qb:q≤4294967297
theorem jy {Y y1 y0 u u1:Nat}(hY:Y=y1*4294967296+y0)(h1:u1<4294967296)(hn:2147483648≤y1)(h0:y0<4294967296)(hu:u<Y):HalfQ Y y1 y0 u u1 (u/y1) (u-u/y1*y1):=by
 have hm:u/y1*y1≤u:=Nat.div_mul_le_self u y1
 have hlt:u<(u/y1+1)*y1:=by
  have:=Nat.lt_div_mul_add (a:=u) (b:=y1) oM;rw[Nat.add_mul,Nat.one_mul];exact this
 refine ⟨by omega,?_,?_⟩
 ·have:(u/y1+1)*Y=(u/y1+1)*y1*4294967296+(u/y1+1)*y0:=by rw[hY,Nat.mul_add,Nat.mul_assoc]
  omega
 ·have h2:u/y1<4294967298:=by
   rw[Nat.div_lt_iff_lt_mul oM]
   omega
  omega
theorem kz {u y1:Nat}(h:0<y1):u-u/y1*y1<y1:=by
 have:=Nat.lt_div_mul_add (a:=u) (b:=y1) h;have hm:u/y1*y1≤u:=Nat.div_mul_le_self u y1
 omega
theorem HalfQ.dec {Y y1 y0 u u1 q r:Nat}(h:HalfQ Y y1 y0 u u1 q r)(hY:Y=y1*4294967296+y0)(h1:u1<4294967296)(hu:u<Y)(ht:4294967296≤q∨4294967296*r+u1<q*y0):HalfQ Y y1 y0 u u1 (q-1) (r+y1):=by
 have hq:0<q:=by
  rcases ht with h2|h2
  ·omega
  ·rcases Nat.eq_zero_or_pos q with h3|h3
   ·subst h3;omega
   ·exact h3
 obtain ⟨p,rfl⟩:∃ p,q=p+1:=⟨q-1,by omega⟩;have e:=h.e;rw[Nat.add_mul,Nat.one_mul] at e
 refine ⟨by rw[Nat.add_sub_cancel];omega,?_,by have:=h.qb;omega⟩;rw[Nat.add_sub_cancel]
 rcases ht with h2|h2
 ·have:4294967296*Y≤(p+1)*Y:=Nat.mul_le_mul_right _ h2
  omega
 ·have:(p+1)*Y=(p+1)*y1*4294967296+(p+1)*y0:=by rw[hY,Nat.mul_add,Nat.mul_assoc]
  rw[Nat.add_mul p 1 y1,Nat.one_mul] at this
  omega
theorem HalfQ.fin {Y y1 y0 u u1 q r:Nat}(h:HalfQ Y y1 y0 u u1 q r)(hY:Y=y1*4294967296+y0)(ht:¬4294967296*r+u1<q*y0):q=(u*4294967296+u1)/Y∧(u*4294967296+u1)-q*Y=(u*4294967296+u1)%Y∧q*Y≤u*4294967296+u1:=by
 have hle:q*Y≤u*4294967296+u1:=by
  have:q*Y=q*y1*4294967296+q*y0:=by rw[hY,Nat.mul_add,Nat.mul_assoc]
  have:=h.e
  omega
 have hq:q=(u*4294967296+u1)/Y:=(Nat.div_eq_of_lt_le hle h.lt).symm;have hd:=Nat.div_add_mod (u*4294967296+u1) Y;rw[←hq,Nat.mul_comm] at hd
 exact ⟨hq,by omega,hle⟩
theorem HalfQ.brk {Y y1 y0 u u1 q r:Nat}(h:HalfQ Y y1 y0 u u1 q r)(hY:Y=y1*4294967296+y0)(h0:y0<4294967296)(hr:4294967296≤r)(hq:q≤4294967296):q=(u*4294967296+u1)/Y∧(u*4294967296+u1)-q*Y=(u*4294967296+u1)%Y∧q*Y≤u*4294967296+u1 :=
 h.fin hY (by
  have:q*y0≤4294967296*y0:=Nat.mul_le_mul_right _ hq
  omega)
theorem iI {A y s Y Q R:Nat}(hYs:Y=y*2^s)(hA:A*2^s=Y*Q+R)(hm:R<Y):A=y*Q+R/2^s∧R/2^s<y:=by
 have hp:0<2^s:=Nat.two_pow_pos s;have e:y*Q*2^s=Y*Q:=by rw[hYs];ac_rfl
 have hle:y*Q≤A:=by
  have:y*Q*2^s≤A*2^s:=by rw[hA,e];omega
  exact Nat.le_of_mul_le_mul_right this hp
 have hR2:R=(A-y*Q)*2^s:=by rw[Nat.sub_mul,hA,e];omega
 rw[hR2,Nat.mul_div_cancel _ hp];refine ⟨by omega,?_⟩;have:(A-y*Q)*2^s<y*2^s:=by rw[←hR2,←hYs];exact hm
 exact Nat.lt_of_mul_lt_mul_right this
theorem qU {A y s u32 u10 Y u1 u0 q1 r1 q0 R:Nat}(hYs:Y=y*2^s)(hN:A*2^s=u32*18446744073709551616+u10)(h10:u10=u1*4294967296+u0)(hy:0<y)
  (e1:q1=(u32*4294967296+u1)/Y)(e2:r1=(u32*4294967296+u1)%Y)(e3:q0=(r1*4294967296+u0)/Y)(e4:R=(r1*4294967296+u0)%Y) :
  A=y*(q1*4294967296+q0)+R/2^s∧R/2^s<y:=by
 have hYp:0<Y:=by rw[hYs];exact Nat.mul_pos hy (Nat.two_pow_pos s)
 have d1:=Nat.div_add_mod (u32*4294967296+u1) Y;have d0:=Nat.div_add_mod (r1*4294967296+u0) Y;rw[←e1,←e2] at d1
 rw[←e3,←e4] at d0
 have hm:R<Y:=by rw[e4];exact Nat.mod_lt _ hYp
 refine iI hYs ?_ hm;rw[hN,h10,Nat.mul_add,←Nat.mul_assoc]
 clear e1 e2 e3 e4 hN h10 hm hYs hYp hy
 omega
theorem o0 {y:Nat}(h0:0<y)(h:y<18446744073709551616):9223372036854775808≤y*2^(64-nb y)∧y*2^(64-nb y)<18446744073709551616:=by
 obtain ⟨s1,s2,s3⟩:=bU h0;have hle:nb y≤64:=i6 (k:=64) h
 have e1:(2:Nat)^(nb y-1)*2^(64-nb y)=9223372036854775808:=by
  rw[←Nat.pow_add,show nb y-1+(64-nb y)=63 by omega]
 have e2:(2:Nat)^nb y*2^(64-nb y)=18446744073709551616:=by
  rw[←Nat.pow_add,show nb y+(64-nb y)=64 by omega]
 have a1:=Nat.mul_le_mul_right (2^(64-nb y)) s1;have a2:=Nat.mul_lt_mul_of_pos_right s2 (Nat.two_pow_pos (64-nb y))
 omega
theorem Ag {hi lo s:Nat}(hs:s≤64)(hl:lo<18446744073709551616):(hi*18446744073709551616+lo)*2^s=(hi*2^s+lo/2^(64-s))*18446744073709551616+lo*2^s%18446744073709551616∧lo/2^(64-s)<2^s:=by
 have e:(18446744073709551616:Nat)=2^(64-s)*2^s:=by rw[←Nat.pow_add,show 64-s+s=64 by omega]
 have h1:lo*2^s/18446744073709551616=lo/2^(64-s):=by
  rw[e,Nat.mul_div_mul_right _ _ (Nat.two_pow_pos s)]
 have h2:=Nat.div_add_mod (lo*2^s) 18446744073709551616;rw[h1] at h2
 constructor
 ·rw[Nat.add_mul,Nat.add_mul]
  have:hi*18446744073709551616*2^s=hi*2^s*18446744073709551616:=by ac_rfl
  omega
 ·rw[Nat.div_lt_iff_lt_mul (Nat.two_pow_pos _),Nat.mul_comm,←e];exact hl
theorem kM {a b q Y r:Nat}(h:q*Y≤a*4294967296+b)(hr:a*4294967296+b-q*Y=r)(hrb:r<18446744073709551616):((a*4294967296%18446744073709551616+b)%18446744073709551616+(18446744073709551616-q*Y%18446744073709551616))%18446744073709551616=r:=by
 generalize q*Y=m at *
 omega
theorem AZ {a b:Nat}(ha:a<4294967296)(hb:b<4294967296):a*b<18446744073709551616:=by
 have:a*b≤4294967295*4294967295:=Nat.mul_le_mul oM oM
 omega
theorem cp {a b c:Nat}(h:c<a*b):0<a:=by
 rcases Nat.eq_zero_or_pos a with h0|h0
 ·rw[h0,Nat.zero_mul] at h;omega
 ·exact h0
theorem mL {u u1 Y:Nat}(h:u<Y)(h1:u1<4294967296):(u*4294967296+u1)/Y<4294967296:=by
 rw[Nat.div_lt_iff_lt_mul oM];have:(u+1)*4294967296≤Y*4294967296:=Nat.mul_le_mul_right _ h
 omega
theorem vh {p:Nat}(h:p≤64):(18446744073709551616:Nat)=2^(64-p)*2^p:=by rw[←Nat.pow_add,show 64-p+p=64 by omega]
theorem vg {x p o:Nat}(hp:p≤64)(hx:x<18446744073709551616)(ho:o<2^p) :
  o ||| (x*2^p%18446744073709551616)=o+x*2^p%18446744073709551616∧o+x*2^p%18446744073709551616<18446744073709551616∧x*2^p%18446744073709551616+18446744073709551616*(x/2^(64-p))=x*2^p∧x/2^(64-p)<2^p:=by
 have e:=vh hp
 have hm:x*2^p%18446744073709551616=x%2^(64-p)*2^p:=by
  conv=>lhs;rw[e]
  exact Nat.mul_mod_mul_right _ _ _
 have hlt:x%2^(64-p)<2^(64-p):=Nat.mod_lt _ (Nat.two_pow_pos _);refine ⟨by rw[hm];exact fv p ho,?_,?_,?_⟩
 ·rw[hm]
  have:(x%2^(64-p)+1)*2^p≤2^(64-p)*2^p:=Nat.mul_le_mul_right _ hlt;rw[←e,Nat.add_mul] at this
  omega
 ·have h1:x*2^p/18446744073709551616=x/2^(64-p):=by
   conv=>lhs;rw[e]
   exact Nat.mul_div_mul_right _ _ (Nat.two_pow_pos _)
  rw[←h1];exact Nat.mod_add_div _ _
 ·rw[Nat.div_lt_iff_lt_mul (Nat.two_pow_pos _),Nat.mul_comm,←e];exact hx
theorem tc {l w:List Nat}{i q p x o a c:Nat}(hl:i+q+1<l.length)(hv:aA l=2^p*(18446744073709551616^q*aj 18446744073709551616 (w.take i)))(h0:l.getD (i+q+1) 0=0)(hs:a+18446744073709551616*c=x*2^p)(hx:x=w.getD i 0)(ho:o=l.getD (i+q) 0) :
  aA ((l.set (i+q) (o+a)).set (i+q+1) c)=2^p*(18446744073709551616^q*aj 18446744073709551616 (w.take (i+1))):=by
 have s1:=bX 18446744073709551616 (l:=l) (k:=i+q) (o+a) oM;have s2:=bX 18446744073709551616 (l:=l.set (i+q) (o+a)) (k:=i+q+1) c (by rw[List.length_set];omega);rw[bp oM,if_neg oM,h0] at s2
 rw[←ho] at s1
 have e3:2^p*(18446744073709551616^q*aj 18446744073709551616 (w.take (i+1)))=aA l+18446744073709551616^(i+q)*(x*2^p):=by
  rw[aJ,hv,←hx,Nat.mul_add,Nat.mul_add,Nat.pow_add]
  congr 1
  ac_rfl
 rw[e3,←hs];rw[Nat.pow_succ] at s2
 show aj 18446744073709551616 _=aj 18446744073709551616 l+_
 simp only[Nat.mul_add,←Nat.mul_assoc] at s1 s2 ⊢
 omega
theorem vb (n:Nat):(2:Nat)^n=18446744073709551616^(n/64)*2^(n%64):=by
 have:n=64*(n/64)+n%64:=by omega
 conv=>lhs;rw[this,Nat.pow_add,Nat.pow_mul]
theorem m9 {x y p:Nat}(hp:p≤64)(hx:x<18446744073709551616) :
  (x/2^p) ||| (y*2^(64-p)%18446744073709551616)=x/2^p+y*2^(64-p)%18446744073709551616∧x/2^p+y*2^(64-p)%18446744073709551616<18446744073709551616∧2^p*(x/2^p+y*2^(64-p)%18446744073709551616)+x%2^p=x+18446744073709551616*(y%2^p):=by
 have e:=vh hp;have e':(18446744073709551616:Nat)=2^p*2^(64-p):=by rw[Nat.mul_comm];exact e
 have hm:y*2^(64-p)%18446744073709551616=y%2^p*2^(64-p):=by
  conv=>lhs;rw[e']
  exact Nat.mul_mod_mul_right _ _ _
 have ho:x/2^p<2^(64-p):=by rw[Nat.div_lt_iff_lt_mul (Nat.two_pow_pos _),←e];exact hx
 have hlt:y%2^p<2^p:=Nat.mod_lt _ (Nat.two_pow_pos _);refine ⟨by rw[hm];exact fv (64-p) ho,?_,?_⟩
 ·rw[hm]
  have:(y%2^p+1)*2^(64-p)≤2^p*2^(64-p):=Nat.mul_le_mul_right _ hlt;rw[←e',Nat.add_mul] at this
  omega
 ·rw[hm,Nat.mul_add]
  have h1:=Nat.div_add_mod x (2^p);have h2:2^p*(y%2^p*2^(64-p))=18446744073709551616*(y%2^p):=by rw[e'];ac_rfl
  omega
theorem ne {l W:List Nat}{i p d r0:Nat}(hl:i<l.length)(inv:2^p*aj 18446744073709551616 l+r0=aj 18446744073709551616 (W.take i)+18446744073709551616^i*(W.getD i 0%2^p))(h0:l.getD i 0=0)(hd:2^p*d+W.getD i 0%2^p=W.getD i 0+18446744073709551616*(W.getD (i+1) 0%2^p)) :
  2^p*aj 18446744073709551616 (l.set i d)+r0=aj 18446744073709551616 (W.take (i+1))+18446744073709551616^(i+1)*(W.getD (i+1) 0%2^p):=by
 have s1:=bX 18446744073709551616 (l:=l) (k:=i) d hl;rw[h0] at s1
 rw[aJ,Nat.pow_succ];have e1:18446744073709551616^i*(2^p*d+W.getD i 0%2^p)=18446744073709551616^i*(W.getD i 0+18446744073709551616*(W.getD (i+1) 0%2^p)):=by rw[hd]
 have e2:aj 18446744073709551616 (l.set i d)=aj 18446744073709551616 l+18446744073709551616^i*d:=by omega
 rw[e2,Nat.mul_add];have e3:2^p*(18446744073709551616^i*d)=18446744073709551616^i*(2^p*d):=by ac_rfl
 rw[e3]
 simp only[Nat.mul_add,←Nat.mul_assoc] at e1 ⊢
 simp only[Nat.mul_assoc] at e1 inv ⊢
 omega
theorem vM {l W:List Nat}{p m:Nat}(hm:W.length≤m)(inv:2^p*aj 18446744073709551616 l+W.getD 0 0%2^p=aj 18446744073709551616 (W.take m)+18446744073709551616^m*(W.getD m 0%2^p)):aA l=aA W/2^p:=by
 rw[List.take_of_length_le hm] at inv
 have h0:W.getD m 0=0:=by simp[List.getElem?_eq_none hm]
 rw[h0,Nat.zero_mod,Nat.mul_zero,Nat.add_zero] at inv
 have hp:=Nat.two_pow_pos p;have hl:=Nat.mod_lt (W.getD 0 0) hp
 show aj _ l=aj _ W/_
 rw[←inv,Nat.mul_add_div hp,Nat.div_eq_of_lt hl,Nat.add_zero]
theorem kS {w:List Nat}(hw:Wd w){q:Nat}(hq:q≤w.length):aA (w.drop q)=aA w/18446744073709551616^q:=by
 have e:=bD 18446744073709551616 hq;have h1:=bC (Dg.take hw q);rw[List.length_take,Nat.min_eq_left hq] at h1
 show aj _ _=aj _ w/_
 rw[e,Nat.add_mul_div_left _ _ (Nat.pow_pos kD),Nat.div_eq_of_lt h1,Nat.zero_add]
def ku (x:Nat):List Value:=[.int .u8 (x:Nat)]
theorem oc {b:Nat}(hb:0<b){l:List Nat}(h:Dg b l)(j:Nat):l.getD j 0=aj b l/b^j%b:=by
 rcases Nat.lt_or_ge j l.length with hj|hj
 ·have h1:=bD b (l:=l) (k:=j) oM
  have h2:=eD b (l:=l) (k:=j) hj;have h3:=bC (Dg.take h j);rw[List.length_take,Nat.min_eq_left oM] at h3
  have hp:0<b^j:=Nat.pow_pos hb;rw[h1,Nat.add_mul_div_left _ _ hp,Nat.div_eq_of_lt h3,Nat.zero_add,h2,Nat.add_mul_mod_self_left,Nat.mod_eq_of_lt (h.getD hb j)]
 ·rw[bA hj,Nat.div_eq_of_lt,Nat.zero_mod]
  exact Nat.lt_of_lt_of_le (bC h) (Nat.pow_le_pow_right hb hj)
theorem si {b:Nat}{l:List Nat}{k P:Nat}(hk:k<l.length)(hb:0<b)(h:aj b l<b^k*P):l.getD k 0<P:=by
 have h1:=bD b (l:=l) (k:=k) oM;have h2:=eD b (l:=l) (k:=k) hk;have hp:0<b^k:=Nat.pow_pos hb;refine Nat.lt_of_mul_lt_mul_left (a:=b^k) ?_;have h3:b^k*l.getD k 0≤b^k*aj b (l.drop k):=Nat.mul_le_mul_left _ (by rw[h2];omega)
 omega
theorem ny (k:Nat):(256:Nat)^k=18446744073709551616^(k/8)*2^(8*(k%8)):=by
 have:k=8*(k/8)+k%8:=by omega
 conv=>lhs;rw[this,Nat.pow_add,Nat.pow_mul]
 rw[Nat.pow_mul 2 8]
theorem mS {l:List Nat}(hW:Wd l)(k:Nat):l.getD (k/8) 0/2^(8*(k%8))%256=aA l/256^k%256:=by
 rw[oc kD hW (k/8),ny,←Nat.div_div_eq_div_mul]
 show _=aj 18446744073709551616 l/_/_%256
 generalize aj 18446744073709551616 l/18446744073709551616^(k/8)=y
 have:k%8=0∨k%8=1∨k%8=2∨k%8=3∨k%8=4∨k%8=5∨k%8=6∨k%8=7:=by omega
 rcases this with h|h|h|h|h|h|h|h<;>rw[h]<;>omega
theorem s7 (n k:Nat):(wds n).getD (k/8) 0/2^(8*(k%8))%256=n/256^k%256:=by
 rw[mS (Wd.wds n),aR]
theorem tF {b k:Nat}(hb:b<256):b*2^(8*(k%8))<18446744073709551616:=by
 have:k%8=0∨k%8=1∨k%8=2∨k%8=3∨k%8=4∨k%8=5∨k%8=6∨k%8=7:=by omega
 rcases this with h|h|h|h|h|h|h|h<;>rw[h]<;>omega
theorem qJ {a b k:Nat}(ha:a<2^(8*(k%8)))(hb:b<256):a+b*2^(8*(k%8))<18446744073709551616:=by
 have:k%8=0∨k%8=1∨k%8=2∨k%8=3∨k%8=4∨k%8=5∨k%8=6∨k%8=7:=by omega
 rcases this with h|h|h|h|h|h|h|h<;>rw[h] at ha ⊢ <;> omega
theorem o3 {l:List Nat}{n k x:Nat}(hk:k/8<l.length)(inv:aA l=n%256^k)(hx:x=n/256^k%256) :
  (l.getD (k/8) 0 ||| x*2^(8*(k%8))%18446744073709551616)=l.getD (k/8) 0+x*2^(8*(k%8))∧l.getD (k/8) 0+x*2^(8*(k%8))<18446744073709551616 ∧
  aA (l.set (k/8) (l.getD (k/8) 0+x*2^(8*(k%8))))=n%256^(k+1):=by
 have hb:x<256:=by rw[hx];exact Nat.mod_lt _ oM
 have hlt:aA l<256^k:=by rw[inv];exact Nat.mod_lt _ (Nat.pow_pos oM)
 have hd:l.getD (k/8) 0<2^(8*(k%8)):=si (b:=18446744073709551616) hk kD (by rw[←ny];exact hlt);refine ⟨?_,qJ hd hb,?_⟩
 ·rw[Nat.mod_eq_of_lt (tF hb)];exact fv _ hd
 ·have e:=bX 18446744073709551616 (l:=l) (k:=k/8) (l.getD (k/8) 0+x*2^(8*(k%8))) hk
  rw[uM,←hx,←inv]
  show aj _ _=aj _ l+_
  have e2:256^k*x=18446744073709551616^(k/8)*(x*2^(8*(k%8))):=by rw[ny k];ac_rfl
  rw[Nat.mul_add] at e
  rw[e2]
  omega
theorem uO (n:Nat):n<256^((nb n+7)/8):=by
 have h:=Ei n;have e:(256:Nat)^((nb n+7)/8)=2^(8*((nb n+7)/8)):=by rw[Nat.pow_mul]
 rw[e];exact Nat.lt_of_lt_of_le h (Nat.pow_le_pow_right oM oM)
theorem jT (n:Nat):nb n≤64*(wds n).length:=by
 apply i6
 have:=cF n
 rwa [show (18446744073709551616:Nat)=2^64 by rfl,←Nat.pow_mul] at this
theorem jG (n:Nat):(wds n).length=(nb n+63)/64:=by
 rcases Nat.eq_zero_or_pos n with h|h
 ·subst h;rfl
 ·have h1:=uj h
  have h2:=jH h;have h3:=lz n ((wds n).length-1);have h4:=jq.2 h
  generalize (wds n).getD ((wds n).length-1) 0=t at *
  have h5:=(bU (Nat.pos_of_ne_zero h2)).2.2;have h6:nb t≤64:=i6 (k:=64) h3
  omega
section ss
variable {w0:World} {h0:Hp} {w:World} {h:Hp} {B:List Bx} {R:List Rw} {F:List (Hp→Prop)}
end ss
theorem kB {vs cs:List Value}{o:Nat}(h:(vs.drop o).take cs.length=cs)(i:Nat)(v:Value)(hv:cs[i]?=some v):vs[o+i]?=some v:=by
 have hi:i<cs.length:=(List.getElem?_eq_some_iff.1 hv).1;rw[←h,List.getElem?_take_of_lt hi,List.getElem?_drop] at hv
 exact hv
section laws
variable {M:Ms} {P:Program} {n:Nat} {N R:Po} {X:Nat→Po} {ops:Array Oper} {k k0:Nat} {hr:Hp} {AL:List Al} {L:Array Bool} {Γ:bM} {w:World} {h:Hp} {w0:World} {h0:Hp} {B:List Bx} {Rs:List Rw} {F:List (Hp→Prop)}
theorem iX:∀ (cs vs:List Value) (o:Nat),(bQ vs o cs).length=vs.length
 | [],_,_=>rfl
 | c::cs,vs,o=>by show (bQ (vs.set o c) (o+1) cs).length=_;rw[iX,List.length_set]
theorem SlO.flat {α:Type}{sz:Nat}{f:α→List Value}{d:α}{A:Option Addr}:∀ {l:List α},(∀ x,(f x).length=sz)→SlO sz f d h A l→Seg h (aB A) (aO A) (l.flatMap f)
  | l,hf,s=>fun i v hv=>by
    have hi:i<(l.flatMap f).length:=(List.getElem?_eq_some_iff.1 hv).1;rw[cj hf] at hi
    rcases Nat.eq_zero_or_pos sz with h0'|hp
    · subst h0';simp at hi
    · have hk:i/sz<l.length:=(Nat.div_lt_iff_lt_mul hp).2 hi
      have hr:i%sz<sz:=Nat.mod_lt _ hp;have he:=s.el (i/sz) hk (i%sz) v;have hd:=ew hf d l (i/sz) hk;have hm:i/sz*sz+i%sz=i:=by rw[Nat.mul_comm];exact Nat.div_add_mod i sz
      have:=he (by rw[←hd,List.getElem?_take_of_lt hr,List.getElem?_drop,hm];exact hv)
      rwa [Nat.add_assoc,hm] at this
theorem iN {b o:Nat}{news:List Value}(g:G w h)(sg:Seg h b o news):∀ j u,news[j]?=some u→w.cell? ((⟨b,o,none⟩:Addr).add j)=some u:=by
 intro j u hu;have:=jn g (sg j u hu)
 unfold Addr.add
 split
 ·rename_i h0;subst h0;exact this
 ·exact this
theorem u5 {α:Type}{f:α→List Value}{l m:List α}:l.flatMap f++m.flatMap f=(l++m).flatMap f:=by simp
theorem Gp {α:Type}(t j:Nat)(ty:TypeId)(sz c:Nat)(A:Option Addr)(l:List α)(f:α→List Value)(d:α)(A2:Option Addr)(m:List α)(c2 bt:Nat)(z:Value)(s:SS w0 h0 w h B Rs F)(so:SlO sz f d h A2 m)(hm0:0<m.length)
  (H:∀ A' c' w' h',SS w0 h0 w' h' B (Rs.set j ⟨ty,sz,A',c',(l++m).length,(l++m).flatMap f⟩) F→LG P n N R X ops (k+1) ((t,.slice A' (l++m).length c')::Γ) w')
  (hc:cL ops Γ k t n=true:=by kernel_rfl)(he:vr P (ev Γ) (ao ops k)=some (.slice A l.length c,.slice A2 m.length c2,ty,z,sz,bt):=by kernel_rfl)(hf:∀ x,(f x).length=sz:=by intro _;rfl)(h1:∀ x,(f x).all (·.oneCell')=true:=by intro _;kernel_rfl)(hzs:z.cells.size=sz:=by kernel_rfl)(hpos:0<sz:=by decide)
  (hr:Rs.getD j default=⟨ty,sz,A,c,l.length,l.flatMap f⟩:=by kernel_rfl)(hj:decide (j<Rs.length)=true:=by kernel_rfl)(hm:l.length+m.length≤1099511627776:=by omega)(hb:(l.length+m.length)*bt≤140737488355328:=by omega):LG P n N R X ops k Γ w:=by
 have hj':=oT hj;have hA:=so.ok hm0;rw[hA] at he
 refine FB t j (m.flatMap f) s (iN s.g (so.flat hf)) (cj hf m) (fun u hu=>?_) hj' (eM hr hj') hc he hzs hpos hm hb (fun A' c' w' h' s'=>?_)
 ·obtain ⟨x,_,hx⟩:=List.mem_flatMap.1 hu
  exact (List.all_eq_true.1 (h1 x)) u hx
 ·have e1:l.length+m.length=(l++m).length:=by simp
  rw[u5,e1] at s'
  rw[e1];exact H A' c' w' h' s'
theorem SS.newr {α:Type}{f:α→List Value}{l:List α}{sz:Nat}(s:SS w0 h0 w h B Rs F)(ty:TypeId)(hf:∀ x,(f x).length=sz)(hm:l.length≤maxLen):SS w0 h0 (w.alloc (.cells (l.flatMap f).toArray ty (0,0))) (h.push junk) B (⟨ty,sz,some ⟨w.heap.size,0,none⟩,l.length,l.length,l.flatMap f⟩::Rs) F:=by
  have u:Up w h (w.alloc (.cells (l.flatMap f).toArray ty (0,0))) (h.push junk):=Up.allocAny s.g _ _ (.inr rfl);have s1:=s.step u;refine ⟨s1.g0,s1.st,fun r hr=>?_,List.pairwise_cons.2 ⟨fun r hr=>?_,s1.ap⟩,s1.mo,s1.f⟩
  · rcases List.mem_cons.1 hr with rfl|hr
    · refine ⟨⟨cj hf l,.inr ⟨w.heap.size,l.length,(l.flatMap f).toArray,rfl,by rw[s.g.size];exact s.st.sz,?_,Nat.le_refl _,hm,?_,?_⟩⟩,fun b hb=>?_,fun b hb hm=>?_⟩
      · rw[cD];exact Array.getElem?_push_size
      · simp[←cj hf l]
      · show List.take (l.length*sz) (l.flatMap f)=_
        rw[←cj hf l];exact List.take_length
      · simp[Rw.v,Value.ownBlock] at hb
        subst hb;rw[s.g.size];exact Array.getElem?_push_size
      · simp[Rw.v,Value.ownBlock] at hb
        obtain ⟨x,hx,e⟩:=List.mem_map.1 hm;have:=(s.st.own x hx).lt;have e':x.b=b:=e
        omega
    · exact s1.ro r hr
  · intro b hb hb'
    have:=iQ (s.ro r hr).own hb'
    simp[Rw.v,Value.ownBlock] at hb
    omega
theorem Fr {α:Type}(t:Nat)(ty:TypeId)(sz:Nat)(f:α→List Value)(l:List α)(s:SS w0 h0 w h B Rs F)(H:∀ b w' h',SS w0 h0 w' h' B (⟨ty,sz,some ⟨b,0,none⟩,l.length,l.length,l.flatMap f⟩::Rs) F→LG P n N R X ops (k+1) ((t,.slice (some ⟨b,0,none⟩) l.length l.length)::Γ) w')(hc:cL ops Γ k t n=true:=by kernel_rfl)
  (hr:(execOp (ev Γ) (ao ops k)).run P w=.ok (.value (.slice (some ⟨w.heap.size,0,none⟩) l.length l.length)) (w.alloc (.cells (l.flatMap f).toArray ty (0,0))):=by kernel_rfl)(hf:∀ x,(f x).length=sz:=by intro _;rfl)(hm:Nat.ble l.length 1000=true:=by kernel_rfl):LG P n N R X ops k Γ w :=
 LG.val t _ _ (bv hc).1 (bv hc).2 hr (H _ _ _ (s.newr ty hf (by have:=Nat.le_of_ble_eq_true hm;unfold maxLen;omega)))
theorem ip (j o:Nat)(cs:List Value)(s:SS w0 h0 w h B Rs F)(H:∀ w',Put (aw B j).b w w'→SS w0 h0 w' h (ft B j o cs) Rs F→LG P n N R X ops (k+1) Γ w')(hc:cS ops Γ k=true:=by kernel_rfl)
  (hj:(decide (j<B.length) && decide (o+cs.length≤(aw B j).vs.length))=true:=by kernel_rfl)(he:cP P (execOp (ev Γ) (ao ops k))=some (.skip,jE (aw B j).b o cs):=by kernel_rfl):LG P n N R X ops k Γ w :=
 LG.put j o cs s.st s.g0 (ji hc).1 (ji hc).2 hj he (fun w' p s'=>H w' p (s.put0 (oT (Bool.and_eq_true _ _▸hj).1) p s' (kn (oT (Bool.and_eq_true _ _▸hj).1))))
theorem tX (i t:Nat)(A:Option Addr)(len cap sz:Nat)(x:Int)(j:Nat)(hA:A=some ⟨aB A,aO A,none⟩)(H:AG M P n N R X ops k0 (L.setIfInBounds i true) ((t,.pointer (some ⟨aB A,aO A+j*sz,none⟩))::Γ) w)(hc:cT n ops k0 L Γ i t=true:=by kernel_rfl)(he:Au P (ev Γ) (ao ops i)=some (.slice A len cap,.int .i64 x,sz):=by kernel_rfl)(hk:x=j:=by omega)(hlt:j<len:=by omega):AG M P n N R X ops k0 L Γ w :=
 T.val i t _ w (na hc).1 (na hc).2 (fK he hA hk hlt w) H
theorem SS.blkp {F1:List (Hp→Prop)}{wr:World}{x:Al}{b:Nat}(pre:List Bx)(sr:SS w0 h0 wr hr B Rs F1)(s:SS w0 h0 w h (pre++B) Rs F)(k:Blk hr w h (x,b))(t:TypeId)(vs:List Value)(ho:x.o=.cells vs.toArray t (0,0))(hp:pre.all (fun y=>y.t != t)=true):SS w0 h0 w h (⟨b,t,vs⟩::(pre++B)) Rs F :=
 ⟨s.g0,St.new sr.st s.st (fun y hy=>by
  rcases List.mem_append.1 hy with hy|hy
  ·right
   intro e;have h1:=s.st.own y (List.mem_append_left _ hy);have h2:w.heap[b]?=some x.o:=k.1
   unfold Own at h1
   rw[e,h2,ho] at h1
   injection h1 with h1
   injection h1 with _ h3
   have:=(List.all_eq_true.1 hp) y hy
   simp only[bne_iff_ne,ne_eq] at this
   exact this h3.symm
  ·exact .inl (az (sr.st.jk y hy))) k t vs ho,fun r hr'=>(s.ro r hr').new b (fun c hc e=>by
  have h1:=(sr.ro r hr').lt hc;have h2:hr.size≤b:=k.2.2
  omega),s.ap,s.mo,s.f⟩
theorem iu {F1:List (Hp→Prop)}{wr:World}{x:Al}(pre:List Bx)(sr:SS w0 h0 wr hr B Rs F1)(s:SS w0 h0 w h (pre++B) Rs F)(t:TypeId)(vs:List Value)(H:∀ w' h' b,SS w0 h0 w' h' (⟨b,t,vs⟩::(pre++B)) Rs F→AG M P n N R X ops k0 (L.setIfInBounds x.i true) ((x.t,.pointer (some ⟨b,0,none⟩))::Γ) w')(hc:(eF ops [x] L && decide (x.t<n))=true:=by kernel_rfl)(ho:x.o=.cells vs.toArray t (0,0):=by kernel_rfl)(hp:pre.all (fun y=>y.t != t)=true:=by kernel_rfl):EG M P n N R X ops k0 hr [x] L Γ w h :=
 Rg.fin1 hc (fun w' h' b u k=>H w' h' b (SS.blkp pre sr (s.step u) k t vs ho hp))
end laws
theorem SS.at_ {w:World}{h:Hp}{rb:Nat}{t:TypeId}{vs:List Value}(g:G w h)(o:Own w rb t vs)(j:h[rb]?=some junk):∃ w0 h0,SS w0 h0 w h [⟨rb,t,vs⟩] [] []:=by
 obtain ⟨w0,h0,g0,st⟩:=St.at_ g o j;exact ⟨w0,h0,g0,st,fun _ hx=>(by cases hx),.nil,fun _ hx=>(by cases hx),trivial⟩
theorem SlO.take {α:Type}{sz:Nat}{f:α→List Value}{d:α}{h:Hp}{A:Option Addr}{l:List α}(s:SlO sz f d h A l)(k:Nat):SlO sz f d h A (l.take k) :=
 ⟨fun hp=>s.ok (by rw[List.length_take] at hp;omega),fun i hi=>by
  rw[List.length_take] at hi
  have:=s.el i oM
  rwa [List.getD_eq_getElem?_getD,List.getElem?_take_of_lt oM,←List.getD_eq_getElem?_getD]⟩
theorem SlO.drop {α:Type}{sz:Nat}{f:α→List Value}{d:α}{h:Hp}{A:Option Addr}{l:List α}(s:SlO sz f d h A l)(k c:Nat)(hc:l.length≤c):SlO sz f d h (if c=k then A else A.map (·.add (k*sz))) (l.drop k):=by
 rcases Nat.lt_or_ge k l.length with hk|hk
 ·rw[if_neg oM]
  have hA:=s.ok oM
  have hadd:(⟨aB A,aO A,none⟩:Addr).add (k*sz)=⟨aB A,aO A+k*sz,none⟩:=by
   unfold Addr.add
   split
   ·rename_i h0;rw[h0];rfl
   ·rfl
  have e:A.map (·.add (k*sz))=some ⟨aB A,aO A+k*sz,none⟩:=by rw[hA];simp only[Option.map_some,aB,aO] at hadd ⊢;rw[←hadd]
  refine ⟨fun _=>by rw[e];rfl,fun i hi=>?_⟩;rw[e]
  show Seg h (aB A) (aO A+k*sz+i*sz) _
  rw[List.length_drop] at hi
  have:=s.el (k+i) oM;rw[Nat.add_mul,←Nat.add_assoc] at this
  rwa [List.getD_eq_getElem?_getD,List.getElem?_drop,←List.getD_eq_getElem?_getD]
 ·rw[List.drop_eq_nil_of_le hk];exact SlO.nil
section ss
variable {w0:World} {h0:Hp} {w:World} {h:Hp} {B:List Bx} {R:List Rw} {F:List (Hp→Prop)}
theorem SS.rowA (s:SS w0 h0 w h B R F)(j:Nat){ty:TypeId}{sz c m:Nat}{A:Option Addr}{cs:List Value}(hpos:0<m)(hr:R.getD j default=⟨ty,sz,A,c,m,cs⟩:=by kernel_rfl)(hj:decide (j<R.length)=true:=by kernel_rfl):∃ b,A=some ⟨b,0,none⟩:=by
 have hj':=oT hj;have r:=s.ro _ (List.getElem_mem hj');rw[eM hr hj'] at r
 rcases r.own with ⟨_,⟨_,e⟩|⟨b,cap,cur,e,_⟩⟩
 ·simp only[] at e;omega
 ·simp only[Rw.v] at e
  injection e with e
  exact ⟨b,e⟩
theorem SS.rowO (s:SS w0 h0 w h B R F)(j:Nat){ty:TypeId}{sz c m b:Nat}{cs:List Value}(hr:R.getD j default=⟨ty,sz,some ⟨b,0,none⟩,c,m,cs⟩)(hj:j<R.length):∃ vs:List Value,Own w b ty vs∧vs.take (m*sz)=cs∧cs.length=m*sz∧h0.size≤b∧m≤c∧c≤maxLen∧vs.length=c*sz:=by
 have r:=s.ro _ (List.getElem_mem hj);rw[eM hr hj] at r
 rcases r.own with ⟨h1,⟨e,_⟩|⟨g,cap,cur,e,hb,hg,hn,hm,hs,ht⟩⟩
 ·simp[Rw.v] at e
 ·simp only[Rw.v] at e
  injection e with e1 e2 e3
  injection e1 with e1
  injection e1 with e1
  subst e1 e3;exact ⟨cur.toList,by simpa [Own] using hg,ht,h1,hb,hn,hm,by simpa using hs⟩
theorem sj {vs cs:List Value}{k i:Nat}{v:Value}(h:vs.take k=cs)(hv:cs[i]?=some v):vs[i]?=some v:=by
 have hi:i<cs.length:=(List.getElem?_eq_some_iff.1 hv).1;rw[←h] at hi
 rw[List.length_take] at hi
 rw[←h,List.getElem?_take_of_lt oM] at hv
 exact hv
theorem j3:∀ (cs vs:List Value) (o k:Nat),o+cs.length≤k→(bQ vs o cs).take k=bQ (vs.take k) o cs
  | [],_,_,_,_=>rfl
  | c::cs,vs,o,k,h=>by
    show (bQ (vs.set o c) (o+1) cs).take k=bQ ((vs.take k).set o c) (o+1) cs
    rw[j3 cs _ _ _ (by simp only[List.length_cons] at h;omega),List.take_set]
theorem SS.rowput (s:SS w0 h0 w h B R F)(j:Nat){ty:TypeId}{sz c m b o:Nat}{cs ds:List Value}{w':World}{vs:List Value}(hr:R.getD j default=⟨ty,sz,some ⟨b,0,none⟩,c,m,cs⟩)(hj:j<R.length)(p:Put b w w')(ho:Own w' b ty (bQ vs o ds))(hv:vs.take (m*sz)=cs)(hvl:vs.length=c*sz)(hl:o+ds.length≤cs.length):SS w0 h0 w' h B (R.set j ⟨ty,sz,some ⟨b,0,none⟩,c,m,bQ cs o ds⟩) F:=by
  have e0:=eM hr hj;have r:=s.ro _ (List.getElem_mem hj);rw[e0] at r
  have hjk:=r.jk b rfl;obtain ⟨_,_,_,hcl,hlo,hmc,hcm,_⟩:=s.rowO j hr hj;have hne:∀ x∈B,x.b≠b:=fun x hx e=>r.ap b rfl (List.mem_map.2 ⟨x,hx,e⟩)
  have hp:=List.pairwise_iff_getElem.1 s.ap;refine ⟨s.g0,⟨s.st.up.put p hjk hlo s.g0.size,?_,s.st.jk,s.st.lo,s.st.nd⟩,?_,?_,s.mo,s.f⟩
  · intro x hx
    show w'.heap[x.b]?=_
    rw[p.blk _ (hne x hx)];exact s.st.own x hx
  · intro x hx
    obtain ⟨i,hi,he⟩:=List.mem_iff_getElem.1 hx;have hi':i<R.length:=by simpa using hi
    by_cases e:j=i
    · subst e
      simp only[List.getElem_set_self] at he
      rw[←he];refine ⟨⟨?_,.inr ⟨b,c,(bQ vs o ds).toArray,rfl,hlo,ho,hmc,hcm,by simp[iX,hvl],?_⟩⟩,r.jk,r.ap⟩
      · show (bQ cs o ds).length=m*sz;rw[iX];exact hcl
      · show (bQ vs o ds).take (m*sz)=bQ cs o ds
        rw[j3 _ _ _ _ oM,hv]
    · rw[List.getElem_set_ne e] at he
      rw[←he]
      have hap:Apart R[i].v R[j].v:=by
        rcases Nat.lt_or_gt_of_ne e with hl'|hl'
        · exact (hp j i hj hi' hl').symm
        · exact hp i j hi' hj hl'
      rw[e0] at hap
      have ri:=s.ro _ (List.getElem_mem hi');exact ⟨eu ri.own (fun d hd=>p.blk d (fun ed=>hap d hd (by rw[ed];rfl))),ri.jk,ri.ap⟩
  · refine List.pairwise_iff_getElem.2 (fun i k hi hk hik=>?_)
    have hi':i<R.length:=by simpa using hi
    have hk':k<R.length:=by simpa using hk
    have:=hp i k hi' hk' hik
    by_cases e:j=i
    · subst e
      rw[List.getElem_set_self,List.getElem_set_ne oM];rw[e0] at this
      exact this
    · by_cases e2:j=k
      · subst e2
        rw[List.getElem_set_self,List.getElem_set_ne oM];rw[e0] at this
        exact this
      · rw[List.getElem_set_ne e,List.getElem_set_ne e2]
        exact this
theorem SS.rown (s:SS w0 h0 w h B R F)(R':List Rw)(e:R=R'):SS w0 h0 w h B R' F:=e▸s
end ss
theorem gY {α:Type}{f:α→List Value}{sz:Nat}(hf:∀ x,(f x).length=sz)(d:α){o:Nat}{cs:List Value}:∀ (l:List α) (k:Nat) (x:α),k<l.length→o+cs.length≤sz→bQ (f (l.getD k d)) o cs=f x→bQ (l.flatMap f) (k*sz+o) cs=(l.set k x).flatMap f
  | [],k,x,h,_,_=>by simp at h
  | y::l,0,x,h,ho,e=>by
    simp only[List.flatMap_cons,Nat.zero_mul,Nat.zero_add,List.set_cons_zero,List.getD_cons_zero] at e ⊢
    rw[←e];exact putAt_left _ _ _ _ (by rw[hf];exact ho)
  | y::l,k+1,x,h,ho,e=>by
    simp only[List.flatMap_cons,List.set_cons_succ,List.getD_cons_succ] at e ⊢
    rw[Nat.succ_mul,show k*sz+sz+o=(f y).length+(k*sz+o) by rw[hf];omega,fD,gY hf d l k x (by simpa using h) ho e]
where
  putAt_left:∀ (cs a b:List Value) (o:Nat),o+cs.length≤a.length→bQ (a++b) o cs=bQ a o cs++b
    | [],_,_,_,_=>rfl
    | c::cs,a,b,o,h=>by
      show bQ ((a++b).set o c) (o+1) cs=bQ (a.set o c) (o+1) cs++b
      simp only[List.length_cons] at h
      rw[List.set_append_left _ _ oM,putAt_left cs _ b _ (by rw[List.length_set];omega)]
section laws
variable {M:Ms} {P:Program} {n:Nat} {N R:Po} {X:Nat→Po} {ops:Array Oper} {k k0:Nat} {hr:Hp} {AL:List Al} {L:Array Bool} {Γ:bM} {w:World} {h:Hp} {w0:World} {h0:Hp} {B:List Bx} {Rs:List Rw} {F:List (Hp→Prop)}
theorem SS.rowrun {α:Type}{w':World}{sem:Sem α}{r:α}(s:SS w0 h0 w h B Rs F)(j:Nat){ty:TypeId}{sz c m b o:Nat}{cs ds:List Value}(hr':Rs.getD j default=⟨ty,sz,some ⟨b,0,none⟩,c,m,cs⟩)(hj:j<Rs.length)(hds:(cs.drop o).take ds.length=ds)(x:Ext w w')(he:bF P sem ds=some (r,jB b o ds.length)):sem.run P w'=.ok r w':=by
 obtain ⟨vs,ho,hv,_⟩:=s.rowO j hr' hj;exact bx _ _ _ _ he (fun i a v ha hv'=>by rw[dR _ _ _ _ _ ha,(ho.ext x).cell];exact sj hv (kB hds i v hv'))
theorem Fq (t j:Nat)(v:Value)(ds:List Value){ty:TypeId}{sz c m b o:Nat}{cs:List Value}(s:SS w0 h0 w h B Rs F)(hds:(cs.drop o).take ds.length=ds)(H:LG P n N R X ops (k+1) ((t,v)::Γ) w)(hr':Rs.getD j default=⟨ty,sz,some ⟨b,0,none⟩,c,m,cs⟩:=by kernel_rfl)(hj:decide (j<Rs.length)=true:=by kernel_rfl)(hc:cL ops Γ k t n=true:=by kernel_rfl)(he:bF P (execOp (ev Γ) (ao ops k)) ds=some (.value v,jB b o ds.length):=by kernel_rfl):LG P n N R X ops k Γ w :=
 LG.val t v w (bv hc).1 (bv hc).2 (s.rowrun j hr' (oT hj) hds (Ext.refl _) he) H
theorem GC (j o:Nat)(ds:List Value){ty:TypeId}{sz c m b:Nat}{cs:List Value}(s:SS w0 h0 w h B Rs F)(hl:o+ds.length≤cs.length)(H:∀ w',SS w0 h0 w' h B (Rs.set j ⟨ty,sz,some ⟨b,0,none⟩,c,m,bQ cs o ds⟩) F→LG P n N R X ops (k+1) Γ w')(hr':Rs.getD j default=⟨ty,sz,some ⟨b,0,none⟩,c,m,cs⟩:=by kernel_rfl)(hj:decide (j<Rs.length)=true:=by kernel_rfl)(hc:cS ops Γ k=true:=by kernel_rfl)
  (he:cP P (execOp (ev Γ) (ao ops k))=some (.skip,jE b o ds):=by kernel_rfl):LG P n N R X ops k Γ w:=by
 have hj':=oT hj;obtain ⟨vs,ho,hv,hcl,_,hmc,_,hvl⟩:=s.rowO j hr' hj'
 have hle:o+ds.length≤vs.length:=by
  have:=congrArg List.length hv;rw[List.length_take] at this
  omega
 obtain ⟨w',hrun,hp,ho'⟩:=dO _ _ o ds vs w he ho hle;exact LG.store w' (ji hc).1 (ji hc).2 hrun (H w' (s.rowput j hr' hj' hp ho' hv hvl hl))
theorem GB (i j o:Nat)(ds:List Value){ty:TypeId}{sz c m b:Nat}{cs:List Value}(s:SS w0 h0 w h B Rs F)(hl:o+ds.length≤cs.length)(H:∀ w',SS w0 h0 w' h B (Rs.set j ⟨ty,sz,some ⟨b,0,none⟩,c,m,bQ cs o ds⟩) F→AG M P n N R X ops k0 (L.setIfInBounds i true) Γ w')(hr':Rs.getD j default=⟨ty,sz,some ⟨b,0,none⟩,c,m,cs⟩:=by kernel_rfl)(hj:decide (j<Rs.length)=true:=by kernel_rfl)
  (hc:(fI ops k0 L i && a7 Γ (ao ops i) && ((ao ops i).dst == none))=true:=by kernel_rfl)(hw:bg ops Γ (ao ops i)=some true:=by kernel_rfl)
  (he:cP P (execOp (ev Γ) (ao ops i))=some (.skip,jE b o ds):=by kernel_rfl)(hz:∀ K bs,M.z=some (K,bs)→K≤b∨b∈bs:=by intro _ _ e;cases e):AG M P n N R X ops k0 L Γ w:=by
 have hj':=oT hj;obtain ⟨vs,ho,hv,hcl,_,hmc,_,hvl⟩:=s.rowO j hr' hj'
 have hle:o+ds.length≤vs.length:=by
  have:=congrArg List.length hv;rw[List.length_take] at this
  omega
 obtain ⟨w',hrun,hp,ho'⟩:=dO _ _ o ds vs w he ho hle;exact T.store i w' hc hw hrun (hp.tl hz) (H w' (s.rowput j hr' hj' hp ho' hv hvl hl))
theorem Ci (i t j:Nat)(v:Value)(ds:List Value){ty:TypeId}{sz c m b o:Nat}{cs:List Value}(s:SS w0 h0 w h B Rs F)(hds:(cs.drop o).take ds.length=ds)(H:EG ⟨[],none⟩ P n N R X ops k0 hr AL (L.setIfInBounds i true) ((t,v)::Γ) w h)(hr':Rs.getD j default=⟨ty,sz,some ⟨b,0,none⟩,c,m,cs⟩:=by kernel_rfl)(hj:decide (j<Rs.length)=true:=by kernel_rfl)(hc:vG n ops k0 AL L Γ i t=true:=by kernel_rfl)(he:bF P (execOp (ev Γ) (ao ops i)) ds=some (.value v,jB b o ds.length):=by kernel_rfl):EG ⟨[],none⟩ P n N R X ops k0 hr AL L Γ w h :=
 Rg.load i t v (gj hc).1 (gj hc).2 (fun _ hx=>s.rowrun j hr' (oT hj) hds hx.ext he) H
end laws
theorem qi (x y:Int):(if y>x then y else x)=max x y:=by omega
theorem dY (x y:Int):(if y<x then y else x)=min x y:=by omega
section z
variable {bs:List Nat} {P:Program} {n:Nat} {N R:Po} {X:Nat→Po} {ops:Array Oper} {k0:Nat} {hr:Hp} {AL:List Al} {L:Array Bool} {Γ:bM} {w wr:World} {h:Hp} {w0:World} {h0:Hp} {B:List Bx} {Rs:List Rw} {F F1:List (Hp→Prop)}
abbrev Mz (hr:Hp)(bs:List Nat):Ms:=⟨[],some (hr.size,bs)⟩
theorem xh {id:Nat}{d:Bool}(k0:Nat)(AL:List Al)(bs:List Nat)(hm:P.follows .mixedOrders=true)(s:SS w0 h0 w h B Rs F)(oks:∀ x∈AL,AlOk P ops k0 x)(H:EG (Mz h bs) P n N R X ops k0 h AL (Array.replicate ops.size false) Γ w h)(hord:jv ops=true:=by kernel_rfl):CG P n N R X (.region id ops d) Γ w :=
 CG.region (Mz h bs) k0 AL hm hord s.g oks (fun _ hb=>by cases hb) H
theorem Ec (sr:SS w0 h0 wr hr B Rs F1)(s:SS w0 h0 w h B Rs F){w':World}(hx:∀ b,b<hr.size→b ∉ bs→b ∉ ([]:List Nat)→w'.heap[b]?=w.heap[b]?):∀ x∈B,x.b ∉ bs→Own w' x.b x.t x.vs:=fun x hm hb =>
 (hx x.b (az (sr.st.jk x hm)) hb List.not_mem_nil).trans (s.st.own x hm)
theorem rM (i t:Nat)(ps:List (Nat × Nat × Nat))(v:Value)(sr:SS w0 h0 wr hr B Rs F1)(s:SS w0 h0 w h B Rs F)(H:EG (Mz hr bs) P n N R X ops k0 hr AL (L.setIfInBounds i true) ((t,v)::Γ) w h)(hM:∀ p∈ps,(aw B p.1).b ∉ bs:=by intro _ _;exact List.not_mem_nil)(hc:cE n ops k0 AL L Γ i t=true:=by kernel_rfl)(hp:bO B ps=true:=by kernel_rfl)(he:bF P (execOp (ev Γ) (ao ops i)) (cg B ps)=some (.value v,bH B ps):=by kernel_rfl):EG (Mz hr bs) P n N R X ops k0 hr AL L Γ w h :=
 Rg.loadZ i t v rfl (iO hc).1 (iO hc).2 (fun w' hx=>bx _ _ _ _ he (eh hM (Ec sr s hx) ps (fun _ h=>h) hp)) H
theorem BF {x y:Al}(sr:SS w0 h0 wr hr B Rs F)(s:SS w0 h0 w h B Rs F)(t:TypeId)(vs:List Value)(t2:TypeId)(vs2:List Value)(H:∀ w' h' b c,hr.size≤b→hr.size≤c→SS w0 h0 w' h' (⟨b,t,vs⟩::⟨c,t2,vs2⟩::B) Rs F→AG (Mz hr bs) P n N R X ops k0 ((L.setIfInBounds y.i true).setIfInBounds x.i true) ((x.t,.pointer (some ⟨b,0,none⟩))::(y.t,.pointer (some ⟨c,0,none⟩))::Γ) w')(hc:(eF ops [x,y] L && decide (x.t<n) && decide (y.t<n) && (x.t != y.t) && (x.i != y.i))=true:=by kernel_rfl)(ho:x.o=.cells vs.toArray t (0,0):=by kernel_rfl)(ho2:y.o=.cells vs2.toArray t2 (0,0):=by kernel_rfl):EG (Mz hr bs) P n N R X ops k0 hr [x,y] L Γ w h :=
 Rg.fin2 hc (fun w' h' b c u k k2 hne=>H w' h' b c k.2.2 k2.2.2 ⟨s.g0,St.new2 sr.st (s.st.step u) k k2 hne t vs ho t2 vs2 ho2,fun r hr'=>(((s.step u).ro r hr').new c (fun d hd e=>by
  have h1:=(sr.ro r hr').lt hd;have h2:hr.size≤c:=k2.2.2
  omega)).new b (fun d hd e=>by
  have h1:=(sr.ro r hr').lt hd;have h2:hr.size≤b:=k.2.2
  omega),s.ap,s.mo,(s.step u).f⟩)
theorem gu {b:Nat}(hb:hr.size≤b):∀ K bs',(Mz hr bs).z=some (K,bs')→K≤b∨b∈bs':=fun K bs' e=>by
 injection e with e
 injection e with e1 e2
 subst e1;exact .inl hb
theorem dU {b:Nat}(hb:b∈bs):∀ K bs',(Mz hr bs).z=some (K,bs')→K≤b∨b∈bs':=fun K bs' e=>by
 injection e with e
 injection e with e1 e2
 subst e2;exact .inr hb
end z
theorem eW {α:Type}{f:α→List Value}{sz:Nat}(hf:∀ x,(f x).length=sz)(d:α)(l:List α)(k:Nat)(hk:k<l.length):((l.flatMap f).drop (0+k*sz)).take (f (l.getD k d)).length=f (l.getD k d):=by
 rw[Nat.zero_add,hf];exact ew hf d l k hk
section row
variable {P:Program} {n:Nat} {N R:Po} {X:Nat→Po} {ops:Array Oper} {k:Nat} {Γ:bM} {w:World} {h:Hp} {w0:World} {h0:Hp} {B:List Bx} {Rs:List Rw} {F:List (Hp→Prop)}
theorem Cf {α:Type}(j e fo:Nat)(ds:List Value)(l:List α)(f:α→List Value)(sz:Nat)(d x:α){ty:TypeId}{c b:Nat}(s:SS w0 h0 w h B Rs F)(hk:e<l.length)(H:∀ w',SS w0 h0 w' h B (Rs.set j ⟨ty,sz,some ⟨b,0,none⟩,c,l.length,(l.set e x).flatMap f⟩) F→LG P n N R X ops (k+1) Γ w')
  (hx:bQ (f (l.getD e d)) fo ds=f x:=by rfl)(hf:∀ x,(f x).length=sz:=by intro _;rfl)(ho:Nat.ble (fo+ds.length) sz=true:=by kernel_rfl)(hr':Rs.getD j default=⟨ty,sz,some ⟨b,0,none⟩,c,l.length,l.flatMap f⟩:=by kernel_rfl)(hj:decide (j<Rs.length)=true:=by kernel_rfl)(hc:cS ops Γ k=true:=by kernel_rfl)
  (he:cP P (execOp (ev Γ) (ao ops k))=some (.skip,jE b (0+e*sz+fo) ds):=by kernel_rfl):LG P n N R X ops k Γ w:=by
 have hle:=Nat.le_of_ble_eq_true ho;refine GC j (0+e*sz+fo) ds s ?_ (fun w' s'=>H w' ?_) hr' hj hc he
 ·rw[cj hf,Nat.zero_add]
  have:(e+1)*sz≤l.length*sz:=Nat.mul_le_mul_right _ hk;rw[Nat.add_mul,Nat.one_mul] at this
  omega
 ·rw[Nat.zero_add,gY hf d l e x hk hle hx] at s'
  exact s'
end row
section rb
variable {w0:World} {h0:Hp} {w:World} {h:Hp} {B:List Bx} {R:List Rw} {F:List (Hp→Prop)}
end rb
theorem np {P:Program}(w:World)(t ty e:TypeId)(i:TypeInfo)(z:Value)(ht:P.underlying t=some (.slice e))(hi:P.info? e=some i)(hz:i.zero=some z)(a0 a:Addr)(m c:Nat)(news:List Value)(hl:news.length=m*i.size)(hnews:∀ j u,news[j]?=some u→w.cell? (a.add j)=some u)(hm:0<m)(h63:m≤1099511627776)(hb:m*i.bytes≤140737488355328) :
  (Builtin.append_ #[t,t] ty #[.slice (some a0) 0 0,.slice (some a) m c]).run P w=(Builtin.append_ #[t,t] ty #[.slice none 0 0,.slice (some a) m c]).run P w:=by
 rw[run_append_grow (P:=P) w t ty e i z ht hi hz a0 0 0 [] (by simp) (by simp) a m c news hl hnews oM oM (growslice_fits oM (by simpa using hb)),
  run_append_nil (P:=P) w t ty e i z ht hi hz a m c news hl hnews oM oM oM]
 simp
section app
variable {M:Ms} {P:Program} {n:Nat} {N R:Po} {X:Nat→Po} {ops:Array Oper} {k k0:Nat} {hr:Hp} {AL:List Al} {L:Array Bool} {Γ:bM} {w:World} {h:Hp} {w0:World} {h0:Hp} {B:List Bx} {Rs:List Rw} {F:List (Hp→Prop)}
theorem vw {o:Oper}{x y:Operand}{t e:TypeId}{z:Value}{sz bt m2 c:Nat}{news:List Value}{a0 a:Addr}(ho:o.op=.call { callee:=.builtin .append,args:=#[x,y],argTypes:=#[t,t] })
    (hx:ev Γ x=.slice (some a0) 0 0)(hy:ev Γ y=.slice (some a) m2 c)(hu:P.underlying t=some (.slice e))(hi:(P.info? e).map (fun i=>(i.zero,i.size,i.bytes))=some (some z,sz,bt))(hzs:z.cells.size=sz)(hpos:0<sz)
    (s:St w0 h0 w h B)(hl:news.length=m2*sz)(hnews:∀ j u,news[j]?=some u→w.cell? (a.add j)=some u)(h1:∀ u∈news,u.oneCell'=true)(hm0:0<m2)
    (hm:m2≤1099511627776)(hb:m2*bt≤140737488355328) :
    ∃ v' w',(execOp (ev Γ) o).run P w=.ok (.value v') w'∧w'.ownsRow h0.size e sz v' (0+m2) ([]++news)∧w.grownBy w' (Value.slice none 0 0).ownBlock∧(v'.ownBlock=(Value.slice none 0 0).ownBlock∨v'.ownBlock=some w.heap.size):=by
  cases hinf:P.info? e with
  | none=>rw[hinf] at hi;cases hi
  | some inf =>
    rw[hinf] at hi
    simp only[Option.map_some,Option.some.injEq,Prod.mk.injEq] at hi
    obtain ⟨i1,i2,i3⟩:=hi;obtain ⟨v',w',hrun,h2,h3,h4,h5⟩:=run_append_own_at (P:=P) w h0.size t o.type e inf z sz bt hu hinf i1 i2 i3 hzs hpos (.slice none 0 0) 0 [] (World.ownsRow_nil _ _ _ _) a m2 c news hl hnews h1 (by unfold maxLen;omega) (by rw[Nat.zero_add];exact hb) (by rw[s.g.size];exact s.sz);refine ⟨v',w',?_,h2,h3,h5⟩;rw[←np (P:=P) w t o.type e inf z hu hinf i1 a0 a m2 c news (by rw[i2];exact hl) hnews hm0 hm (by rw[i3];exact hb)] at hrun
    unfold execOp
    simp only[ho,resolve,invoke,builtin,Sem.run_bind,Sem.run_pure,Result.andThen_ok,List.map_toArray,List.map_cons,List.map_nil,hx,hy,hrun]
theorem SS.appE (s:SS w0 h0 w h B Rs F){o:Oper}{ty:TypeId}{sz bt c2 b0:Nat}{z:Value}{α:Type}{f:α→List Value}{d:α}{A2:Option Addr}{m:List α}(he:vr P (ev Γ) o=some (.slice (some ⟨b0,0,none⟩) 0 0,.slice A2 m.length c2,ty,z,sz,bt))(so:SlO sz f d h A2 m)(hm0:0<m.length)(h1:∀ x∈m,(f x).all (·.oneCell')=true)(hf:∀ x,(f x).length=sz)(hzs:z.cells.size=sz)(hpos:0<sz)(hm:m.length≤1099511627776)(hb:m.length*bt≤140737488355328) :
  ∃ A' c' w' h',(execOp (ev Γ) o).run P w=.ok (.value (.slice A' m.length c')) w'∧Up w h w' h'∧SS w0 h0 w' h' B (⟨ty,sz,A',c',m.length,m.flatMap f⟩::Rs) F:=by
 rw[so.ok hm0] at he
 obtain ⟨x',y,ty',ho,hx,hy,hu,hi⟩:=md he
 obtain ⟨v',w',hrun,ow,gr,hloc⟩:=vw (P:=P) ho hx hy hu hi hzs hpos s.st (cj hf m) (iN s.g (so.flat hf)) (fun u hu=>by
  obtain ⟨x,hx',hx⟩:=List.mem_flatMap.1 hu;exact (List.all_eq_true.1 (h1 x hx')) u hx) hm0 hm hb
 obtain ⟨h',A',c',rfl,e2,s'⟩:=(s.nil ty sz).grown (j:=0) (by simp) (w':=w') (v':=v') (m2:=m.length) (news:=m.flatMap f) ow gr hloc;refine ⟨A',c',w',h',?_,⟨⟨gr.os,gr.tape,gr.output,gr.size,fun c hc=>gr.block c hc (by simp[Value.ownBlock])⟩,e2,s'.g⟩,?_⟩
 ·rw[hrun];simp
 ·simpa using s'
theorem GK {α:Type}(t:Nat)(ty:TypeId)(sz:Nat)(f:α→List Value)(d:α)(b0:Nat)(A2:Option Addr)(m:List α)(c2 bt:Nat)(z:Value)(s:SS w0 h0 w h B Rs F)(so:SlO sz f d h A2 m)(hm0:0<m.length)(h1:∀ x∈m,(f x).all (·.oneCell')=true)
  (H:∀ A' c' w' h',SS w0 h0 w' h' B (⟨ty,sz,A',c',m.length,m.flatMap f⟩::Rs) F→LG P n N R X ops (k+1) ((t,.slice A' m.length c')::Γ) w')
  (hc:cL ops Γ k t n=true:=by kernel_rfl)(he:vr P (ev Γ) (ao ops k)=some (.slice (some ⟨b0,0,none⟩) 0 0,.slice A2 m.length c2,ty,z,sz,bt):=by kernel_rfl)(hf:∀ x,(f x).length=sz:=by intro _;rfl)(hzs:z.cells.size=sz:=by kernel_rfl)(hpos:0<sz:=by decide)(hm:m.length≤1099511627776:=by omega)(hb:m.length*bt≤140737488355328:=by omega):LG P n N R X ops k Γ w:=by
 obtain ⟨A',c',w',h',hrun,_,s'⟩:=s.appE (P:=P) he so hm0 h1 hf hzs hpos hm hb;exact LG.val t _ w' (bv hc).1 (bv hc).2 hrun (H A' c' w' h' s')
end app
section fin
variable {M:Ms} {P:Program} {n:Nat} {N R:Po} {X:Nat→Po} {ops:Array Oper} {k0:Nat} {hr:Hp} {AL:List Al} {L:Array Bool} {Γ:bM} {w:World} {h:Hp} {w0:World} {h0:Hp} {B:List Bx} {Rs:List Rw} {F:List (Hp→Prop)}
end fin
def aW (x:Nat):List Value:=[.int .u32 (x:Nat)]
abbrev S3 (A:Option Addr)(l:List Nat):Hp→Prop:=fun h_=>SlO 1 aW 0 h_ A l
theorem k7:∀ f n:Nat,mT f n=nt 4294967296 f n
  | 0,_=>rfl
  | f+1,n=>by
    unfold mT nt
    split
    · rfl
    · rw[k7 f]
theorem pR (n:Nat):lim n=fx 4294967296 n:=k7 n n
def Ld (l:List Nat):Prop:=Dg 4294967296 l
theorem Ld.lim (n:Nat):Ld (lim n):=fun x hx=>iM n x hx
theorem Ld.get {l:List Nat}(h:Ld l)(k:Nat):l.getD k 0<4294967296:=Dg.getD h kD k
theorem Ld.set {l:List Nat}(h:Ld l)(k:Nat){x:Nat}(hx:x<4294967296):Ld (l.set k x):=Dg.set h k hx
theorem Ld.rep (n:Nat):Ld (List.replicate n 0):=Dg.rep kD
theorem cn (n:Nat):aj 4294967296 (lim n)=n:=by rw[←iW];exact eN n
theorem nZ {l:List Nat}(h:Ld l){n:Nat}(e:aj 4294967296 l=n):lim n=l.take (tl l l.length):=by
 rw[←e,←iW];exact rZ h
theorem jQ {l:List Nat}(h:Ld l){n:Nat}(e:aj 4294967296 l=n):(lim n).length=tl l l.length:=by
 rw[nZ h e,List.length_take];have:=fL l l.length;omega
theorem bW (n:Nat):n<4294967296^(lim n).length:=by rw[pR];exact gX kD n
theorem cG {a b:Nat}(h:a≤b):(lim a).length≤(lim b).length:=dw (Nat.lt_of_le_of_lt h (bW b))
theorem fk {a b k:Nat}(h:a≤b)(hb:(lim b).length≤k):(lim a).length≤k:=Nat.le_trans (cG h) hb
theorem f4 {a b k:Nat}(ha:(lim a).length≤k)(hb:(lim b).length≤k):(lim (a+b)).length≤k+1:=by
 refine dw ?_;have h1:=bW a;have h2:=bW b;have h3:4294967296^(lim a).length≤4294967296^k:=Nat.pow_le_pow_right kD ha;have h4:4294967296^(lim b).length≤4294967296^k:=Nat.pow_le_pow_right kD hb;rw[Nat.pow_succ]
 omega
theorem fg {a b:Nat}:(lim (a*b)).length≤(lim a).length+(lim b).length:=by
 refine dw ?_;rw[Nat.pow_add];exact Nat.mul_lt_mul'' (bW a) (bW b)
theorem qf (n:Nat):(lim n).length≤2*(wds n).length:=by
 refine dw ?_;have:=cF n
 rwa [show (18446744073709551616:Nat)=4294967296^2 by rfl,←Nat.pow_mul] at this
theorem xb (n:Nat):(wds n).length≤(lim n).length:=by
 refine eZ kD ?_;have:=bW n;exact Nat.lt_of_lt_of_le this (Nat.pow_le_pow_left kD _)
theorem fi {a b:Nat}(h:(lim a).length<(lim b).length):a<b:=by
 rcases Nat.lt_or_ge a b with hl|hl
 ·exact hl
 ·have:=cG hl;omega
theorem xM {a b:Nat}(h:lim a=lim b):a=b:=by rw[←eN a,←eN b,h]
theorem fF {a b k:Nat}(hlen:(lim a).length=(lim b).length)(hk:k<(lim a).length)(hd:(lim a).drop (k+1)=(lim b).drop (k+1))(hlt:(lim a).getD k 0<(lim b).getD k 0):a<b:=by
 have ea:=bD 4294967296 (l:=lim a) (k:=k+1) oM;have eb:=bD 4294967296 (l:=lim b) (k:=k+1) oM;rw[cn] at ea eb
 rw[hd] at ea
 have ta:=aN 4294967296 (l:=lim a) (k:=k) hk;have tb:=aN 4294967296 (l:=lim b) (k:=k) oM;have la:=bC (Dg.take (Ld.lim a) k);rw[List.length_take,Nat.min_eq_left oM] at la
 have hm:4294967296^k*(lim a).getD k 0+4294967296^k≤4294967296^k*(lim b).getD k 0:=by
  rw[←Nat.mul_succ];exact Nat.mul_le_mul_left _ hlt
 omega
def RN (h:Hp)(v:Value)(n:Nat):Prop:=FW 1 aW 0 h v (lim n)
def RI (h:Hp)(v:Value)(z:Int):Prop:=∃ A c,v=.agg #[.bool (ac z),.slice A (lim (aa z)).length c]∧(lim (aa z)).length≤c∧SlO 1 aW 0 h A (lim (aa z))
def RP (h:Hp)(v:Value)(z:Int)(n:Nat):Prop:=∃ A c B d,v=.agg #[.bool (ac z),.slice A (lim (aa z)).length c,.slice B (lim n).length d]∧(lim (aa z)).length≤c∧(lim n).length≤d∧SlO 1 aW 0 h A (lim (aa z))∧SlO 1 aW 0 h B (lim n)
def RQ (h:Hp)(v:Value)(q:Rat):Prop:=RP h v q.num q.den
theorem RP.gw {h h':Hp}{v:Value}{z:Int}{n:Nat}(r:RP h v z n)(u:Gw h h'):RP h' v z n:=by
 obtain ⟨A,c,B,d,h1,h2,h3,h4,h5⟩:=r;exact ⟨A,c,B,d,h1,h2,h3,h4.gw u,h5.gw u⟩
theorem RQ.gw {h h':Hp}{v:Value}{q:Rat}(r:RQ h v q)(u:Gw h h'):RQ h' v q:=RP.gw r u
theorem RN.trim {h:Hp}{A:Option Addr}{l:List Nat}{n m cap:Nat}(hd:Ld l)(e:aj 4294967296 l=n)(hm:l.length=m)(hc:m≤cap)(s:SlO 1 aW 0 h A l):RN h (.slice A (tl l m) cap) n:=by
 subst hm;have e1:=jQ hd e;have:=fL l l.length;refine ⟨A,cap,by rw[e1],by omega,?_⟩;rw[nZ hd e];exact s.take _
theorem oN {h:Hp}{p b:Bool}{n cap:Nat}{A:Option Addr}(hb:b=(p && decide (0<n)))(hc:(lim n).length≤cap)(hA:SlO 1 aW 0 h A (lim n)):RI h (.agg #[.bool b,.slice A (lim n).length cap]) (bj p n):=by
 subst hb;refine ⟨A,cap,?_,?_,?_⟩
 ·rw[iw,dy]
 ·rw[dy];exact hc
 ·rw[dy];exact hA
theorem vO {l:List Nat}{m:Nat}(h:0<m)(h0:l.getD (m-1) 0=0):tl l m=tl l (m-1):=by
 obtain ⟨k,rfl⟩:∃ k,m=k+1:=⟨m-1,by omega⟩;rw[jr,if_pos (by simpa using h0)];rfl
theorem sq {b:Nat}{z:List Nat}{i c c' s t X:Nat}(hi:i<z.length)(h0:z.getD i 0=0)(inv:aj b z+b^i*c=X)(e:s+b*c'=c+t):aj b (z.set i s)+b^(i+1)*c'=X+b^i*t:=by
 have h1:=bX b s hi;rw[h0,Nat.mul_zero,Nat.add_zero] at h1
 have e2:=congrArg (b^i * ·) e
 simp only[Nat.mul_add] at e2
 rw[Nat.pow_succ,Nat.mul_assoc,h1]
 omega
theorem p6 {b:Nat}{z:List Nat}{c v:Nat}(inv:aj b z+b^z.length*c=v)(h:v<b^z.length):aj b z=v:=by
 rcases Nat.eq_zero_or_pos c with hc|hc
 ·subst hc;rw[Nat.mul_zero,Nat.add_zero] at inv;exact inv
 ·have:b^z.length*1≤b^z.length*c:=Nat.mul_le_mul_left _ hc
  omega
theorem mN {l:List Nat}{k x:Nat}(hk:k<l.length)(h:∀ i,k≤i→l.getD i 0=0):∀ i,k+1≤i→(l.set k x).getD i 0=0:=fun i hi=>by rw[bp hk,if_neg oM];exact h i oM
theorem t8 {b:Nat}{z:List Nat}{x y c:Nat}(hd:Dg b z)(inv:aj b z+y=x+b^z.length*c)(hyx:y≤x):aj b z=x-y:=by
 have h1:=bC hd
 rcases Nat.eq_zero_or_pos c with hc|hc
 ·subst hc;rw[Nat.mul_zero,Nat.add_zero] at inv;omega
 ·have:b^z.length*1≤b^z.length*c:=Nat.mul_le_mul_left _ hc
  omega
theorem xE {b:Nat}{z y x:List Nat}{i c c' s:Nat}(hi:i<z.length)(h0:z.getD i 0=0)(inv:aj b z+aj b (y.take i)=aj b (x.take i)+b^i*c)(e:s+y.getD i 0+c=x.getD i 0+b*c') :
  aj b (z.set i s)+aj b (y.take (i+1))=aj b (x.take (i+1))+b^(i+1)*c':=by
 have h1:=bX b s hi;rw[h0,Nat.mul_zero,Nat.add_zero] at h1
 have e2:=congrArg (b^i * ·) e
 simp only[Nat.mul_add] at e2
 rw[aJ,aJ,Nat.pow_succ,Nat.mul_assoc,h1]
 omega
theorem uH {x y c t:Nat}(hx:x<4294967296)(hy:y<4294967296)(hc:c≤1)(ht:t=((x+(18446744073709551616-y))%18446744073709551616+(18446744073709551616-c))%18446744073709551616):t%4294967296+y+c=x+4294967296*(t/9223372036854775808)∧t/9223372036854775808≤1:=by
 subst ht
 omega
theorem oh {r x:Nat}(hx:x<4294967296):r*4294967296 ||| x=r*4294967296+x:=by
 have:=Nat.two_pow_add_eq_or_of_lt (i:=32) (b:=x) oM r;rw[Nat.mul_comm];exact this.symm
theorem rD {r x d:Nat}(hd0:0<d)(hr:r<d)(hx:x<4294967296)(hd:d<4294967296) :
  (r*4294967296+x)/d%4294967296=(r*4294967296+x)/d∧r*4294967296+x=d*((r*4294967296+x)/d)+(r*4294967296+x)%d∧(r*4294967296+x)%d<d:=by
 refine ⟨Nat.mod_eq_of_lt ?_,(Nat.div_add_mod _ _).symm,Nat.mod_lt _ hd0⟩;rw[Nat.div_lt_iff_lt_mul hd0];have h1:(r+1)*4294967296≤d*4294967296:=Nat.mul_le_mul_right _ hr;rw[Nat.mul_comm]
 omega
theorem tI {b:Nat}{l z:List Nat}{m d r r' q X:Nat}(hm:0<m)(hl:m-1<z.length)(h0:z.getD (m-1) 0=0)(inv:X=d*aj b z+(b^m*r+aj b (l.take m)))(e:r*b+l.getD (m-1) 0=d*q+r') :
  X=d*aj b (z.set (m-1) q)+(b^(m-1)*r'+aj b (l.take (m-1))):=by
 obtain ⟨k,rfl⟩:∃ k,m=k+1:=⟨m-1,by omega⟩;rw[Nat.add_sub_cancel] at *
 have h1:=bX b q hl;rw[h0,Nat.mul_zero,Nat.add_zero] at h1
 have e2:=congrArg (b^k * ·) e
 simp only[Nat.mul_add] at e2
 rw[inv,h1,aJ,Nat.pow_succ,Nat.mul_add];have e3:b^k*(r*b)=b^k*b*r:=by rw[Nat.mul_comm r b,Nat.mul_assoc]
 have e4:b^k*(d*q)=d*(b^k*q):=by ac_rfl
 rw[e3,e4] at e2
 omega
theorem s8 (k:Nat):(2:Nat)^k=4294967296^(k/32)*2^(k%32):=by
 have:k=32*(k/32)+k%32:=by omega
 conv=>lhs;rw[this,Nat.pow_add,Nat.pow_mul]
theorem E2 {x p c:Nat}(hp:p<32)(hx:x<4294967296)(hc:c<2^p) :
  (c ||| x*2^p%18446744073709551616)=c+x*2^p∧c+x*2^p<18446744073709551616∧(c+x*2^p)/4294967296<2^p:=by
 have h0:2^p≤2^31:=Nat.pow_le_pow_right kD oM;have h1:x*2^p≤4294967295*2^p:=Nat.mul_le_mul_right _ oM;have h2:x*2^p<18446744073709551616:=by omega
 refine ⟨?_,by omega,?_⟩
 ·rw[Nat.mod_eq_of_lt h2];exact fv p hc
 ·rw[Nat.div_lt_iff_lt_mul kD];omega
theorem uQ {b:Nat}{l:List Nat}{i c P Q s x:Nat}{a:List Nat}(hb:0<b)(inv:aj b l+b^l.length*c=b^Q*(P*aj b (a.take i)))(hl:l.length=Q+i)(hs:s=c+x*P)(hx:x=a.getD i 0) :
  aj b (l++[s%b])+b^(l++[s%b]).length*(s/b)=b^Q*(P*aj b (a.take (i+1))):=by
 have e1:b^l.length*s=b^l.length*(s%b)+b^l.length*(b*(s/b)):=by rw[←Nat.mul_add,Nat.mod_add_div]
 have e2:b^l.length*s=b^l.length*c+b^Q*(P*(b^i*x)):=by
  rw[hs,Nat.mul_add,hl,Nat.pow_add]
  congr 1
  ac_rfl
 rw[bJ,List.length_append,aJ,←hx,Nat.mul_add P,Nat.mul_add (b^Q),←inv]
 show _+b^l.length*(s%b+b*0)+b^(l.length+1)*_=_
 rw[Nat.mul_zero,Nat.add_zero,Nat.pow_succ,Nat.mul_assoc]
 omega
theorem Ld.app {l:List Nat}(h:Ld l){x:Nat}(hx:x<4294967296):Ld (l++[x]):=Dg.append h (Dg.one hx)
theorem qM {a n q m p:Nat}(h:a<4294967296^n)(hp:p≤32)(hm:m=q+(n+1)):a*(4294967296^q*2^p)<4294967296^m:=by
 have h1:(2:Nat)^p≤4294967296:=Nat.le_trans (Nat.pow_le_pow_right kD hp) (Nat.le_refl (2^32));subst hm;rw[Nat.pow_add,Nat.pow_succ];have h2:a*2^p<4294967296^n*4294967296:=Nat.lt_of_lt_of_le (Nat.mul_lt_mul_of_pos_right h (Nat.two_pow_pos p)) (Nat.mul_le_mul_left _ h1);have e:a*(4294967296^q*2^p)=4294967296^q*(a*2^p):=by ac_rfl
 rw[e];exact Nat.mul_lt_mul_of_pos_left h2 (Nat.pow_pos kD)
theorem EI {x y p:Nat}(hp:p<32)(hx:x<4294967296)(hy:y<4294967296) :
  (x ||| y*4294967296%18446744073709551616)=x+y*4294967296∧x+y*4294967296<18446744073709551616 ∧
  2^p*((x+y*4294967296)/2^p%4294967296)+x%2^p=x+4294967296*(y%2^p):=by
 have h0:2^p*2^(32-p)=4294967296:=by rw[←Nat.pow_add,show p+(32-p)=32 by omega]
 have hpp:=Nat.two_pow_pos p;refine ⟨?_,by omega,?_⟩
 ·rw[Nat.mod_eq_of_lt oM]
  exact fv 32 oM
 ·-- y=2^p*y1+y0
  have hy1:=Nat.div_add_mod y (2^p);have hx1:=Nat.div_add_mod x (2^p)
  generalize y/2^p=y1 at *
  generalize hy0:y%2^p=y0 at *
  generalize hxq:x/2^p=x1 at *
  generalize hx0:x%2^p=x0 at *
  have hx0l:x0<2^p:=by rw[←hx0];exact Nat.mod_lt _ hpp
  have hy0l:y0<2^p:=by rw[←hy0];exact Nat.mod_lt _ hpp
  have hx1l:x1<2^(32-p):=by
   refine Nat.lt_of_mul_lt_mul_left (a:=2^p) ?_
   omega
  have e:x+y*4294967296=2^p*(x1+2^(32-p)*(2^p*y1+y0))+x0:=by
   rw[←hx1,←hy1,Nat.mul_add,←Nat.mul_assoc (2^p) (2^(32-p)),h0]
   generalize 2^p*y1+y0=Y
   omega
  rw[e,Nat.mul_add_div hpp,Nat.div_eq_of_lt hx0l,Nat.add_zero]
  have e2:x1+2^(32-p)*(2^p*y1+y0)=(x1+2^(32-p)*y0)+4294967296*y1:=by
   rw[Nat.mul_add,←Nat.mul_assoc,Nat.mul_comm (2^(32-p)) (2^p),h0];omega
  have h3:2^(32-p)*y0+2^(32-p)≤4294967296:=by
   have:2^(32-p)*(y0+1)≤2^(32-p)*2^p:=Nat.mul_le_mul_left _ hy0l;rw[Nat.mul_comm (2^(32-p)) (2^p),h0,Nat.mul_add] at this
   omega
  rw[e2,Nat.add_mul_mod_self_left,Nat.mod_eq_of_lt oM,Nat.mul_add,←Nat.mul_assoc,h0]
  omega
theorem BO {b:Nat}{l X:List Nat}{j P d r0:Nat}(hl:l.length=j)(inv:P*aj b l+r0=aj b (X.take j)+b^j*(X.getD j 0%P))(hd:P*d+X.getD j 0%P=X.getD j 0+b*(X.getD (j+1) 0%P)) :
  P*aj b (l++[d])+r0=aj b (X.take (j+1))+b^(j+1)*(X.getD (j+1) 0%P):=by
 have e1:aj b (l++[d])=aj b l+b^j*d:=by
  rw[bJ,hl];show _+b^j*(d+b*0)=_;rw[Nat.mul_zero,Nat.add_zero]
 have e4:=congrArg (b^j * ·) hd
 simp only[Nat.mul_add] at e4
 rw[e1,aJ,Nat.pow_succ,Nat.mul_add];have e5:P*(b^j*d)=b^j*(P*d):=by ac_rfl
 have e6:b^j*b*(X.getD (j+1) 0%P)=b^j*(b*(X.getD (j+1) 0%P)):=by ac_rfl
 rw[e5,e6]
 omega
theorem Cr {a k:Nat}{l:List Nat}(hl:(lim a).length≤k/32+l.length)(inv:2^(k%32)*aj 4294967296 l+((lim a).drop (k/32)).getD 0 0%2^(k%32)=aj 4294967296 (((lim a).drop (k/32)).take l.length)+4294967296^l.length*(((lim a).drop (k/32)).getD l.length 0%2^(k%32))):aj 4294967296 l=a/2^k:=by
 have hx:((lim a).drop (k/32)).length≤l.length:=by rw[List.length_drop];omega
 rw[List.take_of_length_le hx,bA hx,Nat.zero_mod,Nat.mul_zero,Nat.add_zero] at inv
 have hX:aj 4294967296 ((lim a).drop (k/32))=a/4294967296^(k/32):=by
  rcases Nat.lt_or_ge (lim a).length (k/32) with h|h
  ·rw[List.drop_eq_nil_of_le oM,Nat.div_eq_of_lt]
   ·rfl
   ·exact Nat.lt_of_lt_of_le (bW a) (Nat.pow_le_pow_right kD oM)
  ·have e:=bD 4294967296 (l:=lim a) (k:=k/32) h
   rw[cn] at e
   have h1:=bC (Dg.take (Ld.lim a) (k/32));rw[List.length_take,Nat.min_eq_left h] at h1
   have h2:a/4294967296^(k/32)=(aj 4294967296 ((lim a).take (k/32))+4294967296^(k/32)*aj 4294967296 ((lim a).drop (k/32)))/4294967296^(k/32):=by rw[←e]
   rw[h2,Nat.add_mul_div_left _ _ (Nat.pow_pos kD),Nat.div_eq_of_lt h1,Nat.zero_add]
 rw[s8 k,←Nat.div_div_eq_div_mul,←hX,←inv,Nat.mul_add_div (Nat.two_pow_pos _),Nat.div_eq_of_lt (Nat.mod_lt _ (Nat.two_pow_pos _)),Nat.add_zero]
section bld
variable {P:Program} {n:Nat} {N R:Po} {X:Nat→Po} {ops:Array Oper} {k:Nat} {Γ:bM} {w0:World} {h0:Hp} {B:List Bx} {Rs:List Rw} {F:List (Hp→Prop)} {wB:World} {hB:Hp}
theorem SS.liftJ (s:SS w0 h0 wB hB B Rs F){w:World}(x:Ext wB w):∃ h',SS w0 h0 w h' B Rs F∧∀ b,wB.heap.size≤b→b<w.heap.size→h'[b]?=some junk:=by
 have hs:=x.size;have e0:=s.g.size;refine ⟨hB++Array.replicate (w.heap.size-wB.heap.size) junk,s.step ⟨x,⟨by simp,fun b hb=>Array.getElem?_append_left hb⟩,⟨by simp;omega,fun b=>?_⟩⟩,fun b h1 h2=>?_⟩
 ·rcases Nat.lt_or_ge b hB.size with hb|hb
  ·rw[Array.getElem?_append_left hb]
   have e:=Below.block x b oM
   rcases s.g.blk b with h1|h1
   ·exact .inl (h1.trans e.symm)
   ·exact .inr h1
  ·rw[Array.getElem?_append_right hb,Array.getElem?_replicate]
   by_cases hl:b<w.heap.size
   ·right;rw[if_pos oM]
   ·left;rw[if_neg oM,Array.getElem?_eq_none oM]
 ·rw[Array.getElem?_append_right oM,Array.getElem?_replicate,if_pos oM]
theorem Gx (t:Nat)(ty:TypeId)(vs:List Value){w:World}{h:Hp}(s:SS w0 h0 w h B Rs F)(H:∀ w',Ext w w'→w.heap.size≤w'.heap.size→w'.heap[w.heap.size]?=some (.cells vs.toArray ty (0,0))→LG P n N R X ops (k+1) ((t,.pointer (some ⟨w.heap.size,0,none⟩))::Γ) w')(hc:cL ops Γ k t n=true:=by kernel_rfl)
  (hr:(execOp (ev Γ) (ao ops k)).run P w=.ok (.value (.pointer (some ⟨w.heap.size,0,none⟩))) (w.alloc (.cells vs.toArray ty (0,0))):=by kernel_rfl):LG P n N R X ops k Γ w :=
 LG.val t _ (w.alloc (.cells vs.toArray ty (0,0))) (bv hc).1 (bv hc).2 hr (H _ ((Ext.refl _).alloc _) (by rw[cD];simp) (by rw[cD];simp))
theorem Fp (t:Nat){f:FuncId}{args:Array Value}{V:Value}{Q:World→Prop}{w:World}(s:SS w0 h0 wB hB B Rs F)(x:Ext wB w)(c:Calls P f args w fun e w'=>e=.returned V∧(Q w'∧Below wB.heap.size w w'))(H:∀ w' h',SS w0 h0 w' h' B Rs F→Ext wB w'→Q w'→LG P n N R X ops (k+1) ((t,V)::Γ) w')(hc:cL ops Γ k t n=true:=by kernel_rfl)
  (hr:(execOp (ev Γ) (ao ops k)).run P w=.ok (.enter f args) w:=by kernel_rfl):LG P n N R X ops k Γ w :=
 LG.call t f args (bv hc).1 (bv hc).2 hr (c.mono fun e w' ⟨he,q,b⟩=>by
  have x':Ext wB w':=Below.trans x b;obtain ⟨h',s',_⟩:=s.liftJ x';exact ⟨V,he,H w' h' s' x' q⟩)
def vS (a b:Nat):List Nat:=(List.range b).filter (fun c=>decide (a≤c))
theorem jU {a b c:Nat}:c∈vS a b↔a≤c∧c<b:=by
 unfold vS;rw[List.mem_filter,List.mem_range];simp;omega
theorem A.takeK {M:Ms}{Q:Exit→Act→World→Prop}{k0:Nat}{L:Array Bool}{a:Act}{w:World}{i:Nat}{o:Oper}{v:Value}{S:World→Prop}
  (hi:ops[i]?=some o)(hk:i<k0)(hsel:Region.noSelect ops=true)(hf:Region.free .any ops L i=true)(hr:i∈Region.ready .any ops L)(hQ:∀ c a w,¬Q (.panic c) a w)
  (hcl:∀ w w',S w→Mo M.l w w'→S w')(hS:S w)(hy:YieldsIf P ops S o v a)
  (htail:(∀ w,S w)∨(∀ w w',S w→Tl M w w'→S w')∨∀ j oj,ops[j]?=some oj→k0≤j→j≠i→∃ e∈oj.after,Region.binds .any e=true∧e.on=i)
  (H:A M P ops Q k0 (L.setIfInBounds i true) (a.put o.dst v) w):A M P ops Q k0 L a w:=by
 unfold A at *
 rw[dP hr]
 exact jR hi (Region.noSelect_spec hsel) (fun c a w hq=>absurd hq (hQ _ _ _)) hcl _ _ _ _
  (fun j oj hj hji hun=>Region.free_spec hi hf j oj hj hji hun) htail hr hy hS H hk
variable {M:Ms} {k0:Nat} {L:Array Bool} {w:World}
theorem aV (i t:Nat)(v:Value)(H:AG M P n N R X ops k0 (L.setIfInBounds i true) ((t,v)::Γ) w)(hc:cE n ops k0 [] L Γ i t=true:=by kernel_rfl)(hv:∀ w,(execOp (ev Γ) (ao ops i)).run P w=.ok (.value v) w:=by intro _;kernel_rfl):AG M P n N R X ops k0 L Γ w:=by
 obtain ⟨hc1,hw⟩:=iO hc;rw[Bool.and_eq_true] at hc1
 have c:=cH hc1.1;intro a ka;have e1:=ka.exec (Region.noSelect_spec c.sel i _ · · c.get) hc1.2;refine A.takeK (v:=v) (S:=fun _=>True) c.get c.lt c.sel c.free c.ready (fun _ _ _ hq=>hq) (fun _ _ _ _=>trivial) trivial (.inl ⟨ka.want hw,fun w _=>by rw[e1];exact hv w⟩) (.inl fun _=>trivial) ?_;rw[c.dst];exact H _ (ka.put c.tn v)
theorem aL (i t:Nat)(v:Value)(hr:∀ w',Mo M.l w w'→(execOp (ev Γ) (ao ops i)).run P w'=.ok (.value v) w')(H:AG M P n N R X ops k0 (L.setIfInBounds i true) ((t,v)::Γ) w)(hc:vG n ops k0 [] L Γ i t=true:=by kernel_rfl):AG M P n N R X ops k0 L Γ w:=by
 obtain ⟨hc1,hw⟩:=gj hc;rw[Bool.and_eq_true,Bool.and_eq_true] at hc1
 obtain ⟨⟨hc2,hkn⟩,htl⟩:=hc1;have c:=cH hc2;intro a ka;have e1:=ka.exec (Region.noSelect_spec c.sel i _ · · c.get) hkn;refine A.takeK (v:=v) (S:=fun w'=>Mo M.l w w') c.get c.lt c.sel c.free c.ready (fun _ _ _ hq=>hq) (fun _ _ h1 h2=>h1.trans h2) (Mo.refl _ _) (.inl ⟨ka.want hw,fun w' hx=>by rw[e1];exact hr w' hx⟩) (.inr (.inr (hC htl))) ?_;rw[c.dst];exact H _ (ka.put c.tn v)
theorem aH (i t:Nat)(v:Value){h:Hp}{b o:Nat}{cs:List Value}(s:SS w0 h0 w h B Rs F)(sg:Seg h b o cs)(H:AG M P n N R X ops k0 (L.setIfInBounds i true) ((t,v)::Γ) w)(hM:∀ b∈M.l,h[b]?=some junk)(hc:vG n ops k0 [] L Γ i t=true:=by kernel_rfl)(he:bF P (execOp (ev Γ) (ao ops i)) cs=some (.value v,jB b o cs.length):=by kernel_rfl):AG M P n N R X ops k0 L Γ w :=
 aL i t v (fun _ hx=>Seg.runM sg s.g hM hx he) H hc
def E9 (ops:Array Oper)(k0:Nat)(L:Array Bool)(i:Nat):Bool:=decide (i<ops.size) && decide (i<k0) && Region.noSelect ops && (Region.ready .any ops L == [i])
theorem aC (i t:Nat){f:FuncId}{args:Array Value}(c:Calls P f args w fun e w'=>∃ v,e=.returned v∧Mo M.l w w'∧AG M P n N R X ops k0 (L.setIfInBounds i true) ((t,v)::Γ) w')(hc:(E9 ops k0 L i && a7 Γ (ao ops i) && ((ao ops i).dst == some t) && decide (t<n))=true:=by kernel_rfl)(hw:bg ops Γ (ao ops i)=some true:=by kernel_rfl)
  (hr:(execOp (ev Γ) (ao ops i)).run P w=.ok (.enter f args) w:=by kernel_rfl):AG M P n N R X ops k0 L Γ w:=by
 simp only[Bool.and_eq_true,decide_eq_true_eq,beq_iff_eq] at hc
 obtain ⟨⟨⟨h1,h2⟩,h3⟩,h4⟩:=hc
 unfold E9 at h1
 simp only[Bool.and_eq_true,decide_eq_true_eq,beq_iff_eq] at h1
 have hg:=bE (ops:=ops) h1.1.1.1;intro a ka;refine A.intro (fun h0=>by rw[h1.2] at h0;cases h0) (fun j hj=>?_);rw[h1.2,List.mem_singleton] at hj
 subst hj;refine OpR.wpOp (R:=fun v w'=>Mo M.l w w'∧AG M P n N R X ops k0 (L.setIfInBounds j true) ((t,v)::Γ) w') hg ⟨ka.want hw,.inr (.inr ⟨f,args,?_,c⟩)⟩ (fun v w' hq=>⟨Rl.mo h1.1.1.2 hq.1,?_⟩)
 ·rw[ka.exec (Region.noSelect_spec h1.1.2 j _ · · hg) h2];exact hr
 ·rw[h3];exact hq.2 _ (ka.put h4 v)
theorem sb {id:Nat}(M:Ms)(k0:Nat)(hm:P.follows .mixedOrders=true)(H:AG M P n N R X ops k0 (Array.replicate ops.size false) Γ w.drew):CG P n N R X (.region id ops true) Γ w:=by
 intro a ka;refine wp_region_any hm ?_;have h1:=H a ka
 unfold A at h1
 rw[gK] at h1
 exact kg _ _ _ _ _ _ _ _ _ h1
theorem SS.drew {h:Hp}(s:SS w0 h0 w h B Rs F):SS w0 h0 w.drew h B Rs F:=s.step (Up.drew (Up.refl s.g))
theorem uq {K:Nat}{w w':World}(x:Below K w w'):Mo (vS K w.heap.size) w w':=⟨x.os,x.tape,x.output,x.size,fun c hc hn=>by
 rcases Nat.lt_or_ge c K with h|h
 ·exact Below.block x c h
 ·exact absurd (jU.2 ⟨h,hc⟩) hn⟩
theorem oG {K:Nat}{T e:TypeId}{b:Nat}{bs:List Value}{w w1:World}(h:Lib.IsBuilder T e K b bs w)(x:Ext w w1):Lib.IsBuilder T e K b bs w1:=by
 have key:∀ p,Lib.BuilderAt T e K b p bs w→Lib.BuilderAt T e K b p bs w1:=by
  rintro p ⟨h1,v,h2,h3,h4⟩
  have hlt:b<w.heap.size:=by
   rcases Nat.lt_or_ge b w.heap.size with h'|h'
   ·exact h'
   ·rw[Array.getElem?_eq_none h'] at h2;cases h2
  exact ⟨h1,v,(Below.block x b hlt).trans h2,eu h3 (fun c hc=>Below.block x c (iQ h3 hc)),h4⟩
 rcases h with h|h
 ·exact .inl (key _ h)
 ·exact .inr (key _ h)
theorem aX (i t:Nat)(A:Option Addr)(len cap sz:Nat)(x:Int)(j:Nat)(hA:A=some ⟨aB A,aO A,none⟩)(H:AG M P n N R X ops k0 (L.setIfInBounds i true) ((t,.pointer (some ⟨aB A,aO A+j*sz,none⟩))::Γ) w)(hc:cE n ops k0 [] L Γ i t=true:=by kernel_rfl)(he:Au P (ev Γ) (ao ops i)=some (.slice A len cap,.int .i64 x,sz):=by kernel_rfl)(hk:x=j:=by omega)(hlt:j<len:=by omega):AG M P n N R X ops k0 L Γ w :=
 aV i t _ H hc (fun w=>fK he hA hk hlt w)
theorem nY {P:List UInt8}{x m:Nat}(hm:m<8):Lib.byteCells (P++(b8 x).take m)++[.int .u8 ((x/2^(8*m)%256:Nat):Int)]=Lib.byteCells (P++(b8 x).take (m+1)):=by
 have e:(b8 x).take (m+1)=(b8 x).take m++[UInt8.ofNat (x/256^m)]:=by
  rw[List.take_add_one]
  congr 1
  unfold b8
  rw[List.getElem?_map,List.getElem?_range hm];rfl
 rw[e,←List.append_assoc]
 unfold Lib.byteCells
 rw[List.map_append (l₁:=P++_)]
 congr 1
 show _=[Value.int .u8 ((x/256^m%256:Nat):Int)]
 rw[Nat.pow_mul]
theorem ru {l:List Nat}{k:Nat}(hk:k<l.length):((l.take k).flatMap b8)++(b8 (l.getD k 0)).take 8=(l.take (k+1)).flatMap b8:=by
 have e:(b8 (l.getD k 0)).take 8=b8 (l.getD k 0):=List.take_of_length_le (by rw[iZ];omega);rw[gd hk,List.flatMap_append,e];simp
theorem rx {l:List Nat}{k m x:Nat}(hk:k≤l.length)(hm:m≤8)(hl:l.length≤1099511627776):(Lib.byteCells ((l.take k).flatMap b8++(b8 x).take m)).length+1≤140737488355328:=by
 rw[Lib.byteCells_length,List.length_append,kW,List.length_take,List.length_take,iZ];omega
theorem vR {l:List Nat}(h:tl l l.length=0):Value.agg #[.int .u64 0,.string ⟨#[]⟩]=nv (aA l):=by
 have e:=iE 18446744073709551616 l l.length (Nat.le_refl _);rw[h,List.take_length] at e
 have:aA l=0:=e.symm;rw[this];rfl
theorem By {l:List Nat}(hd:Wd l)(h:tl l l.length=1):Value.agg #[.int .u64 (l.getD 0 0:Nat),.string ⟨#[]⟩]=nv (aA l):=by
 have e:=iE 18446744073709551616 l l.length (Nat.le_refl _);have hle:=fL l l.length;rw[h,List.take_length,aJ] at e
 have e2:aA l=l.getD 0 0:=by show aj _ l=_;rw[←e];simp[aj]
 rw[e2];have:=hd.get 0
 unfold nv
 rw[ii this,kj this]
theorem vX {l:List Nat}(hd:Wd l)(h:0<tl l l.length):Value.agg #[.int .u64 (l.getD 0 0:Nat),.string ⟨(((l.drop 1).take (tl l l.length-1)).flatMap b8).toArray⟩]=nv (aA l):=by
 have e:=ma hd;have e1:((l.drop 1).take (tl l l.length-1))=(wds (aA l)).drop 1:=by rw[e,List.drop_take]
 unfold nv
 rw[Ej (n:=aA l) (by rw[e1]),oL,e,gR h]
end bld
section
variable {P:Program} {Γ:bM} {o:Oper}
theorem cv {f:FuncId}{args:Array Value}{v:Value}{w:World}(h:(execOp (ev Γ) o).run P w=(callFunc f args).run P w)(k:(callFunc f args).run P w=.ok (.value v) w):(execOp (ev Γ) o).run P w=.ok (.value v) w:=h.trans k
end
theorem cA (x y c:Nat)(hx:x<18446744073709551616)(hy:y<18446744073709551616)(hc:c≤1):∃ s c':Nat,s+18446744073709551616*c'=x+y+c∧s<18446744073709551616∧c'≤1∧∀ w,(callFunc 194 #[.int .u64 x,.int .u64 y,.int .u64 c]).run Tryz.prog w=.ok (.value (.tuple #[.int .u64 s,.int .u64 c'])) w:=by
 refine ⟨(x+y+c)%18446744073709551616,(x+y+c)/18446744073709551616,by omega,by omega,by omega,fun w=>?_⟩;rw[run_callFunc_extern Tryz.func194 kR kR kR (e:=add64Entry) kR,run_add64 x y c oM oM oM oM]
 simp only[Result.andThen]
 congr 5<;>omega
theorem gW (x y b:Nat)(hx:x<18446744073709551616)(hy:y<18446744073709551616)(hb:b≤1):∃ s b':Nat,s+y+b=x+18446744073709551616*b'∧s<18446744073709551616∧b'≤1∧∀ w,(callFunc 195 #[.int .u64 x,.int .u64 y,.int .u64 b]).run Tryz.prog w=.ok (.value (.tuple #[.int .u64 s,.int .u64 b'])) w:=by
 refine ⟨(x+18446744073709551616-y-b)%18446744073709551616,if x<y+b then 1 else 0,by split<;>omega,by omega,by split<;>omega,fun w=>?_⟩;rw[run_callFunc_extern Tryz.func195 kR kR kR (e:=sub64Entry) kR,run_sub64 x y b hb]
 rfl
theorem Ret.of_same {f:FuncId}{args:Array Value}{V:Value}{P:Program}{w:World}{h:Hp}(g:G w h)(c:Calls P f args w fun e w'=>e=.returned V∧w'=w):Calls P f args w (Ret w h fun v _=>v=V) :=
 c.mono fun e w' ⟨he,hw⟩=>by subst hw;exact ⟨V,h,he,Up.refl g,rfl⟩
theorem j9 (x y:Nat)(hx:x<18446744073709551616)(hy:y<18446744073709551616)(w:World)(h:Hp)(g:G w h):CR 169 #[uV x,uV y] w h (fun v _=>∃ hi lo:Nat,v=.tuple #[uV hi,uV lo]∧lo+18446744073709551616*hi=x*y∧lo<18446744073709551616∧hi<18446744073709551616∧hi≤18446744073709551614):=by
 refine (Ret.of_same g (Tryz.bits_Mul64 x y hx hy w)).mono ?_;rintro e w' ⟨v,h',he,u,rfl⟩;have h1:x*y≤18446744073709551615*18446744073709551615:=Nat.mul_le_mul oM oM;exact ⟨_,h',he,u,x*y/18446744073709551616,x*y%18446744073709551616,rfl,by omega,by omega,by omega,by omega⟩
theorem lg {n:Nat}(h:n<18446744073709551616):Lib.bitLen n=nb n:=by
 rcases Nat.eq_zero_or_pos n with h0|h0
 ·subst h0;rfl
 ·obtain ⟨s1,s2,s3⟩:=bU h0
  have hle:nb n≤64:=i6 (k:=64) h;have:=Lib.bitLen_shift (nb n-1) n s1 h
  have h1:n/2^(nb n-1)=1:=by
   have:n<2^(nb n-1)*2:=by rw[←Nat.pow_succ];rwa [show (nb n-1).succ=nb n by omega]
   refine Nat.div_eq_of_lt_le oM oM
  rw[h1] at this
  have e1:Lib.bitLen 1=1:=by decide
  omega
theorem ud (x:Nat)(hx:x<18446744073709551616)(w:World)(h:Hp)(g:G w h):CV 121 #[uV x] w h (nV (nb x)):=by
 have:=Ret.of_same g (Tryz.bits_Len64 x w oM oM);rw[Int.toNat_natCast,lg hx] at this
 exact this
theorem AN (x:Nat)(hx:x<18446744073709551616)(w:World)(h:Hp)(g:G w h):CV 213 #[uV x] w h (nV (64-nb x)):=by
 have:=Ret.of_same g (Tryz.bits_LeadingZeros64 x w oM oM);have hle:nb x≤64:=i6 (k:=64) hx;rw[Int.toNat_natCast,lg hx,show (64:Int)-(nb x:Nat)=((64-nb x:Nat):Int) by omega] at this
 exact this
theorem fy {a b:Nat}(ha:a<18446744073709551616)(hb:b<18446744073709551616):a*b≤340282366920938463426481119284349108225:=by
 have h1:a≤18446744073709551615:=by omega
 have h2:b≤18446744073709551615:=by omega
 exact Nat.mul_le_mul h1 h2
theorem gL (A:Option Addr)(c:Nat)(l:List Nat)(m:Nat)(hm:l.length=m)(hl:l.length≤1099511627776)(hc:l.length≤c)(w:World)(h:Hp)(g:G w h)(hA:S3 A l h):CV 61 #[.slice A m c] w h (.slice A (tl l m) c):=by
 have hs:=((sS g).aS hA);refine go Tryz.func61 [(0,qS A m c)] rfl (ab hs [.v 2 (sZ)] (aG (lL hs [.m 4 0,.v 5 (nV m),.m 3 5] (ah (kZ ?_)))));refine bI _ (CG.loop (fun μ_ Γ w_=>∃ (n:Nat) (h_:Hp),μ_=n∧Γ=[(0,qS A m c),(2,sZ),(3,nV n)]∧SS w h w_ h_ [] [] [S3 A l]∧n≤m∧tl l m=tl l n) _ ⟨m,h,rfl,rfl,hs.to _ _,nR _,rfl⟩ ?_);rintro _ _ w1 ⟨n,h2,hm3,rfl,hs,hn,ht⟩;refine cQ (ab hs [.m 6 3] ?_);cases hb4:(decide ((0:Int)<(n:Int)))
 ·
  have phb4:=oF hb4;refine lB 7 hb4 (lL hs [.m 8 7] (lG 9 ?_));refine lG 10 (lG 11 (lG 12 (lG 13 (lG 14 (lL hs [.v 15 qF] (ag (CG.exit ?_)))))))
  show CG _ _ _ _ _ _ _ _
  refine ab hs [.m 18 0,.m 19 3] (lT 20 A m c 1 (n:Nat) n ?_);exact lL hs [.m 2 20] (ae hs [] (qS A n c) (by rw[ht,kY oM]))
 have phb4:=oT hb4;refine lB 7 hb4 (lL hs [.m 8 7,.m 9 0,.m 10 3] (bn 11 ((n:Nat)-1) (n-1) ?_));refine lX 12 A m c 1 (n-1:Nat) (n-1) ((hs.f.1).ok oM) (lH 13 (mW (l.getD (n-1) 0)) hs ((hs.f.1).el (n-1) oM) ?_);cases hb5:(((l.getD (n-1) 0:Nat):Int) == (0:Int))
 ·
  have phb5:=af hb5;refine lB 14 hb5 (lL hs [.v 15 qF] (ag (CG.exit ?_)))
  show CG _ _ _ _ _ _ _ _
  refine ab hs [.m 18 0,.m 19 3] (lT 20 A m c 1 (n:Nat) n ?_);exact lL hs [.m 2 20] (ae hs [] (qS A n c) (by rw[ht,kY oM]))
 have phb5:=eq_of_beq hb5;refine lB 14 hb5 (lL hs [.v 15 qT] (ak (cK (kZ (kQ (lL hs [.m 16 3] (bn 17 ((n:Nat)-1) (n-1) ?_)))))));refine lL hs [.m 3 17] (lD ?_);intro a_ ka;refine ⟨_,_,?_,⟨n-1,h2,rfl,rfl,hs.to _ _,oM,(by rw[ht];exact vO oM oM)⟩,ka.to _ kR⟩
 omega
theorem rE {h:Hp}{A:Option Addr}{n cap:Nat}(hn:n<18446744073709551616)(hc:2≤cap)(s:SlO 1 aW 0 h A [n%4294967296,n/4294967296]):RN h (.slice A (tl [n%4294967296,n/4294967296] 2) cap) n :=
 RN.trim (Dg.cons oM (Dg.one oM)) (by simp only[aj];omega) rfl hc s
theorem lw (n:Nat)(hn:n<18446744073709551616)(w:World)(h:Hp)(g:G w h):CR 30 #[mV n] w h (fun v h=>RN h v n):=by
 have hs:=sS g;refine go Tryz.func30 [(0,mV n)] rfl (ab hs [.v 2 (sZ)] (aG (lL hs [.m 3 0] (lV 4 (mW (n%4294967296)) ?_ (hr:=rT ((n:Int)) kR (fu _))))));refine lL hs [.m 5 0] (lV 6 (mV (n/4294967296)) ?_ (hr:=aI (n:=Int.fdiv (n:Int) 4294967296) kR (dm _ 4294967296)));refine lV 7 (mW (n/4294967296)) ?_ (hr:=rT (((n/4294967296:Nat):Int)) kR (lj oM oM));refine lR 8 128 2 ([mW (n%4294967296),mW (n/4294967296)]) hs (fun b1 w2 h3 hs=>?_);replace hs:=hs.aS (SlO.of_flat (sz:=1) (f:=aW) (d:=0) (l:=[(n%4294967296),(n/4294967296)]) (fun _=>rfl) hs.f.1);exact ai 9 hs (gL (sB b1) 2 ([(n%4294967296),(n/4294967296)]) 2 (by first|rfl|omega|assumption) (by simp) (by simp) _ _ hs.g hs.f.1) (fun w6 h7 hs=>lL hs [.m 2 9] (ae hs [] (qS (sB b1) (tl ([(n%4294967296),(n/4294967296)]) 2) 2) (rE hn oM hs.f.1)))
theorem FY (n:Nat)(A:Option Addr)(cap:Nat)(hc:(lim n).length≤cap)(w:World)(h:Hp)(g:G w h)(hA:S3 A (lim n) h):CR 60 #[.bool false,.slice A ((lim n).length) cap] w h (fun v h=>RI h v (bj false n)):=by
 have hs:=((sS g).aS hA);refine go Tryz.func60 [(0,qF),(1,qS A ((lim n).length) cap)] rfl (av (lA 4 26 ([qF,sZ]) hs (fun b1 w2 h3 hs=>aG (lL hs [.m 5 0,.m 6 5] (lG 7 ?_)))));exact lG 8 (lG 9 (lL hs [.v 10 qF,.m 11 1,.v 12 (.agg #[qF,qS A ((lim n).length) cap])] (lP 0 0 ([qF,qS A ((lim n).length) cap]) hs (fun w4 hs=>ae hs [(0,0,2)] (.agg #[qF,qS A ((lim n).length) cap]) (oN rfl hc hs.f.1)))))
theorem F3 (n:Nat)(A:Option Addr)(cap:Nat)(hc:(lim n).length≤cap)(w:World)(h:Hp)(g:G w h)(hA:S3 A (lim n) h):CR 60 #[.bool true,.slice A ((lim n).length) cap] w h (fun v h=>RI h v (bj true n)):=by
 have hs:=((sS g).aS hA);have hp:=@bG n;refine go Tryz.func60 [(0,qT),(1,qS A ((lim n).length) cap)] rfl (av (lA 4 26 ([qF,sZ]) hs (fun b1 w2 h3 hs=>aG (lL hs [.m 5 0,.m 6 5,.m 7 1,.v 8 (nV ((lim n).length))] ?_))));cases hb4:(decide ((0:Int)<(((lim n).length:Nat):Int)))
 ·
  have phb4:=oF hb4;exact lB 9 hb4 (lL hs [.v 10 qF,.m 11 1,.v 12 (.agg #[qF,qS A ((lim n).length) cap])] (lP 0 0 ([qF,qS A ((lim n).length) cap]) hs (fun w5 hs=>ae hs [(0,0,2)] (.agg #[qF,qS A ((lim n).length) cap]) (oN (by simp only[Bool.true_and];first|(symm;exact decide_eq_true oM)|(symm;exact decide_eq_false oM)) hc hs.f.1))))
 have phb4:=oT hb4;exact lB 9 hb4 (lL hs [.v 10 qT,.m 11 1,.v 12 (.agg #[qT,qS A ((lim n).length) cap])] (lP 0 0 ([qT,qS A ((lim n).length) cap]) hs (fun w6 hs=>ae hs [(0,0,2)] (.agg #[qT,qS A ((lim n).length) cap]) (oN (by simp only[Bool.true_and];first|(symm;exact decide_eq_true oM)|(symm;exact decide_eq_false oM)) hc hs.f.1))))
theorem rI (p:Bool)(n:Nat)(A:Option Addr)(cap:Nat)(hc:(lim n).length≤cap)(w:World)(h:Hp)(g:G w h)(hA:S3 A (lim n) h):CR 60 #[.bool p,.slice A (lim n).length cap] w h (fun v h=>RI h v (bj p n)):=by
 cases p
 ·exact FY n A cap hc w h g hA
 ·exact F3 n A cap hc w h g hA
theorem oI (z:Int)(h0:z<0)(h1 : -9223372036854775808≤z)(w:World)(h:Hp)(g:G w h):CR 29 #[iV z] w h (fun v h=>RI h v (bj true (aa z))):=by
 have hs:=sS g;have hi:aa z≤9223372036854775808:=by unfold aa;omega
 refine go Tryz.func29 [(0,iV z)] rfl (av (lA 2 26 ([qF,sZ]) hs (fun b1 w2 h3 hs=>ah (ab hs [.m 3 0] ?_))));have ⟨hb4,phb4⟩:=dT (p:=(z:Int)<(0:Int)) oM;refine lB 4 hb4 (ak (ab hs [.m 5 0] (lV 6 (mV (18446744073709551616-aa z)) ?_ (hr:=rU (z) kR (by rw[IntKind.wrap_u64];unfold aa;omega)))));refine lV 7 (mV (aa z)) ?_ (hr:=rU ((0-((18446744073709551616-aa z:Nat):Int))) kR (by rw[IntKind.wrap_u64];omega));refine lC 8 hs (lw (aa z) oM _ _ hs.g) ?_;rintro _ w9 _ hs ⟨A5,c6,rfl,hc7,hA8⟩;replace hs:=hs.aS hA8;refine lC 9 hs (rI true (aa z) A5 c6 hc7 _ _ hs.g hs.f.1) ?_;rintro _ _ _ hs ⟨za,zb,rfl,zc,zd⟩;replace hs:=hs.aS zd;exact lP 0 0 ([.bool (ac (bj true (aa z))),qS za ((lim (aa (bj true (aa z)))).length) zb]) hs (fun _ hs=>ae hs [(0,0,2)] (.agg #[.bool (ac (bj true (aa z))),qS za ((lim (aa (bj true (aa z)))).length) zb]) (⟨_,_,rfl,zc,hs.f.1⟩))
theorem n4 (z:Nat)(h1:z<9223372036854775808)(w:World)(h:Hp)(g:G w h):CR 29 #[nV z] w h (fun v h=>RI h v (bj false z)):=by
 have hs:=sS g;refine go Tryz.func29 [(0,nV z)] rfl (av (lA 2 26 ([qF,sZ]) hs (fun b1 w2 h3 hs=>ah (ab hs [.m 3 0] ?_))));have ⟨hb4,phb4⟩:=dF (p:=(z:Int)<(0:Int)) oM;refine lB 4 hb4 (ag (cK (ab hs [.m 10 0] (lV 11 (mV z) ?_ (hr:=rU ((z:Int)) kR (aZ oM oM))))));refine lC 12 hs (lw z oM _ _ hs.g) ?_;rintro _ w9 _ hs ⟨A5,c6,rfl,hc7,hA8⟩;replace hs:=hs.aS hA8;refine lC 13 hs (rI false z A5 c6 hc7 _ _ hs.g hs.f.1) ?_;rintro _ _ _ hs ⟨za,zb,rfl,zc,zd⟩;replace hs:=hs.aS zd;exact lP 0 0 ([.bool (ac (bj false z)),qS za ((lim (aa (bj false z))).length) zb]) hs (fun _ hs=>ae hs [(0,0,2)] (.agg #[.bool (ac (bj false z)),qS za ((lim (aa (bj false z))).length) zb]) (⟨_,_,rfl,zc,hs.f.1⟩))
theorem nW (z:Int)(h0 : -9223372036854775808≤z)(h1:z<9223372036854775808)(w:World)(h:Hp)(g:G w h):CR 29 #[iV z] w h (fun v h=>RI h v z):=by
 rcases Int.lt_or_le z 0 with hz|hz
 ·have e:bj true (aa z)=z:=by unfold bj aa;simp;omega
  have:=oI z hz h0 w h g;rw[e] at this
  exact this
 ·obtain ⟨n,rfl⟩:=Int.eq_ofNat_of_zero_le hz
  exact n4 n oM w h g
theorem fA (a:Nat)(A:Option Addr)(c:Nat)(hc:(lim a).length≤c)(b:Nat)(D:Option Addr)(d:Nat)(hd:(lim b).length≤d)(hLa:(lim a).length≤4000000000)(hLb:(lim b).length≤4000000000)(w:World)(h:Hp)(g:G w h)(hA:S3 A (lim a) h)(hD:S3 D (lim b) h):CV 28 #[.slice A ((lim a).length) c,.slice D ((lim b).length) d] w h (iV (bL a b)):=by
 have hs:=(((sS g).aS hA).aS hD);refine go Tryz.func28 [(0,qS A ((lim a).length) c),(1,qS D ((lim b).length) d)] rfl (ab hs [.v 4 (iV 0)] (ah (ab hs [.m 6 0,.v 7 (nV ((lim a).length)),.m 8 1,.v 9 (nV ((lim b).length))] ?_)));cases hb1:((((lim a).length:Nat):Int) != (((lim b).length:Nat):Int))
 ·
  have phb1:=aY hb1;refine lB 10 hb1 (ag (cK (cQ (ab hs [.m 16 0,.v 17 (nV ((lim a).length))] (lV 18 (iV ((((lim a).length:Nat):Int)-1)) ?_ (hr:=rS ((((lim a).length:Nat)-1)) kR ((fr oM oM).trans oM)))))));refine lL hs [.m 5 18] (a8 ?_);refine bI _ (CG.loop (fun μ_ Γ w_=>∃ (m:Nat) (h_:Hp),μ_=m∧Γ=[(0,qS A ((lim a).length) c),(1,qS D ((lim b).length) d),(5,iV ((m:Int)-1))]∧SS w h w_ h_ [] [] [S3 D (lim b),S3 A (lim a)]∧m≤(lim a).length∧(lim a).length=(lim b).length∧(lim a).drop m=(lim b).drop m) _ ⟨(lim a).length,h,rfl,rfl,hs.to _ _,nR _,oM,(by rw[List.drop_eq_nil_of_le oM,List.drop_eq_nil_of_le oM])⟩ ?_);rintro _ _ w2 ⟨m,h3,hm4,rfl,hs,hm,hlen,hdr⟩;refine cQ (ab hs [.m 19 5] ?_);cases hb5:(decide ((0:Int)≤((m:Int)-1:Int)))
  ·
   have phb5:=oF hb5;refine lB 20 hb5 (ag (CG.exit ?_))
   show CG _ _ _ _ _ _ _ _
   exact ab hs [.v 4 (iV 0)] (ae hs [] (iV 0) (by rw[gB (xM (by obtain rfl:m=0:=oM;simpa using hdr))]))
  have phb5:=oT hb5;refine lB 20 hb5 (ak (cK (cQ (kZ (cQ (cR 9 [] mixed hs ar ?_))))));refine eV 0 23 (qS A ((lim a).length) c) (eV 1 24 (iV ((m:Int)-1)) (eX 2 25 A ((lim a).length) c 1 ((m:Int)-1) (m-1) ((hs.f.2.1).ok oM) (eH 3 26 (mW ((lim a).getD (m-1) 0)) hs ((hs.f.2.1).el (m-1) oM) (eV 4 27 (qS D ((lim b).length) d) (eV 5 28 (iV ((m:Int)-1)) (eX 6 29 D ((lim b).length) d 1 ((m:Int)-1) (m-1) ((hs.f.1).ok oM) (eH 7 30 (mW ((lim b).getD (m-1) 0)) hs ((hs.f.1).el (m-1) oM) ?_)))))));cases hb6:((((lim a).getD (m-1) 0:Nat):Int) != (((lim b).getD (m-1) 0:Nat):Int))
  ·
   have phb6:=aY hb6;refine eB 8 31 hb6 (ce hs (fun w7 h8 hs=>tN (cY (cK (kQ (lL hs [.m 21 5] (lV 22 (iV (((m-1:Nat):Int)-1)) ?_ (hr:=rS ((((m:Int)-1)-1)) kR ((fr oM oM).trans oM)))))))));refine lL hs [.m 5 22] (lD ?_);intro a_ ka;refine ⟨_,_,?_,⟨m-1,h8,rfl,rfl,hs.to _ _,oM,hlen,(ej (k:=m-1) hlen oM (by rw[show m-1+1=m by omega];exact hdr) oM)⟩,ka.to _ kR⟩
   omega
  have phb6:=ay hb6;refine eB 8 31 hb6 (ce hs (fun _ _ hs=>tN (cl (cQ (cQ (cR 9 [] mixed hs ar ?_))))));refine eV 0 32 (qS A ((lim a).length) c) (eV 1 33 (iV ((m:Int)-1)) (eX 2 34 A ((lim a).length) c 1 ((m:Int)-1) (m-1) ((hs.f.2.1).ok oM) (eH 3 35 (mW ((lim a).getD (m-1) 0)) hs ((hs.f.2.1).el (m-1) oM) (eV 4 36 (qS D ((lim b).length) d) (eV 5 37 (iV ((m:Int)-1)) (eX 6 38 D ((lim b).length) d 1 ((m:Int)-1) (m-1) ((hs.f.1).ok oM) (eH 7 39 (mW ((lim b).getD (m-1) 0)) hs ((hs.f.1).el (m-1) oM) ?_)))))));cases za:(decide ((((lim a).getD (m-1) 0:Nat):Int)<(((lim b).getD (m-1) 0:Nat):Int)))
  ·
   have zc:=oF za;exact eB 8 40 za (ce hs (fun _ _ hs=>tN (cY (cK (ab hs [.v 4 (iV 1)] (ae hs [] (iV 1) (by rw[ei (by first|exact fi oM|exact fF (k:=m-1) oM oM (by rw[show m-1+1=m by omega];exact hdr.symm) oM)])))))))
  have zc:=oT za;exact eB 8 40 za (ce hs (fun _ _ hs=>tN (cl (ab hs [.v 4 (iV (-1))] (ae hs [] (iV (-1)) (by rw[da (by first|exact fi oM|exact fF (k:=m-1) oM oM (by rw[show m-1+1=m by omega];exact hdr) oM)]))))))
 have phb1:=ay hb1;refine lB 10 hb1 (ak (cQ (ab hs [.m 11 0,.v 12 (nV ((lim a).length)),.m 13 1,.v 14 (nV ((lim b).length))] ?_)));cases zb:(decide ((((lim a).length:Nat):Int)<(((lim b).length:Nat):Int)))
 ·
  have zd:=oF zb;exact lB 15 zb (ag (cK (ab hs [.v 4 (iV 1)] (ae hs [] (iV 1) (by rw[ei (by first|exact fi oM|exact fF (k:=m-1) oM oM (by rw[show m-1+1=m by omega];exact hdr.symm) oM)])))))
 have zd:=oT zb;exact lB 15 zb (ak (ab hs [.v 4 (iV (-1))] (ae hs [] (iV (-1)) (by rw[da (by first|exact fi oM|exact fF (k:=m-1) oM oM (by rw[show m-1+1=m by omega];exact hdr) oM)]))))
theorem DD (A:Option Addr)(c:Nat)(l:List Nat)(m:Nat)(hm:l.length=m)(i:Nat)(hi:i≤1099511627776)(hd:Ld l)(w:World)(h:Hp)(g:G w h)(hA:S3 A l h):CV 196 #[.slice A m c,nV i] w h (mV (l.getD i 0)):=by
 have hs:=((sS g).aS hA);have hdi:=hd.get i;refine go Tryz.func196 [(0,qS A m c),(1,nV i)] rfl (ab hs [.v 4 (uV 0)] (ah (ab hs [.m 5 1,.m 6 0,.v 7 (nV m)] ?_)));cases hb1:(decide ((i:Int)<(m:Int)))
 ·
  have phb1:=oF hb1;exact lB 8 hb1 (ag (cK (ab hs [.v 4 (uV 0)] (ae hs [] (uV 0) (by rw[bA oM];rfl)))))
 have phb1:=oT hb1;refine lB 8 hb1 (ak (ab hs [.m 9 0,.m 10 1] (lX 11 A m c 1 (i:Nat) i ((hs.f.1).ok oM) ?_)));refine lH 12 (mW (l.getD i 0)) hs ((hs.f.1).el i oM) (lV 13 (mV (l.getD i 0)) ?_ (hr:=rU (((l.getD i 0:Nat):Int)) kR (aZ oM oM)));exact lL hs [.m 4 13] (ae hs [] (mV (l.getD i 0)) rfl)
theorem qx (a:Nat)(A:Option Addr)(c:Nat)(hc:(lim a).length≤c)(b:Nat)(D:Option Addr)(d:Nat)(hd:(lim b).length≤d)(hLa:(lim a).length≤4000000000)(hLb:(lim b).length≤4000000000)(w:World)(h:Hp)(g:G w h)(hA:S3 A (lim a) h)(hD:S3 D (lim b) h):CR 172 #[.slice A ((lim a).length) c,.slice D ((lim b).length) d] w h (fun v h1=>RN h1 v (a+b)):=by
 have hs:=(((sS g).aS hA).aS hD);refine go Tryz.func172 [(0,qS A ((lim a).length) c),(1,qS D ((lim b).length) d)] rfl (ab hs [.v 4 (sZ)] (aG (lL hs [.m 9 0,.v 10 (nV ((lim a).length)),.m 11 1,.v 12 (nV ((lim b).length))] (lV 13 (nV (max (lim a).length (lim b).length)) ?_ (hr:=aI (n:=if (((lim b).length:Nat):Int)>(((lim a).length:Nat):Int) then (((lim b).length:Nat):Int) else (((lim a).length:Nat):Int)) kR (by split<;>omega))))));refine lL hs [.m 5 13] (aG (lL hs [.m 14 5] (bn 15 (((max (lim a).length (lim b).length):Nat)+1) (((max (lim a).length (lim b).length):Nat)+1) ?_)));refine lK 16 128 (((max (lim a).length (lim b).length):Nat)+1:Nat) 1 4 (uW 0) aW 0 hs (fun b1 w2 h3 hs=>?_);have hl4:(List.replicate (((max (lim a).length (lim b).length):Nat)+1:Nat) 0).length=(((max (lim a).length (lim b).length):Nat)+1:Nat):=by simp
 refine lL hs [.m 6 16] (aG (lL hs [.v 7 (uV 0)] (ah (ab hs [.v 8 (iV 0)] (a8 ?_)))));refine bI _ (CG.loop (fun μ_ Γ w_=>∃ (i:Nat) (z:List Nat) (cy:Nat) (h_:Hp),μ_=(max (lim a).length (lim b).length)+1-i∧Γ=[(0,qS A ((lim a).length) c),(1,qS D ((lim b).length) d),(4,sZ),(5,nV (max (lim a).length (lim b).length)),(6,qS (sB b1) (((max (lim a).length (lim b).length):Nat)+1:Nat) (((max (lim a).length (lim b).length):Nat)+1:Nat)),(8,nV i),(7,mV cy)]∧SS w h w_ h_ [⟨b1,128,(z).flatMap aW⟩] [] [S3 D (lim b),S3 A (lim a)]∧i≤(max (lim a).length (lim b).length)+1∧z.length=(max (lim a).length (lim b).length)+1∧Ld z∧cy≤1∧aj 4294967296 z+4294967296^i*cy=aj 4294967296 ((lim a).take i)+aj 4294967296 ((lim b).take i)∧(∀ k,i≤k→z.getD k 0=0)) _ ⟨0,List.replicate (((max (lim a).length (lim b).length):Nat)+1:Nat) 0,0,h3,rfl,rfl,hs.to _ _,Nat.zero_le _,hl4,Ld.rep _,oM,(by rw[cO];simp[aj]),fun k _=>dl⟩ ?_);rintro _ _ w5 ⟨i,z,cy,h6,hm7,rfl,hs,hi,hll,hW,hcy,inv,hz⟩;have hai:=(Ld.lim a).get i;have hbi:=(Ld.lim b).get i;refine cQ (ab hs [.m 17 8,.m 18 5] ?_);cases hb8:(decide ((i:Int)≤(((max (lim a).length (lim b).length):Nat):Int)))
 ·
  have phb8:=oF hb8;refine lB 19 hb8 (ag (CG.exit ?_))
  show CG _ _ _ _ _ _ _ _
  refine ab hs [.m 38 6] ?_;have hin:i=(max (lim a).length (lim b).length)+1:=by omega
  rw[List.take_of_length_le (show (lim a).length≤i by omega),List.take_of_length_le (show (lim b).length≤i by omega),cn,cn,hin,←hll] at inv
  have hE:aj 4294967296 z=a+b:=p6 inv (by rw[hll];exact Nat.lt_of_lt_of_le (bW _) (Nat.pow_le_pow_right kD (f4 oM oM)));obtain ⟨h9,hs,sg10,lo11,bc12⟩:=hs.pub 0;replace hs:=(hs.to [] []).aS (SlO.of_flat (sz:=1) (f:=aW) (d:=0) (b:=b1) (o:=0) (l:=z) (fun _=>rfl) sg10);exact ai 39 hs (gL (sB b1) (((max (lim a).length (lim b).length):Nat)+1:Nat) z (((max (lim a).length (lim b).length):Nat)+1:Nat) hll oM oM _ _ hs.g hs.f.1) (fun _ _ hs=>lL hs [.m 4 39] (ae hs [] (qS (sB b1) (tl z (((max (lim a).length (lim b).length):Nat)+1:Nat)) (((max (lim a).length (lim b).length):Nat)+1:Nat)) (RN.trim hW hE hll (nR _) hs.f.1)))
 have phb8:=oT hb8;refine lB 19 hb8 (ak (cK (cQ (kZ (ab hs [.m 22 7,.m 23 0,.m 24 8] (ai 25 hs (DD A c (lim a) ((lim a).length) rfl i oM (Ld.lim _) _ _ hs.g hs.f.2.1) (fun _ _ hs=>lV 26 (mV (cy+((lim a).getD i 0))) ?_ (hr:=rU (((cy:Int)+(((lim a).getD i 0:Nat):Int))) kR (de cy ((lim a).getD i 0) oM)))))))));refine lL hs [.m 27 1,.m 28 8] (ai 29 hs (DD D d (lim b) ((lim b).length) rfl i oM (Ld.lim _) _ _ hs.g hs.f.1) (fun _ zb hs=>lV 30 (mV ((cy+((lim a).getD i 0):Nat)+((lim b).getD i 0))) ?_ (hr:=rU ((((cy+((lim a).getD i 0):Nat):Int)+(((lim b).getD i 0:Nat):Int))) kR (de (cy+((lim a).getD i 0):Nat) ((lim b).getD i 0) oM))));refine lL hs [.m 7 30] (aG (lL hs [.m 31 6,.m 32 8,.m 33 7] (lV 34 (mW (((cy+((lim a).getD i 0):Nat)+((lim b).getD i 0):Nat)%4294967296)) ?_ (hr:=rT ((((cy+((lim a).getD i 0):Nat)+((lim b).getD i 0):Nat):Int)) kR (fu _)))));refine lX 35 (sB b1) (((max (lim a).length (lim b).length):Nat)+1:Nat) (((max (lim a).length (lim b).length):Nat)+1:Nat) 1 (i:Nat) i rfl (lW 0 z aW 1 i (((cy+((lim a).getD i 0):Nat)+((lim b).getD i 0):Nat)%4294967296:Nat) hs oM (fun _ hs=>?_));have za:((z).set i (((cy+((lim a).getD i 0):Nat)+((lim b).getD i 0):Nat)%4294967296:Nat)).length=(((max (lim a).length (lim b).length):Nat)+1:Nat):=by rw[List.length_set];exact hll
 replace hs:=hs.to [⟨b1,128,((z).set i (((cy+((lim a).getD i 0):Nat)+((lim b).getD i 0):Nat)%4294967296:Nat)).flatMap aW⟩] [];refine lN (kQ (lL hs [.m 36 7] (lV 37 (mV (((cy+((lim a).getD i 0):Nat)+((lim b).getD i 0):Nat)/4294967296)) ?_ (hr:=aI (n:=Int.fdiv (((cy+((lim a).getD i 0):Nat)+((lim b).getD i 0):Nat):Int) 4294967296) kR (dm _ 4294967296)))));refine lL hs [.m 7 37] (lN (kQ (lL hs [.m 20 8] (bn 21 ((i:Nat)+1) (i+1) ?_))));refine lL hs [.m 8 21] (lD ?_);intro a_ ka;refine ⟨_,_,?_,⟨i+1,(z).set i (((cy+((lim a).getD i 0):Nat)+((lim b).getD i 0):Nat)%4294967296:Nat),(((cy+((lim a).getD i 0):Nat)+((lim b).getD i 0):Nat)/4294967296:Nat),zb,rfl,rfl,hs.to _ _,oM,za,(hW.set _ oM),oM,(by rw[sq (t:=(lim a).getD i 0+(lim b).getD i 0) oM (hz i (nR _)) inv oM,aJ,aJ,Nat.mul_add];omega),(mN oM hz)⟩,ka.to _ kR⟩
 omega
theorem ju (a:Nat)(A:Option Addr)(c:Nat)(hc:(lim a).length≤c)(b:Nat)(D:Option Addr)(d:Nat)(hd:(lim b).length≤d)(hLa:(lim a).length≤4000000000)(hLb:(lim b).length≤4000000000)(hba:b≤a)(w:World)(h:Hp)(g:G w h)(hA:S3 A (lim a) h)(hD:S3 D (lim b) h):CR 173 #[.slice A ((lim a).length) c,.slice D ((lim b).length) d] w h (fun v h1=>RN h1 v (a-b)):=by
 have hs:=(((sS g).aS hA).aS hD);have hlm:=cG hba;refine go Tryz.func173 [(0,qS A ((lim a).length) c),(1,qS D ((lim b).length) d)] rfl (ab hs [.v 4 (sZ)] (aG (lL hs [.m 9 0,.v 10 (nV ((lim a).length))] (lK 11 128 ((lim a).length) 1 4 (uW 0) aW 0 hs (fun b1 w2 h3 hs=>?_)))));have hl4:(List.replicate ((lim a).length) 0).length=((lim a).length):=by simp
 refine lL hs [.m 5 11] (aG (lL hs [.v 6 (uV 0)] (ah (ab hs [.v 7 (iV 0)] (a8 ?_)))));refine bI _ (CG.loop (fun μ_ Γ w_=>∃ (i:Nat) (z:List Nat) (br:Nat) (h_:Hp),μ_=(lim a).length-i∧Γ=[(0,qS A ((lim a).length) c),(1,qS D ((lim b).length) d),(4,sZ),(5,qS (sB b1) ((lim a).length) ((lim a).length)),(7,nV i),(6,mV br)]∧SS w h w_ h_ [⟨b1,128,(z).flatMap aW⟩] [] [S3 D (lim b),S3 A (lim a)]∧i≤(lim a).length∧z.length=(lim a).length∧Ld z∧br≤1∧aj 4294967296 z+aj 4294967296 ((lim b).take i)=aj 4294967296 ((lim a).take i)+4294967296^i*br∧(∀ k,i≤k→z.getD k 0=0)) _ ⟨0,List.replicate ((lim a).length) 0,0,h3,rfl,rfl,hs.to _ _,Nat.zero_le _,hl4,Ld.rep _,oM,(by rw[cO];simp[aj]),fun k _=>dl⟩ ?_);rintro _ _ w5 ⟨i,z,br,h6,hm7,rfl,hs,hi,hll,hW,hbr,inv,hz⟩;have hai:=(Ld.lim a).get i;have hbi:=(Ld.lim b).get i;refine cQ (ab hs [.m 12 7,.m 13 0,.v 14 (nV ((lim a).length))] ?_);cases hb8:(decide ((i:Int)<(((lim a).length:Nat):Int)))
 ·
  have phb8:=oF hb8;refine lB 15 hb8 (ag (CG.exit ?_))
  show CG _ _ _ _ _ _ _ _
  refine ab hs [.m 36 5] ?_;have hin:i=(lim a).length:=by omega
  rw[List.take_of_length_le (show (lim a).length≤i by omega),List.take_of_length_le (show (lim b).length≤i by omega),cn,cn,hin,←hll] at inv
  have hE:aj 4294967296 z=a-b:=t8 hW inv hba;obtain ⟨h9,hs,sg10,lo11,bc12⟩:=hs.pub 0;replace hs:=(hs.to [] []).aS (SlO.of_flat (sz:=1) (f:=aW) (d:=0) (b:=b1) (o:=0) (l:=z) (fun _=>rfl) sg10);exact ai 37 hs (gL (sB b1) ((lim a).length) z ((lim a).length) hll oM oM _ _ hs.g hs.f.1) (fun _ _ hs=>lL hs [.m 4 37] (ae hs [] (qS (sB b1) (tl z ((lim a).length)) ((lim a).length)) (RN.trim hW hE hll (nR _) hs.f.1)))
 have phb8:=oT hb8;refine lB 15 hb8 (ak (cK (cQ (kZ (cQ (cR 11 [] mixed hs ar ?_))))));refine eV 0 18 (qS A ((lim a).length) c) (eV 1 19 (nV i) (eX 2 20 A ((lim a).length) c 1 (i:Nat) i ((hs.f.2.1).ok oM) (eH 3 21 (mW ((lim a).getD i 0)) hs ((hs.f.2.1).el i oM) (eV 4 22 (mV ((lim a).getD i 0)) ?_ (hv:=fun _=>rU ((((lim a).getD i 0:Nat):Int)) kR (aZ oM oM))))));refine eV 5 23 (qS D ((lim b).length) d) (eV 6 24 (nV i) (eV 9 27 (mV br) (aq 7 25 hs (fun _ _ hs=>DD D d (lim b) ((lim b).length) rfl i oM (Ld.lim _) _ _ hs.g hs.f.1) (fun _ _ hs=>eV 8 26 (mV ((((lim a).getD i 0)+(18446744073709551616-((lim b).getD i 0)))%18446744073709551616)) ?_ (hv:=fun _=>rU (((((lim a).getD i 0:Nat):Int)-(((lim b).getD i 0:Nat):Int))) kR (jc ((lim a).getD i 0) ((lim b).getD i 0) oM))))));refine eV 10 28 (mV ((((((lim a).getD i 0)+(18446744073709551616-((lim b).getD i 0)))%18446744073709551616:Nat)+(18446744073709551616-br))%18446744073709551616)) ?_ (hv:=fun _=>rU (((((((lim a).getD i 0)+(18446744073709551616-((lim b).getD i 0)))%18446744073709551616:Nat):Int)-(br:Int))) kR (jc ((((lim a).getD i 0)+(18446744073709551616-((lim b).getD i 0)))%18446744073709551616:Nat) br oM));refine ce hs (fun _ zb hs=>tV 11 8 (mV ((((((lim a).getD i 0)+(18446744073709551616-((lim b).getD i 0)))%18446744073709551616:Nat)+(18446744073709551616-br))%18446744073709551616)) (qI ?_));obtain ⟨t,ht⟩:∃ t,t=((((((lim a).getD i 0)+(18446744073709551616-((lim b).getD i 0)))%18446744073709551616:Nat)+(18446744073709551616-br))%18446744073709551616:Nat):=⟨_,rfl⟩;obtain ⟨hS1,hS2⟩:=uH hai hbi hbr ht;rw[ht] at hS1 hS2
 refine lL hs [.m 29 5,.m 30 7,.m 31 8] (lV 32 (mW (((((((lim a).getD i 0)+(18446744073709551616-((lim b).getD i 0)))%18446744073709551616:Nat)+(18446744073709551616-br))%18446744073709551616:Nat)%4294967296)) ?_ (hr:=rT ((((((((lim a).getD i 0)+(18446744073709551616-((lim b).getD i 0)))%18446744073709551616:Nat)+(18446744073709551616-br))%18446744073709551616:Nat):Int)) kR (fu _)));refine lX 33 (sB b1) ((lim a).length) ((lim a).length) 1 (i:Nat) i rfl (lW 0 z aW 1 i (((((((lim a).getD i 0)+(18446744073709551616-((lim b).getD i 0)))%18446744073709551616:Nat)+(18446744073709551616-br))%18446744073709551616:Nat)%4294967296:Nat) hs oM (fun _ hs=>?_));have za:((z).set i (((((((lim a).getD i 0)+(18446744073709551616-((lim b).getD i 0)))%18446744073709551616:Nat)+(18446744073709551616-br))%18446744073709551616:Nat)%4294967296:Nat)).length=((lim a).length):=by rw[List.length_set];exact hll
 replace hs:=hs.to [⟨b1,128,((z).set i (((((((lim a).getD i 0)+(18446744073709551616-((lim b).getD i 0)))%18446744073709551616:Nat)+(18446744073709551616-br))%18446744073709551616:Nat)%4294967296:Nat)).flatMap aW⟩] [];refine lN (kQ (lL hs [.m 34 8] (lV 35 (mV (((((((lim a).getD i 0)+(18446744073709551616-((lim b).getD i 0)))%18446744073709551616:Nat)+(18446744073709551616-br))%18446744073709551616:Nat)/9223372036854775808)) ?_ (hr:=aI (n:=Int.fdiv (((((((lim a).getD i 0)+(18446744073709551616-((lim b).getD i 0)))%18446744073709551616:Nat)+(18446744073709551616-br))%18446744073709551616:Nat):Int) 9223372036854775808) kR (dm _ 9223372036854775808)))));refine lL hs [.m 6 35] (lN (kQ (lL hs [.m 16 7] (bn 17 ((i:Nat)+1) (i+1) ?_))));refine lL hs [.m 7 17] (lD ?_);intro a_ ka;refine ⟨_,_,?_,⟨i+1,(z).set i (((((((lim a).getD i 0)+(18446744073709551616-((lim b).getD i 0)))%18446744073709551616:Nat)+(18446744073709551616-br))%18446744073709551616:Nat)%4294967296:Nat),(((((((lim a).getD i 0)+(18446744073709551616-((lim b).getD i 0)))%18446744073709551616:Nat)+(18446744073709551616-br))%18446744073709551616:Nat)/9223372036854775808:Nat),zb,rfl,rfl,hs.to _ _,oM,za,(hW.set _ oM),hS2,(xE oM (hz i (nR _)) inv hS1),(mN oM hz)⟩,ka.to _ kR⟩
 omega
theorem Cy {x y:Nat}(hx:x<4294967296)(hy:y<4294967296):x*y≤18446744065119617025:=Nat.mul_le_mul (show x≤4294967295 by omega) (show y≤4294967295 by omega)
theorem te {a b q r:Nat}(h:a=b*q+r)(hr:r<b):q=a/b∧r=a%b:=by
 subst h;rw[Nat.mul_add_div oM,Nat.div_eq_of_lt hr,Nat.mul_add_mod,Nat.mod_eq_of_lt hr];simp
theorem k8 {l:List Nat}{k j x:Nat}(hk:k<l.length)(h:∀ i,j≤i→l.getD i 0=0)(hj:k<j):∀ i,j≤i→(l.set k x).getD i 0=0:=fun i hi=>by rw[bp hk,if_neg oM];exact h i hi
theorem lp (a:Nat)(A:Option Addr)(c:Nat)(hc:(lim a).length≤c)(b:Nat)(D:Option Addr)(d:Nat)(hd:(lim b).length≤d)(hLa:(lim a).length≤4000000000)(hLb:(lim b).length≤4000000000)(w:World)(h:Hp)(g:G w h)(hA:S3 A (lim a) h)(hD:S3 D (lim b) h):CR 140 #[.slice A ((lim a).length) c,.slice D ((lim b).length) d] w h (fun v h1=>RN h1 v (a*b)):=by
 have hs:=(((sS g).aS hA).aS hD);refine go Tryz.func140 [(0,qS A ((lim a).length) c),(1,qS D ((lim b).length) d)] rfl (ab hs [.v 4 (sZ)] (aG (lL hs [.m 9 0,.v 10 (nV ((lim a).length)),.m 11 1,.v 12 (nV ((lim b).length))] (bn 13 (((lim a).length:Nat)+((lim b).length:Nat)) (((lim a).length)+((lim b).length)) ?_))));refine lK 14 128 (((lim a).length)+((lim b).length):Nat) 1 4 (uW 0) aW 0 hs (fun b1 w2 h3 hs=>?_);have hl4:(List.replicate (((lim a).length)+((lim b).length):Nat) 0).length=(((lim a).length)+((lim b).length):Nat):=by simp
 refine lL hs [.m 5 14] (ah (ab hs [.v 6 (iV 0)] (a8 ?_)));refine bI _ (CG.loop (fun μ_ Γ w_=>∃ (i:Nat) (l:List Nat) (h_:Hp),μ_=(lim a).length-i∧Γ=[(0,qS A ((lim a).length) c),(1,qS D ((lim b).length) d),(4,sZ),(5,qS (sB b1) (((lim a).length)+((lim b).length):Nat) (((lim a).length)+((lim b).length):Nat)),(6,nV i)]∧SS w h w_ h_ [⟨b1,128,(l).flatMap aW⟩] [] [S3 D (lim b),S3 A (lim a)]∧i≤(lim a).length∧l.length=(lim a).length+(lim b).length∧Ld l∧aj 4294967296 l=aj 4294967296 ((lim a).take i)*b∧(∀ k,i+(lim b).length≤k→l.getD k 0=0)) _ ⟨0,List.replicate (((lim a).length)+((lim b).length):Nat) 0,h3,rfl,rfl,hs.to _ _,Nat.zero_le _,hl4,Ld.rep _,(by rw[cO];simp[aj]),fun k _=>dl⟩ ?_);rintro _ _ w5 ⟨i,l,h6,hm7,rfl,hs,hi,hll,hW,hv,hz⟩;have hai:=(Ld.lim a).get i;refine cQ (ab hs [.m 15 6,.m 16 0,.v 17 (nV ((lim a).length))] ?_);cases hb8:(decide ((i:Int)<(((lim a).length:Nat):Int)))
 ·
  have phb8:=oF hb8;refine lB 18 hb8 (ag (CG.exit ?_))
  show CG _ _ _ _ _ _ _ _
  refine ab hs [.m 65 5] ?_;have hix:i=(lim a).length:=by omega
  rw[hix,List.take_length,cn] at hv
  have hE:aj 4294967296 l=a*b:=hv;obtain ⟨h9,hs,sg10,lo11,bc12⟩:=hs.pub 0;replace hs:=(hs.to [] []).aS (SlO.of_flat (sz:=1) (f:=aW) (d:=0) (b:=b1) (o:=0) (l:=l) (fun _=>rfl) sg10);exact ai 66 hs (gL (sB b1) (((lim a).length)+((lim b).length):Nat) l (((lim a).length)+((lim b).length):Nat) hll oM oM _ _ hs.g hs.f.1) (fun _ _ hs=>lL hs [.m 4 66] (ae hs [] (qS (sB b1) (tl l (((lim a).length)+((lim b).length):Nat)) (((lim a).length)+((lim b).length):Nat)) (RN.trim hW hE hll (nR _) hs.f.1)))
 have phb8:=oT hb8;refine lB 18 hb8 (ak (cK (cQ (kZ (ab hs [.v 7 (uV 0)] (ah (ab hs [.v 8 (iV 0)] (a8 ?_))))))));refine bI _ (CG.loop (fun μ_ Γ w_=>∃ (j:Nat) (l2:List Nat) (cy:Nat) (h_:Hp),μ_=(lim b).length-j∧Γ=[(0,qS A ((lim a).length) c),(1,qS D ((lim b).length) d),(4,sZ),(5,qS (sB b1) (((lim a).length)+((lim b).length):Nat) (((lim a).length)+((lim b).length):Nat)),(6,nV i),(8,nV j),(7,mV cy)]∧SS w h w_ h_ [⟨b1,128,(l2).flatMap aW⟩] [] [S3 D (lim b),S3 A (lim a)]∧j≤(lim b).length∧l2.length=(lim a).length+(lim b).length∧Ld l2∧cy<4294967296∧aj 4294967296 l2+4294967296^(i+j)*cy=aj 4294967296 l+4294967296^i*((lim a).getD i 0*aj 4294967296 ((lim b).take j))∧(∀ k,i+(lim b).length≤k→l2.getD k 0=0)) _ ⟨0,l,0,h6,rfl,rfl,hs.to _ _,Nat.zero_le _,hll,hW,by omega,(by simp[aj]),hz⟩ ?_);rintro _ _ _ ⟨j,l2,cy,ze,hm18,rfl,hs,hj,hll2,hW2,hcy,inv,hz2⟩;have hbj:=(Ld.lim b).get j;have hlk:=hW2.get (i+j);have hxy:=Cy hai hbj;refine cQ (ab hs [.m 21 8,.m 22 1,.v 23 (nV ((lim b).length))] ?_);cases za:(decide ((j:Int)<(((lim b).length:Nat):Int)))
 ·
  have zb:=oF za;refine lB 24 za (ag (CG.exit ?_))
  show CG _ _ _ _ _ _ _ _
  refine kQ (lL hs [.m 57 5,.m 58 6,.m 59 1,.v 60 (nV ((lim b).length))] (bn 61 ((i:Nat)+((lim b).length:Nat)) (i+((lim b).length)) ?_));refine lL hs [.m 62 7] (lV 63 (mW (cy%4294967296)) ?_ (hr:=rT ((cy:Int)) kR (fu _)));refine lX 64 (sB b1) (((lim a).length)+((lim b).length):Nat) (((lim a).length)+((lim b).length):Nat) 1 (i+((lim b).length):Nat) (i+((lim b).length):Nat) rfl (lW 0 l2 aW 1 (i+((lim b).length):Nat) (cy%4294967296) hs oM (fun _ hs=>?_));have zc:((l2).set (i+((lim b).length):Nat) (cy%4294967296)).length=(((lim a).length)+((lim b).length):Nat):=by rw[List.length_set];exact hll2
  replace hs:=hs.to [⟨b1,128,((l2).set (i+((lim b).length):Nat) (cy%4294967296)).flatMap aW⟩] [];refine lN (kQ (lL hs [.m 19 6] (bn 20 ((i:Nat)+1) (i+1) ?_)));refine lL hs [.m 6 20] (lD ?_);intro a_ ka;refine ⟨_,_,?_,⟨i+1,(l2).set (i+((lim b).length):Nat) (cy%4294967296),ze,rfl,rfl,hs.to _ _,oM,zc,(hW2.set _ oM),(by have hjy:j=(lim b).length:=oM;rw[hjy] at inv;have hm_:=pA oM inv (hz2 _ oM);rw[cn] at hm_;rw[show cy%4294967296=cy by omega];exact hm_.trans (qm hv)),(k8 oM (fun k hk=>hz2 k oM) oM)⟩,ka.to _ kR⟩
  omega
 have zb:=oT za;refine lB 24 za (ak (cK (cQ (kZ (cQ (cR 21 [] mixed hs ar ?_))))));refine eV 0 27 (mV cy) (eV 1 28 (qS (sB b1) (((lim a).length)+((lim b).length):Nat) (((lim a).length)+((lim b).length):Nat)) (eV 2 29 (nV i) (eV 3 30 (nV j) (iR 4 31 ((i:Nat)+(j:Nat)) (i+j) (eX 5 32 (sB b1) (((lim a).length)+((lim b).length):Nat) (((lim a).length)+((lim b).length):Nat) 1 (i+j:Nat) (i+j) rfl (eQ 6 33 0 l2 aW 1 0 (i+j) (mW ((l2).getD (i+j) 0)) hs oM (eV 7 34 (mV ((l2).getD (i+j) 0)) ?_ (hv:=fun _=>rU ((((l2).getD (i+j) 0:Nat):Int)) kR (aZ oM oM)))))))));refine eV 8 35 (mV (cy+((l2).getD (i+j) 0))) ?_ (hv:=fun _=>rU (((cy:Int)+(((l2).getD (i+j) 0:Nat):Int))) kR (de cy ((l2).getD (i+j) 0) oM));refine eV 9 36 (qS A ((lim a).length) c) (eV 10 37 (nV i) (eX 11 38 A ((lim a).length) c 1 (i:Nat) i ((hs.f.2.1).ok oM) (eH 12 39 (mW ((lim a).getD i 0)) hs ((hs.f.2.1).el i oM) (eV 13 40 (mV ((lim a).getD i 0)) ?_ (hv:=fun _=>rU ((((lim a).getD i 0:Nat):Int)) kR (aZ oM oM))))));refine eV 14 41 (qS D ((lim b).length) d) (eV 15 42 (nV j) (eX 16 43 D ((lim b).length) d 1 (j:Nat) j ((hs.f.1).ok oM) (eH 17 44 (mW ((lim b).getD j 0)) hs ((hs.f.1).el j oM) (eV 18 45 (mV ((lim b).getD j 0)) ?_ (hv:=fun _=>rU ((((lim b).getD j 0:Nat):Int)) kR (aZ oM oM))))));refine eV 19 46 (mV (((lim a).getD i 0)*((lim b).getD j 0))) ?_ (hv:=fun _=>rU (((((lim a).getD i 0:Nat):Int)*(((lim b).getD j 0:Nat):Int))) kR (fl ((lim a).getD i 0) ((lim b).getD j 0) oM));refine eV 20 47 (mV ((cy+((l2).getD (i+j) 0):Nat)+(((lim a).getD i 0)*((lim b).getD j 0):Nat))) ?_ (hv:=fun _=>rU ((((cy+((l2).getD (i+j) 0):Nat):Int)+((((lim a).getD i 0)*((lim b).getD j 0):Nat):Int))) kR (de (cy+((l2).getD (i+j) 0):Nat) (((lim a).getD i 0)*((lim b).getD j 0):Nat) oM));refine ce hs (fun _ zf hs=>tV 21 7 (mV ((cy+((l2).getD (i+j) 0):Nat)+(((lim a).getD i 0)*((lim b).getD j 0):Nat))) (qI (lL hs [.m 48 5,.m 49 6,.m 50 8] (bn 51 ((i:Nat)+(j:Nat)) (i+j) ?_))));refine lL hs [.m 52 7] (lV 53 (mW (((cy+((l2).getD (i+j) 0):Nat)+(((lim a).getD i 0)*((lim b).getD j 0):Nat):Nat)%4294967296)) ?_ (hr:=rT ((((cy+((l2).getD (i+j) 0):Nat)+(((lim a).getD i 0)*((lim b).getD j 0):Nat):Nat):Int)) kR (fu _)));refine lX 54 (sB b1) (((lim a).length)+((lim b).length):Nat) (((lim a).length)+((lim b).length):Nat) 1 (i+j:Nat) (i+j) rfl (lW 0 l2 aW 1 (i+j) (((cy+((l2).getD (i+j) 0):Nat)+(((lim a).getD i 0)*((lim b).getD j 0):Nat):Nat)%4294967296:Nat) hs oM (fun _ hs=>?_));have zd:((l2).set (i+j) (((cy+((l2).getD (i+j) 0):Nat)+(((lim a).getD i 0)*((lim b).getD j 0):Nat):Nat)%4294967296:Nat)).length=(((lim a).length)+((lim b).length):Nat):=by rw[List.length_set];exact hll2
 replace hs:=hs.to [⟨b1,128,((l2).set (i+j) (((cy+((l2).getD (i+j) 0):Nat)+(((lim a).getD i 0)*((lim b).getD j 0):Nat):Nat)%4294967296:Nat)).flatMap aW⟩] [];refine lN (kQ (lL hs [.m 55 7] (lV 56 (mV (((cy+((l2).getD (i+j) 0):Nat)+(((lim a).getD i 0)*((lim b).getD j 0):Nat):Nat)/4294967296)) ?_ (hr:=aI (n:=Int.fdiv (((cy+((l2).getD (i+j) 0):Nat)+(((lim a).getD i 0)*((lim b).getD j 0):Nat):Nat):Int) 4294967296) kR (dm _ 4294967296)))));refine lL hs [.m 7 56] (lN (bI [(0,qS A ((lim a).length) c),(1,qS D ((lim b).length) d),(4,sZ),(5,qS (sB b1) (((lim a).length)+((lim b).length):Nat) (((lim a).length)+((lim b).length):Nat)),(6,nV i),(8,nV j),(7,mV (((cy+((l2).getD (i+j) 0):Nat)+(((lim a).getD i 0)*((lim b).getD j 0):Nat):Nat)/4294967296))] ?_));refine kQ (lL hs [.m 25 8] (bn 26 ((j:Nat)+1) (j+1) ?_));refine lL hs [.m 8 26] (lD ?_);intro a_ ka;refine ⟨_,_,?_,⟨j+1,(l2).set (i+j) (((cy+((l2).getD (i+j) 0):Nat)+(((lim a).getD i 0)*((lim b).getD j 0):Nat):Nat)%4294967296:Nat),(((cy+((l2).getD (i+j) 0):Nat)+(((lim a).getD i 0)*((lim b).getD j 0):Nat):Nat)/4294967296:Nat),zf,rfl,rfl,hs.to _ _,oM,zd,(hW2.set _ oM),oM,(jY oM inv oM),(k8 oM hz2 oM)⟩,ka.to _ kR⟩
 omega
theorem Gf (a:Nat)(A:Option Addr)(c:Nat)(hc:(lim a).length≤c)(hLa:(lim a).length≤4000000000)(d:Nat)(hd0:0<d)(hd:d<4294967296)(w:World)(h:Hp)(g:G w h)(hA:S3 A (lim a) h):CR 182 #[.slice A ((lim a).length) c,mW d] w h (fun v h1=>∃ v1,∃ r:Nat,v=.tuple #[v1,mW r]∧RN h1 v1 (a/d)∧r=a%d):=by
 have hs:=((sS g).aS hA);refine go Tryz.func182 [(0,qS A ((lim a).length) c),(1,mW d)] rfl (ab hs [.v 4 (sZ),.v 5 (uW 0)] (aG (lL hs [.m 9 0,.v 10 (nV ((lim a).length))] (lK 11 128 ((lim a).length) 1 4 (uW 0) aW 0 hs (fun b1 w2 h3 hs=>?_)))));have hl4:(List.replicate ((lim a).length) 0).length=((lim a).length):=by simp
 refine lL hs [.m 6 11] (aG (lL hs [.v 7 (uV 0)] (ah (ab hs [.m 12 0,.v 13 (nV ((lim a).length))] (lV 14 (iV ((((lim a).length:Nat):Int)-1)) ?_ (hr:=rS ((((lim a).length:Nat)-1)) kR ((fr oM oM).trans oM)))))));refine lL hs [.m 8 14] (a8 ?_);refine bI _ (CG.loop (fun μ_ Γ w_=>∃ (m:Nat) (z:List Nat) (r:Nat) (h_:Hp),μ_=m∧Γ=[(0,qS A ((lim a).length) c),(1,mW d),(4,sZ),(5,uW 0),(6,qS (sB b1) ((lim a).length) ((lim a).length)),(8,iV ((m:Int)-1)),(7,mV r)]∧SS w h w_ h_ [⟨b1,128,(z).flatMap aW⟩] [] [S3 A (lim a)]∧m≤(lim a).length∧z.length=(lim a).length∧Ld z∧a=d*aj 4294967296 z+(4294967296^m*r+aj 4294967296 ((lim a).take m))∧r<d∧(∀ k,k<m→z.getD k 0=0)) _ ⟨(lim a).length,List.replicate ((lim a).length) 0,0,h3,rfl,rfl,hs.to _ _,nR _,hl4,Ld.rep _,(by rw[cO,List.take_length,cn];simp),hd0,fun k _=>dl⟩ ?_);rintro _ _ w5 ⟨m,z,r,h6,hm7,rfl,hs,hm,hzl,hZ,inv,hr,hz⟩;have hai:=(Ld.lim a).get (m-1);refine cQ (ab hs [.m 15 8] ?_);cases hb8:(decide ((0:Int)≤((m:Int)-1:Int)))
 ·
  have phb8:=oF hb8;refine lB 16 hb8 (ag (CG.exit ?_))
  show CG _ _ _ _ _ _ _ _
  refine ab hs [.m 39 6] ?_;have hm0:m=0:=by omega
  rw[hm0,Nat.pow_zero,Nat.one_mul,List.take_zero] at inv
  have inv_:a=d*aj 4294967296 z+r:=by simpa [aj] using inv
  obtain ⟨hE_,hE2⟩:=te inv_ hr;have hE:aj 4294967296 z=a/d:=hE_;obtain ⟨h9,hs,sg10,lo11,bc12⟩:=hs.pub 0;replace hs:=(hs.to [] []).aS (SlO.of_flat (sz:=1) (f:=aW) (d:=0) (b:=b1) (o:=0) (l:=z) (fun _=>rfl) sg10);refine ai 40 hs (gL (sB b1) ((lim a).length) z ((lim a).length) hzl oM oM _ _ hs.g hs.f.1) (fun _ _ hs=>lL hs [.m 41 7] (lV 42 (mW r) ?_ (hr:=aI (aI (n:=IntKind.wrap .u32 (r:Int)) kR (fu _)) oM)));exact lL hs [.m 4 40,.m 5 42] (ae hs [] (.tuple #[qS (sB b1) (tl z ((lim a).length)) ((lim a).length),mW r]) (⟨_,r,rfl,RN.trim hZ hE hzl (nR _) hs.f.1,hE2⟩))
 have phb8:=oT hb8;refine lB 16 hb8 (ak (cK (cQ (kZ (ab hs [.m 19 7] (lV 20 (mV (r*4294967296%18446744073709551616)) ?_ (hr:=rU (((r:Int)*4294967296)) kR (it r 4294967296))))))));refine lL hs [.m 21 0,.m 22 8] (lX 23 A ((lim a).length) c 1 ((m:Int)-1) (m-1) ((hs.f.1).ok oM) ?_);refine lH 24 (mW ((lim a).getD (m-1) 0)) hs ((hs.f.1).el (m-1) oM) (lV 25 (mV ((lim a).getD (m-1) 0)) ?_ (hr:=rU ((((lim a).getD (m-1) 0:Nat):Int)) kR (aZ oM oM)));refine lV 26 (mV (r*4294967296+(lim a).getD (m-1) 0)) ?_ (hr:=aI (fR (t:=39) (u:=39) (x:=.tmp 20) (y:=.tmp 25) (a:=(r*4294967296%18446744073709551616)) (b:=((lim a).getD (m-1) 0)) kR kR kR oM oM _) (by rw[Nat.mod_eq_of_lt (show r*4294967296<18446744073709551616 by omega),oh hai]));refine lL hs [.m 7 26] (aG (lL hs [.m 27 6,.m 28 8,.m 29 7,.m 30 1] (lV 31 (mV d) ?_ (hr:=rU ((d:Int)) kR (aZ oM oM)))));have hqr:=rD (r:=r) (x:=(lim a).getD (m-1) 0) hd0 hr hai hd;refine lV 32 (mV ((r*4294967296+(lim a).getD (m-1) 0)/d)) ?_ (hr:=aI (cJ (t:=39) (u:=39) (x:=.tmp 29) (y:=.tmp 31) (k:=.u64) (a:=((r*4294967296+(lim a).getD (m-1) 0:Nat):Int)) (b:=(d:Int)) kR kR kR oM _) (iS (r*4294967296+(lim a).getD (m-1) 0) d oM));refine lV 33 (mW (((r*4294967296+(lim a).getD (m-1) 0)/d:Nat)%4294967296)) ?_ (hr:=rT ((((r*4294967296+(lim a).getD (m-1) 0)/d:Nat):Int)) kR (fu _));refine lX 34 (sB b1) ((lim a).length) ((lim a).length) 1 ((m:Int)-1) (m-1) rfl (lW 0 z aW 1 (m-1) (((r*4294967296+(lim a).getD (m-1) 0)/d:Nat)%4294967296:Nat) hs oM (fun _ hs=>?_));have za:((z).set (m-1) (((r*4294967296+(lim a).getD (m-1) 0)/d:Nat)%4294967296:Nat)).length=((lim a).length):=by rw[List.length_set];exact hzl
 replace hs:=hs.to [⟨b1,128,((z).set (m-1) (((r*4294967296+(lim a).getD (m-1) 0)/d:Nat)%4294967296:Nat)).flatMap aW⟩] [];refine lN (kQ (lL hs [.m 35 7,.m 36 1] (lV 37 (mV d) ?_ (hr:=rU ((d:Int)) kR (aZ oM oM)))));refine lV 38 (mV ((r*4294967296+(lim a).getD (m-1) 0)%d)) ?_ (hr:=aI (dC (t:=39) (u:=39) (x:=.tmp 35) (y:=.tmp 37) (k:=.u64) (a:=((r*4294967296+(lim a).getD (m-1) 0:Nat):Int)) (b:=(d:Int)) kR kR kR oM _) (bY (r*4294967296+(lim a).getD (m-1) 0) d));refine lL hs [.m 7 38] (lN (kQ (lL hs [.m 17 8] (lV 18 (iV (((m-1:Nat):Int)-1)) ?_ (hr:=rS ((((m:Int)-1)-1)) kR ((fr oM oM).trans oM))))));refine lL hs [.m 8 18] (lD ?_);intro a_ ka;refine ⟨_,_,?_,⟨m-1,(z).set (m-1) (((r*4294967296+(lim a).getD (m-1) 0)/d:Nat)%4294967296:Nat),((r*4294967296+(lim a).getD (m-1) 0)%d:Nat),h6,rfl,rfl,hs.to _ _,oM,za,(hZ.set _ (Nat.mod_lt _ kD)),(by rw[hqr.1];exact tI oM oM (hz _ oM) inv hqr.2.1),hqr.2.2,(fun k hk=>by rw[bp oM,if_neg oM];exact hz k oM)⟩,ka.to _ kR⟩
 omega
theorem og {B:List Bx}:∀ (ps:List (Nat × Nat × Nat)) (q:Nat) (a:Addr),(bH B ps)[q]?=some a→∃ p∈ps,a.block=(aw B p.1).b:=by
  intro ps
  induction ps with
  | nil=>intro q a h;simp[bH] at h
  | cons p ps ih =>
    intro q a h
    unfold bH at h
    rcases Nat.lt_or_ge q (jB (aw B p.1).b p.2.1 p.2.2).length with hl|hl
    · rw[List.getElem?_append_left hl] at h
      exact ⟨p,by simp,by rw[dR _ _ _ _ _ h]⟩
    · rw[List.getElem?_append_right hl] at h
      obtain ⟨p',hp',e⟩:=ih _ _ h;exact ⟨p',by simp[hp'],e⟩
section
variable {M:Ms} {P:Program} {n:Nat} {N R:Po} {X:Nat→Po} {ops:Array Oper} {k k0:Nat} {L:Array Bool} {Γ:bM} {w:World} {h:Hp} {w0:World} {h0:Hp} {B:List Bx} {Rs:List Rw} {F:List (Hp→Prop)}
theorem Fo {α:Type}(j:Nat)(l:List α)(f:α→List Value)(sz e:Nat)(x:α)(s:SS w0 h0 w h B Rs F)(hk:e<l.length)(H:∀ w',Put (aw B j).b w w'→SS w0 h0 w' h (fQ B j ((l.set e x).flatMap f)) Rs F→LG P n N R X ops (k+1) Γ w')(hc:cS ops Γ k=true:=by kernel_rfl)
  (hj:decide (j<B.length)=true:=by kernel_rfl)(hB:(aw B j).vs=l.flatMap f:=by kernel_rfl)(hf:∀ x,(f x).length=sz:=by intro _;rfl)
  (he:cP P (execOp (ev Γ) (ao ops k))=some (.skip,jE (aw B j).b (0+e*sz) (f x)):=by kernel_rfl):LG P n N R X ops k Γ w :=
 LG.putA j l f sz e x s.st s.g0 (ji hc).1 (ji hc).2 hj hB hf hk he (fun w' p s'=>H w' p (s.put0 (oT hj) p s' (iT (oT hj))))
theorem GN {α:Type}(i j:Nat)(l:List α)(f:α→List Value)(sz e:Nat)(x:α)(s:SS w0 h0 w h B Rs F)(hk:e<l.length)(H:∀ w',Put (aw B j).b w w'→SS w0 h0 w' h (fQ B j ((l.set e x).flatMap f)) Rs F→AG M P n N R X ops k0 (L.setIfInBounds i true) Γ w')(hc:DA ops k0 L Γ i=true:=by kernel_rfl)
  (hj:decide (j<B.length)=true:=by kernel_rfl)(hB:(aw B j).vs=l.flatMap f:=by kernel_rfl)(hf:∀ x,(f x).length=sz:=by intro _;rfl)
  (he:cP P (execOp (ev Γ) (ao ops i))=some (.skip,jE (aw B j).b (0+e*sz) (f x)):=by kernel_rfl)(hz:∀ K bs,M.z=some (K,bs)→K≤(aw B j).b∨(aw B j).b∈bs:=by intro _ _ e;cases e):AG M P n N R X ops k0 L Γ w :=
 T.putA i j l f sz e x s.st s.g0 (jb hc).1 (jb hc).2 hj hB hf hk he (fun w' p s'=>H w' p (s.put0 (oT hj) p s' (iT (oT hj)))) hz
theorem aQ {α:Type}(i t j:Nat)(l:List α)(f:α→List Value)(sz:Nat)(d:α)(e:Nat)(v:Value)(s:SS w0 h0 w h B Rs F)(hk:e<l.length)(H:AG M P n N R X ops k0 (L.setIfInBounds i true) ((t,v)::Γ) w)(hM:(aw B j).b ∉ M.l:=by exact List.not_mem_nil)(hc:vG n ops k0 [] L Γ i t=true:=by kernel_rfl)
  (hj:decide (j<B.length)=true:=by kernel_rfl)(hB:(aw B j).vs=l.flatMap f:=by kernel_rfl)(hf:∀ x,(f x).length=sz:=by intro _;rfl)
  (he:bF P (execOp (ev Γ) (ao ops i)) (f (l.getD e d))=some (.value v,jB (aw B j).b (0+e*sz) (f (l.getD e d)).length):=by kernel_rfl):AG M P n N R X ops k0 L Γ w :=
 aL i t v (fun w' hx=>bx _ _ _ _ he (fun q a u ha hu=>by
  rw[dR _ _ _ _ _ ha,((s.st.own _ (bh (oT hj))).mo hx hM).cell,hB];rw[←ew hf d l e hk] at hu
  have hq:q<sz:=by
   rcases Nat.lt_or_ge q sz with hl|hl
   ·exact hl
   ·rw[List.getElem?_eq_none (by simp;omega)] at hu;cases hu
  rw[List.getElem?_take_of_lt hq,List.getElem?_drop] at hu
  rw[Nat.zero_add];exact hu)) H hc
theorem wG (t j:Nat){f:FuncId}{args:Array Value}{Φ:Value→Prop}(s:SS w0 h0 w h B Rs F)(c:∀ hp,G w hp→AllF F hp→Seg hp (aw B j).b 0 (aw B j).vs→Calls P f args w (Ret w hp (fun v _=>Φ v)))(H:∀ v w' h',Up w h w' h'→SS w0 h0 w' h' B Rs F→Φ v→LG P n N R X ops (k+1) ((t,v)::Γ) w')(hj:decide (j<B.length)=true:=by kernel_rfl)(hc:cL ops Γ k t n=true:=by kernel_rfl)(hr:(execOp (ev Γ) (ao ops k)).run P w=.ok (.enter f args) w:=by kernel_rfl):LG P n N R X ops k Γ w :=
 f7 t (s.lends (oT hj) c) (fun v w' h' u hΦ=>H v w' h' u (s.step u) hΦ) hc hr
theorem SS.lends2 (s:SS w0 h0 w h B Rs F){i j:Nat}(hi:i<B.length)(hj:j<B.length)(hne:i≠j){f:FuncId}{args:Array Value}{Φ:Value→Prop}(c:∀ hp,G w hp→AllF F hp→Seg hp (aw B i).b 0 (aw B i).vs→Seg hp (aw B j).b 0 (aw B j).vs→Calls P f args w (Ret w hp (fun v _=>Φ v))):Calls P f args w (Ret w h (fun v _=>Φ v)):=by
 have hm:=bh hi;have hm2:=bh hj;have hb:(aw B j).b≠(aw B i).b:=ee s.st (decide_eq_true hj) (decide_eq_true hi) (by simpa using hne.symm);obtain ⟨hp,g,gw,sg,ho⟩:=wK s.g (s.st.jk _ hm) (s.st.own _ hm);have hj2:hp[(aw B j).b]?=some junk:=by rw[ho _ hb];exact s.st.jk _ hm2
 obtain ⟨hp2,g2,gw2,sg2,ho2⟩:=wK g hj2 (s.st.own _ hm2);refine (c hp2 g2 ((s.f.gw s.mo gw).gw s.mo gw2) (sg.gw gw2) sg2).mono ?_;rintro e w' ⟨v,h',he,u,hΦ⟩;obtain ⟨h1,u1⟩:=oB hj2 ho2 (g.sz g2) u;obtain ⟨h2,u2⟩:=oB (s.st.jk _ hm) ho (s.g.sz g) u1;exact ⟨v,h2,he,u2,hΦ⟩
theorem FK (t i j:Nat){f:FuncId}{args:Array Value}{Φ:Value→Prop}(s:SS w0 h0 w h B Rs F)(c:∀ hp,G w hp→AllF F hp→Seg hp (aw B i).b 0 (aw B i).vs→Seg hp (aw B j).b 0 (aw B j).vs→Calls P f args w (Ret w hp (fun v _=>Φ v)))(H:∀ v w' h',SS w0 h0 w' h' B Rs F→Φ v→LG P n N R X ops (k+1) ((t,v)::Γ) w')(hij:(decide (i<B.length) && decide (j<B.length) && (i != j))=true:=by kernel_rfl)(hc:cL ops Γ k t n=true:=by kernel_rfl)(hr:(execOp (ev Γ) (ao ops k)).run P w=.ok (.enter f args) w:=by kernel_rfl):LG P n N R X ops k Γ w:=by
 simp only[Bool.and_eq_true,decide_eq_true_eq,bne_iff_ne,ne_eq] at hij
 exact lC t s (s.lends2 hij.1.1 hij.1.2 hij.2 c) H hc hr
theorem wU {w w':World}{h hp h':Hp}{b:Nat}{M:List Nat}(hj:h[b]?=some junk)(ho:∀ c,c≠b→hp[c]?=h[c]?)(hsz:hp.size=h.size)(u:UpM M w hp w' h'):∃ h'',UpM M w h w' h''∧(∀ c,c≠b→h''[c]?=h'[c]?):=by
 have hlt:=az hj;have hlt':b<h'.size:=Nat.lt_of_lt_of_le oM u.gr.size;refine ⟨h'.setIfInBounds b junk,⟨u.mo,⟨by simp;rw[←hsz];exact u.gr.size,fun c hc=>?_⟩,⟨by simp;exact u.g.size,fun c=>?_⟩⟩,fun c hc=>Array.getElem?_setIfInBounds_ne (Ne.symm hc)⟩
 ·by_cases e:b=c
  ·subst e;rw[Array.getElem?_setIfInBounds_self_of_lt hlt',hj]
  ·rw[Array.getElem?_setIfInBounds_ne e,u.gr.blk c oM,ho c (Ne.symm e)]
 ·by_cases e:b=c
  ·subst e;right;rw[Array.getElem?_setIfInBounds_self_of_lt hlt']
  ·rw[Array.getElem?_setIfInBounds_ne e];exact u.g.blk c
theorem Fk (t i j:Nat){f:FuncId}{args:Array Value}{Φ:Value→World→Prop}(s:SS w0 h0 w h B Rs F)(c:∀ hp,G w hp→AllF F hp→hp[(aw B i).b]?=some junk→Seg hp (aw B j).b 0 (aw B j).vs→Calls P f args w (dQ (aw B i).b w hp (fun v w' _=>Φ v w')))(H:∀ v w' h',UpM [(aw B i).b] w h w' h'→Φ v w'→LG P n N R X ops (k+1) ((t,v)::Γ) w')(hij:(decide (i<B.length) && decide (j<B.length) && (i != j))=true:=by kernel_rfl)(hc:cL ops Γ k t n=true:=by kernel_rfl)(hr:(execOp (ev Γ) (ao ops k)).run P w=.ok (.enter f args) w:=by kernel_rfl):LG P n N R X ops k Γ w:=by
 simp only[Bool.and_eq_true,decide_eq_true_eq,bne_iff_ne,ne_eq] at hij
 have hm:=bh hij.1.2;have hb:(aw B i).b≠(aw B j).b:=ee s.st (decide_eq_true hij.1.1) (decide_eq_true hij.1.2) (by simpa using hij.2);obtain ⟨hp,g,gw,sg,ho⟩:=wK s.g (s.st.jk _ hm) (s.st.own _ hm);refine dL (rb:=(aw B i).b) (Φ:=fun v w' _=>Φ v w') (h:=h) t ((c hp g (s.f.gw s.mo gw) (by rw[ho _ hb];exact s.st.jk _ (bh hij.1.1)) sg).mono ?_) (fun v w' h' u hΦ=>H v w' h' u hΦ) hc hr;rintro e w' ⟨v,h',he,u,hΦ⟩;obtain ⟨h'',u',_⟩:=wU (s.st.jk _ hm) ho (s.g.sz g) u;exact ⟨v,h'',he,u',hΦ⟩
theorem GA {α:Type}(t j:Nat)(x y:Operand)(tt e:TypeId)(f:α→List Value)(d:α)(A:Option Addr)(l2:List α)(m m2 c dc:Nat)(s:SS w0 h0 w h B Rs F)(so:SlO 1 f d h A l2)(hm2:l2.length=m2)(hmm:m2=m)(hpos:0<m)(hlen:(aw B j).vs.length=m)
  (H:∀ w',SS w0 h0 w' h (fQ B j (l2.flatMap f)) Rs F→LG P n N R X ops (k+1) ((t,.int .i64 (m:Nat))::Γ) w')(hm47:m≤1099511627776:=by omega)(hc:cL ops Γ k t n=true:=by kernel_rfl)(hj:decide (j<B.length)=true:=by kernel_rfl)
  (hf:∀ x,(f x).length=1:=by intro _;rfl)(h1:∀ x,(f x).all (·.oneCell')=true:=by intro _;kernel_rfl)(ho:(ao ops k).op=.call { callee:=.builtin .copy,args:=#[x,y],argTypes:=#[tt,tt] }:=by kernel_rfl)(hx:ev Γ x=.slice (some ⟨(aw B j).b,0,none⟩) m dc:=by kernel_rfl)(hy:ev Γ y=.slice A m2 c:=by kernel_rfl)
  (hu:P.underlying tt=some (.slice e):=by kernel_rfl)(hi:(P.info? e).map (·.size)=some 1:=by kernel_rfl):LG P n N R X ops k Γ w:=by
 subst hmm;have hm:=hm2;have hj':=oT hj;have hown:=s.st.own _ (bh hj');have hl:(l2.flatMap f).length=m2:=by rw[cj hf,hm];omega
 rw[so.ok oM] at hy
 have hrun:=run_copy_row (P:=P) w tt tt (ao ops k).type e (aw B j).b 0 m2 dc ⟨aB A,aO A,none⟩ m2 c (aw B j).vs.toArray (aw B j).t (l2.flatMap f) hu hi hown (by rw[hl];exact (Nat.min_self m2).symm) (iN s.g (so.flat hf)) (by rw[hl];simp[hlen]) (fun u hu=>by
  obtain ⟨a,_,ha⟩:=List.mem_flatMap.1 hu;exact (List.all_eq_true.1 (h1 a)) u ha)
 have e1:((aw B j).vs.toArray.toList.take 0++l2.flatMap f++(aw B j).vs.toArray.toList.drop (0+(l2.flatMap f).length)).toArray=(l2.flatMap f).toArray:=by
  rw[hl];simp[List.drop_eq_nil_of_le,hlen]
 rw[e1,hl] at hrun
 have p:Put (aw B j).b w (w.setRow (aw B j).b (l2.flatMap f).toArray):=⟨rfl,rfl,rfl,by simp,fun c hc=>setRow_other _ _ _ _ hc⟩
 have ho':Own (w.setRow (aw B j).b (l2.flatMap f).toArray) (aw B j).b (aw B j).t (bQ (aw B j).vs 0 (l2.flatMap f)):=by
  have e2:bQ (aw B j).vs 0 (l2.flatMap f)=l2.flatMap f:=by
   have:=iJ (l2.flatMap f) (aw B j).vs [] (by rw[hlen,hl])
   simpa using this
  rw[e2];exact setRow_heap _ _ _ _ _ _ hown
 have s':=s.st.put s.g0 hj' p ho'
 have e2:bQ (aw B j).vs 0 (l2.flatMap f)=l2.flatMap f:=by
  have:=iJ (l2.flatMap f) (aw B j).vs [] (by rw[hlen,hl])
  simpa using this
 unfold ft at s'
 rw[e2] at s'
 refine LG.val t _ _ (bv hc).1 (bv hc).2 ?_ (H _ (s.put0 hj' p s' (iT hj')))
 unfold execOp
 have e3:goInt m2=.int .i64 (m2:Nat):=rfl;rw[e3] at hrun
 simp only[ho,resolve,invoke,builtin,Sem.run_bind,Sem.run_pure,Result.andThen_ok,List.map_toArray,List.map_cons,List.map_nil,hx,hy,hrun]
theorem nT {Q:Exit→Act→World→Prop}{i:Nat}{oi:Oper}{v:Value}{S:World→Prop}(hi:ops[i]?=some oi)(hsel:∀ (j:Nat) (o:Oper) cs b,ops[j]?=some o→o.op≠.select cs b)
    (hQ:∀ c a w,Q (.panic c) (a.put oi.dst v) w→Q (.panic c) a w)(hcl:∀ w w',S w→Tl M w w'→S w') :
    ∀ (n:Nat) (L:Array Bool) (a:Act) (w:World),
      (∀ j oj,ops[j]?=some oj→j≠i→L.getD j true=false→(∀ e∈oj.after,Region.binds .any e=true→e.on≠i)→oi.apart ops oj=true) →
      i∈Region.ready .any ops L→YieldsIf P ops S oi v a→S w→mg M P ops Q 0 n (L.setIfInBounds i true) (a.put oi.dst v) w→mg M P ops Q 0 (n+1) L a w:=by
  intro n
  induction n with
  | zero =>
    intro L a w _ hr hy hS H;refine ⟨fun h=>(by rw[h] at hr;cases hr),fun j hj=>?_⟩
    by_cases hji:j=i
    · subst hji;exact hy.wpOp hi hS ⟨Rl.refl _ _ _ _,H⟩
    · have:=ready_mono hj hji
      rw[H.1] at this
      cases this
  | succ n ih =>
    intro L a w hfree hr hy hS H;refine ⟨fun h=>(by rw[h] at hr;cases hr),fun j hj=>?_⟩
    by_cases hji:j=i
    · subst hji;exact hy.wpOp hi hS ⟨Rl.refl _ _ _ _,H⟩
    · have h1:=H.2 j (ready_mono hj hji)
      obtain ⟨hjun,oj,hoj,hall⟩:=mem_ready.1 hj
      have hnot:∀ e∈oj.after,Region.binds .any e=true→e.on≠i:=fun e he hb heq=>by
        have h1:=hall e he hb;have h0:=(mem_ready.1 hr).1;rw[heq] at h1
        obtain ⟨hl,h0'⟩:=Cs h0
        simp[Array.getD,hl,h0'] at h1
      have h2:=wpOp_putIf hoj (hfree j oj hoj hji hjun hnot) (fun cs b=>hsel i oi cs b hi) (fun cs b=>hsel j oj cs b hoj) hQ hy h1
      have hfree':∀ k ok,ops[k]?=some ok→k≠i→(L.setIfInBounds j true).getD k true=false →
          (∀ e∈ok.after,Region.binds .any e=true→e.on≠i)→oi.apart ops ok=true:=fun k ok hk hki hun hno=>by
        refine hfree k ok hk hki ?_ hno
        by_cases hjk:j=k
        · subst hjk;exact hjun
        · rw[getD_set_ne true hjk] at hun;exact hun
      refine wpOp_mono (fun a' w' h3=>⟨h3.2.1,ih (L.setIfInBounds j true) a' w' hfree' (ready_mono hr (Ne.symm hji)) h3.1 (hcl _ _ hS (h3.2.1.2 (Nat.zero_le _))) ?_⟩) h2;rw[Array.setIfInBounds_comm _ _ hji];exact h3.2.2
def xd (n:Nat)(ops:Array Oper)(L:Array Bool)(Γ:bM)(i t:Nat):Bool :=
  decide (i<ops.size) && Region.noSelect ops && Region.free .any ops L i && (Region.ready .any ops L).contains i && ((ao ops i).dst == some t) && decide (t<n) && a7 Γ (ao ops i) && (bg ops Γ (ao ops i) == some true)
theorem Bi (i t:Nat)(v:Value){S:World→Prop}(hcl:∀ w w',S w→Tl M w w'→S w')(hS:S w)(hv:∀ w',S w'→(execOp (ev Γ) (ao ops i)).run P w'=.ok (.value v) w')(H:AG M P n N R X ops 0 (L.setIfInBounds i true) ((t,v)::Γ) w)(hc:xd n ops L Γ i t=true):AG M P n N R X ops 0 L Γ w:=by
 unfold xd at hc
 simp only[Bool.and_eq_true,decide_eq_true_eq,beq_iff_eq] at hc
 obtain ⟨⟨⟨⟨⟨⟨⟨h1,h2⟩,h3⟩,h4⟩,h5⟩,h6⟩,h7⟩,h8⟩:=hc;have hr:i∈Region.ready .any ops L:=by simpa using h4
 have hg:=bE (ops:=ops) h1;intro a ka;have e1:=ka.exec (Region.noSelect_spec h2 i _ · · hg) h7;have HA:=H _ (ka.put h6 v)
 unfold A at *
 rw[dP hr];refine nT (S:=S) hg (Region.noSelect_spec h2) (fun c a w hq=>hq.elim) hcl _ _ _ _ (fun j oj hj hji hun=>Region.free_spec hg h3 j oj hj hji hun) hr (.inl ⟨ka.want h8,fun w' hs'=>by rw[e1];exact hv w' hs'⟩) hS ?_;rw[h5];exact HA
theorem zV (i t:Nat)(v:Value)(H:AG M P n N R X ops 0 (L.setIfInBounds i true) ((t,v)::Γ) w)(hc:xd n ops L Γ i t=true:=by kernel_rfl)(hv:∀ w,(execOp (ev Γ) (ao ops i)).run P w=.ok (.value v) w:=by intro _;kernel_rfl):AG M P n N R X ops 0 L Γ w :=
 Bi i t v (S:=fun _=>True) (fun _ _ _ _=>trivial) trivial (fun w' _=>hv w') H hc
theorem zO {K:Nat}(i t:Nat)(ps:List (Nat × Nat × Nat))(v:Value)(hz:M.z=some (K,[]))(hK:K≤w.heap.size)(s:SS w0 h0 w h B Rs F)(hlt:∀ p∈ps,(aw B p.1).b<K)(H:AG M P n N R X ops 0 (L.setIfInBounds i true) ((t,v)::Γ) w)(hc:xd n ops L Γ i t=true:=by kernel_rfl)(hp:bO B ps=true:=by kernel_rfl)(he:bF P (execOp (ev Γ) (ao ops i)) (cg B ps)=some (.value v,bH B ps):=by kernel_rfl):AG M P n N R X ops 0 L Γ w :=
 Bi i t v (S:=fun w'=>K≤w'.heap.size∧∀ b,b<K→w'.heap[b]?=w.heap[b]?) (fun w1 w2 hs ht=>by
  obtain ⟨h1,h2⟩:=ht K [] hz;exact ⟨Nat.le_trans hs.1 h1,fun b hb=>(h2 b hb List.not_mem_nil).trans (hs.2 b hb)⟩) ⟨hK,fun _ _=>rfl⟩ (fun w' hs=>bx _ _ _ _ he (fun q a u ha hu=>by
  obtain ⟨p,hpm,hpa⟩:=og ps q a ha;have:=cd (fun x hx=>s.st.own x hx) ps hp q a u ha hu;rw[←this]
  unfold World.cell?
  rw[hs.2 _ (hpa▸hlt p hpm)])) H hc
theorem zC (i t:Nat){f:FuncId}{args:Array Value}(c:Calls P f args w fun e w'=>∃ v,e=.returned v∧Tl M w w'∧AG M P n N R X ops 0 (L.setIfInBounds i true) ((t,v)::Γ) w')(hc:(fI ops 0 L i && a7 Γ (ao ops i) && ((ao ops i).dst == some t) && decide (t<n))=true:=by kernel_rfl)(hw:bg ops Γ (ao ops i)=some true:=by kernel_rfl)
  (hr:(execOp (ev Γ) (ao ops i)).run P w=.ok (.enter f args) w:=by kernel_rfl):AG M P n N R X ops 0 L Γ w:=by
 simp only[Bool.and_eq_true,decide_eq_true_eq,beq_iff_eq] at hc
 obtain ⟨⟨⟨h1,h2⟩,h3⟩,h4⟩:=hc;obtain ⟨hg,hs⟩:=iA h1;intro a ka;refine A.one h1 hg (R':=fun v w'=>Tl M w w'∧AG M P n N R X ops 0 (L.setIfInBounds i true) ((t,v)::Γ) w') ⟨ka.want hw,.inr (.inr ⟨f,args,?_,c⟩)⟩ (fun v w' hq=>hq.1) (fun v w' hq=>?_)
 ·rw[ka.exec (Region.noSelect_spec hs i _ · · hg) h2];exact hr
 ·rw[h3];exact hq.2 _ (ka.put h4 v)
theorem Dm {K:Nat}{w':World}(hz:M.z=some (K,[]))(hK:K≤w.heap.size)(x:Ext w w'):Tl M w w':=fun K' bs e=>by
 rw[hz] at e
 injection e with e;injection e with e1 e2
 subst e1 e2;exact ⟨x.size,fun b hb _=>Below.block x b oM⟩
theorem Eu {K b:Nat}{w':World}(hz:M.z=some (K,[]))(hK:K≤w.heap.size)(hb:K≤b)(x:Mo [b] w w'):Tl M w w':=fun K' bs e=>by
 rw[hz] at e
 injection e with e;injection e with e1 e2
 subst e1 e2;exact ⟨x.size,fun c hc _=>x.blk c oM (by simp;omega)⟩
theorem oK {K:Nat}(i t:Nat){f:FuncId}{args:Array Value}{Φ:Value→Hp→Prop}(c:Calls P f args w (Ret w h Φ))(hz:M.z=some (K,[]))(hK:K≤w.heap.size)(H:∀ v w' h',Up w h w' h'→K≤w'.heap.size→Φ v h'→AG M P n N R X ops 0 (L.setIfInBounds i true) ((t,v)::Γ) w')(hc:(fI ops 0 L i && a7 Γ (ao ops i) && ((ao ops i).dst == some t) && decide (t<n))=true:=by kernel_rfl)(hw:bg ops Γ (ao ops i)=some true:=by kernel_rfl)
  (hr:(execOp (ev Γ) (ao ops i)).run P w=.ok (.enter f args) w:=by kernel_rfl):AG M P n N R X ops 0 L Γ w :=
 zC i t (c.mono fun e w' ⟨v,h',he,u,hΦ⟩=>⟨v,he,Dm hz hK u.ext,H v w' h' u (Nat.le_trans hK u.ext.size) hΦ⟩) hc hw hr
theorem GR {K rb:Nat}(i t:Nat){f:FuncId}{args:Array Value}{Φ:Value→World→Hp→Prop}(c:Calls P f args w (dQ rb w h Φ))(hz:M.z=some (K,[]))(hK:K≤w.heap.size)(hrb:K≤rb)(H:∀ v w' h',UpM [rb] w h w' h'→K≤w'.heap.size→Φ v w' h'→AG M P n N R X ops 0 (L.setIfInBounds i true) ((t,v)::Γ) w')(hc:(fI ops 0 L i && a7 Γ (ao ops i) && ((ao ops i).dst == some t) && decide (t<n))=true:=by kernel_rfl)(hw:bg ops Γ (ao ops i)=some true:=by kernel_rfl)
  (hr:(execOp (ev Γ) (ao ops i)).run P w=.ok (.enter f args) w:=by kernel_rfl):AG M P n N R X ops 0 L Γ w :=
 zC i t (c.mono fun e w' ⟨v,h',he,u,hΦ⟩=>⟨v,he,Eu hz hK hrb u.mo,H v w' h' u (Nat.le_trans hK u.mo.size) hΦ⟩) hc hw hr
theorem d6 (s:SS w0 h0 w h B Rs F)(j:Nat)(hj:decide (j<B.length)=true:=by kernel_rfl):(aw B j).b<w.heap.size:=by rw[s.g.size];exact az (s.jk j hj)
theorem DC (t b o len cap sz:Nat)(i:Int)(j e:Nat)(H:LG P n N R X ops (k+1) ((t,.pointer (some ⟨b,0+e*sz,none⟩))::Γ) w)(hc:cL ops Γ k t n=true:=by kernel_rfl)(he:Au P (ev Γ) (ao ops k)=some (.slice (some ⟨b,o,none⟩) len cap,.int .i64 i,sz):=by kernel_rfl)(hk:i=j:=by omega)(hlt:j<len:=by omega)(hoe:o+j*sz=0+e*sz:=by omega):LG P n N R X ops k Γ w :=
 LG.val t _ w (bv hc).1 (bv hc).2 (hoe▸fK he rfl hk hlt w) H
theorem Gm (i t b o len cap sz:Nat)(x:Int)(j e:Nat)(H:AG M P n N R X ops k0 (L.setIfInBounds i true) ((t,.pointer (some ⟨b,0+e*sz,none⟩))::Γ) w)(hc:cE n ops k0 [] L Γ i t=true:=by kernel_rfl)(he:Au P (ev Γ) (ao ops i)=some (.slice (some ⟨b,o,none⟩) len cap,.int .i64 x,sz):=by kernel_rfl)(hk:x=j:=by omega)(hlt:j<len:=by omega)(hoe:o+j*sz=0+e*sz:=by omega):AG M P n N R X ops k0 L Γ w :=
 aV i t _ H hc (fun w=>hoe▸fK he rfl hk hlt w)
theorem GQ (i t b o len cap sz:Nat)(x:Int)(j e:Nat)(H:AG M P n N R X ops k0 (L.setIfInBounds i true) ((t,.pointer (some ⟨b,0+e*sz,none⟩))::Γ) w)(hc:cT n ops k0 L Γ i t=true:=by kernel_rfl)(he:Au P (ev Γ) (ao ops i)=some (.slice (some ⟨b,o,none⟩) len cap,.int .i64 x,sz):=by kernel_rfl)(hk:x=j:=by omega)(hlt:j<len:=by omega)(hoe:o+j*sz=0+e*sz:=by omega):AG M P n N R X ops k0 L Γ w :=
 T.val i t _ w (na hc).1 (na hc).2 (hoe▸fK he rfl hk hlt w) H
theorem GE (t b o len cap sz:Nat)(i:Int)(j o2:Nat)(H:LG P n N R X ops (k+1) ((t,.slice (some ⟨b,o2,none⟩) (len-j) (cap-j))::Γ) w)(hc:cL ops Γ k t n=true:=by kernel_rfl)(he:Dq P (ev Γ) (ao ops k)=some (.slice (some ⟨b,o,none⟩) len cap,some (.int .i64 i),none,sz):=by kernel_rfl)(hk:i=j:=by omega)(hlt:j≤len:=by omega)(hne:cap≠j:=by omega)(hoe:o2=o+j*sz:=by omega):LG P n N R X ops k Γ w:=by
 have h:=nC j he hk hlt w;rw[if_neg hne] at h
 have e:(some (⟨b,o,none⟩:Addr)).map (·.add (j*sz))=some ⟨b,o2,none⟩:=by subst hoe;simp[Addr.add]
 rw[e] at h
 exact LG.val t _ w (bv hc).1 (bv hc).2 h H
theorem SS.torow {α:Type}(s:SS w0 h0 w h B Rs F)(j:Nat)(f:α→List Value)(l:List α)(sz m:Nat)(hm:l.length=m)(hlen:m≤1099511627776)(hB:(aw B j).vs=l.flatMap f:=by kernel_rfl)(hf:∀ x,(f x).length=sz:=by intro _;rfl)(hj:decide (j<B.length)=true:=by kernel_rfl) :
    SS w0 h0 w h (B.eraseIdx j) (⟨(aw B j).t,sz,some ⟨(aw B j).b,0,none⟩,m,m,l.flatMap f⟩::Rs) F:=by
  have hj':=oT hj;have hm0:=bh hj';have ho:=s.st.own _ hm0
  have hne:∀ x∈B.eraseIdx j,x.b≠(aw B j).b:=by
    intro x hx hb;obtain ⟨i,hi,he⟩:=List.mem_iff_getElem.1 hx;rw[List.getElem_eraseIdx] at he
    rw[List.length_eraseIdx_of_lt hj'] at hi
    split at he
    · rename_i hl
      refine ee s.st (i:=i) (j:=j) (decide_eq_true oM) hj (by simp;omega) ?_;rw[←hb,←he];simp[aw,show i<B.length by omega]
    · rename_i hl
      refine ee s.st (i:=i+1) (j:=j) (decide_eq_true oM) hj (by simp;omega) ?_;rw[←hb,←he];simp[aw,show i+1<B.length by omega]
  refine ⟨s.g0,⟨s.st.up,fun x hx=>s.st.own x (List.mem_of_mem_eraseIdx hx),fun x hx=>s.st.jk x (List.mem_of_mem_eraseIdx hx),fun x hx=>s.st.lo x (List.mem_of_mem_eraseIdx hx),s.st.nd.sublist ((List.eraseIdx_sublist B j).map (·.b))⟩,?_,?_,s.mo,s.f⟩
  · intro r hr
    rcases List.mem_cons.1 hr with rfl|hr
    · refine ⟨⟨by rw[cj hf,hm],.inr ⟨(aw B j).b,m,(aw B j).vs.toArray,rfl,s.st.lo _ hm0,ho,Nat.le_refl _,by unfold maxLen;omega,by rw[hB];simp[cj hf,hm],by rw[hB];simp[List.take_of_length_le,cj hf,hm]⟩⟩,?_,?_⟩
      · intro b hb
        have:(aw B j).b=b:=by simpa [Rw.v,Value.ownBlock] using hb
        rw[←this];exact s.st.jk _ hm0
      · intro b hb hmem
        have:(aw B j).b=b:=by simpa [Rw.v,Value.ownBlock] using hb
        obtain ⟨x,hx,e⟩:=List.mem_map.1 hmem;exact hne x hx (e.trans this.symm)
    · exact (s.ro r hr).sub _ (fun b hb=>by
        obtain ⟨x,hx,e⟩:=List.mem_map.1 hb;exact List.mem_map.2 ⟨x,List.mem_of_mem_eraseIdx hx,e⟩)
  · refine List.pairwise_cons.2 ⟨fun r hr b hb hv=>?_,s.ap⟩
    have:(aw B j).b=b:=by simpa [Rw.v,Value.ownBlock] using hb
    exact (s.ro r hr).ap b hv (this▸List.mem_map.2 ⟨_,hm0,rfl⟩)
theorem Du {α:Type}(t j m b2:Nat)(l:List α)(f:α→List Value)(d x:α)(bt:Nat)(z:Value)(s:SS w0 h0 w h B Rs F)(sg:Seg h b2 0 (f x))(hm:l.length=m)(hlen:m≤1000000000)
  (H:∀ A' c' w' h',SS w0 h0 w' h' (B.eraseIdx j) Rs ((fun h=>SlO 1 f d h A' (l++[x]))::F)→m+1≤c'→LG P n N R X ops (k+1) ((t,.slice A' (m+1) c')::Γ) w')(hc:cL ops Γ k t n=true:=by kernel_rfl)(hj:decide (j<B.length)=true:=by kernel_rfl)(hB:(aw B j).vs=l.flatMap f:=by kernel_rfl)
  (he:vr P (ev Γ) (ao ops k)=some (.slice (some ⟨(aw B j).b,0,none⟩) m m,.slice (some ⟨b2,0,none⟩) 1 1,(aw B j).t,z,1,bt):=by kernel_rfl)(hzs:z.cells.size=1:=by kernel_rfl)(hf:∀ x,(f x).length=1:=by intro _;rfl)(h1:(f x).all (·.oneCell')=true:=by kernel_rfl)(hbt:bt≤100:=by decide):LG P n N R X ops k Γ w:=by
 have s1:=s.torow j f l 1 m hm oM hB hf hj
 refine FB t 0 (f x) s1 (jS s1.g sg) (hf x) (fun u hu=>(List.all_eq_true.1 h1) u hu) (by simp) rfl hc he hzs kD oM (by
  have:(m+1)*bt≤(m+1)*100:=Nat.mul_le_mul_left _ hbt
  omega) (fun A' c' w' h' s'=>?_)
 have e1:m+1=(l++[x]).length:=by simp[hm]
 have e2:l.flatMap f++f x=(l++[x]).flatMap f:=by simp
 rw[e2,List.set_cons_zero] at s'
 have s2:SS w0 h0 w' h' (B.eraseIdx j) (⟨(aw B j).t,1,A',c',(l++[x]).length,(l++[x]).flatMap f⟩::Rs) F:=by rw[←e1];exact s'
 obtain ⟨h'',s3,hc'⟩:=s2.pubr 0 d hf rfl (by simp);exact H A' c' w' h'' s3 (by rw[e1];exact hc')
theorem SS.perm (s:SS w0 h0 w h B Rs F){B':List Bx}(p:B.Perm B'):SS w0 h0 w h B' Rs F :=
 ⟨s.g0,⟨s.st.up,fun x hx=>s.st.own x (p.mem_iff.2 hx),fun x hx=>s.st.jk x (p.mem_iff.2 hx),fun x hx=>s.st.lo x (p.mem_iff.2 hx),(p.map (·.b)).nodup_iff.1 s.st.nd⟩,
  fun r hr=>(s.ro r hr).sub _ (fun b hb=>(p.map (·.b)).mem_iff.2 hb),s.ap,s.mo,s.f⟩
end
theorem iP (a:Nat)(A:Option Addr)(c:Nat)(hc:(lim a).length≤c)(hLa:(lim a).length≤4000000000)(k:Nat)(hk:k≤4000000000)(w:World)(h:Hp)(g:G w h)(hA:S3 A (lim a) h):CR 183 #[.slice A ((lim a).length) c,nV k] w h (fun v h1=>RN h1 v (a*2^k)):=by
 have hs:=((sS g).aS hA);obtain ⟨L,hL⟩:∃ L:List Nat,L=List.replicate (k/32) 0:=⟨_,rfl⟩;have hLl:L.length=k/32:=by rw[hL,List.length_replicate]
 refine go Tryz.func183 [(0,qS A ((lim a).length) c),(1,nV k)] rfl (ab hs [.v 4 (sZ)] (ah (ab hs [.m 11 1] ?_)));have ⟨hb1,phb1⟩:=dT (p:=(0:Int)≤(k:Int)) oM;refine lB 12 hb1 (ak (ab hs [.m 13 1] (lV 14 (nV L.length) ?_ (hr:=aI (aI (cJ (t:=3) (u:=3) (x:=.tmp 13) (y:=.const (iV 32)) (k:=.i64) (a:=(k:Int)) (b:=(32:Int)) kR kR kR oM _) (cI k 32 oM)) oM))));refine lK 15 128 L.length 1 4 (uW 0) aW 0 hs (fun b2 w3 h4 hs=>?_);have hl5:(List.replicate L.length 0).length=L.length:=by simp
 refine lL hs [.m 5 15] (aG (lL hs [.v 6 (uV 0)] (ah (av ?_))));rw[show List.replicate L.length 0=L by rw[hLl];exact hL.symm] at hs
 replace hs:=hs.torow 0 aW L 1 L.length rfl oM;replace hs:=hs.to [] [⟨128,1,sB b2,L.length,(L).length,(L).flatMap aW⟩];refine lL hs [.v 7 (iV 0)] (a8 ?_);refine bI _ (CG.loop (fun μ_ Γ w_=>∃ (i:Nat) (sA:Option Addr) (sc:Nat) (l:List Nat) (cy:Nat) (h_:Hp),μ_=(lim a).length+1-i∧Γ=[(0,qS A ((lim a).length) c),(1,nV k),(4,sZ),(7,nV i),(6,mV cy),(5,qS sA ((l).length) sc)]∧SS w h w_ h_ [] [⟨128,1,sA,sc,(l).length,(l).flatMap aW⟩] [S3 A (lim a)]∧i≤(lim a).length+1∧l.length=L.length+i∧Ld l∧cy<2^(k%32)∧aj 4294967296 l+4294967296^l.length*cy=4294967296^L.length*(2^(k%32)*aj 4294967296 ((lim a).take i))) _ ⟨0,sB b2,L.length,L,0,h4,rfl,rfl,hs.to _ _,Nat.zero_le _,rfl,(by rw[hL];exact Ld.rep _),Nat.two_pow_pos _,(by rw[hL,cO];simp[aj])⟩ ?_);rintro _ _ w6 ⟨i,sA,sc,l,cy,h7,hm8,rfl,hs,hi,hll,hW,hcy,inv⟩;have hai:=(Ld.lim a).get i;refine cQ (ab hs [.m 16 7,.m 17 0,.v 18 (nV ((lim a).length))] ?_);cases hb9:(decide ((i:Int)≤(((lim a).length:Nat):Int)))
 ·
  have phb9:=oF hb9;refine lB 19 hb9 (ag (CG.exit ?_))
  show CG _ _ _ _ _ _ _ _
  refine ab hs [.m 38 5] ?_;have hin:i=(lim a).length+1:=by omega
  rw[List.take_of_length_le (show (lim a).length≤i by omega),cn,hll] at inv
  have hE:aj 4294967296 l=a*2^k:=p6 (c:=cy) (by rw[hll,inv,s8 k,hLl];ac_rfl) (by rw[hll,s8 k];exact qM (bW a) oM oM);obtain ⟨_,hs,za⟩:=hs.pubr 0 (A:=sA) (c:=sc) (l:=l) (f:=aW) (ty:=128) (sz:=1) 0 (fun _=>rfl);exact ai 39 hs (gL sA sc l ((l).length) rfl oM za _ _ hs.g hs.f.1) (fun _ _ hs=>lL hs [.m 4 39] (ae hs [] (qS sA (tl l ((l).length)) sc) (RN.trim hW hE rfl za hs.f.1)))
 have phb9:=oT hb9;refine lB 19 hb9 (ak (cK (cQ (kZ (ab hs [.m 22 6,.m 23 0,.m 24 7] (ai 25 hs (DD A c (lim a) ((lim a).length) rfl i oM (Ld.lim _) _ _ hs.g hs.f.1) (fun _ _ hs=>lL hs [.m 26 1] (lV 27 (nV (k%32)) ?_ (hr:=aI (dC (t:=3) (u:=3) (x:=.tmp 26) (y:=.const (iV 32)) (k:=.i64) (a:=(k:Int)) (b:=(32:Int)) kR kR kR oM _) (bY k 32))))))))));refine lV 28 (mV (k%32)) ?_ (hr:=rU (((k%32:Nat):Int)) kR (aZ oM oM));refine lV 29 (mV (((lim a).getD i 0)*2^(k%32)%18446744073709551616)) ?_ (hr:=fB (t:=39) (u:=131) (x:=.tmp 25) (y:=.tmp 28) (ky:=.u64) (a:=((lim a).getD i 0)) (n:=(k%32)) kR kR kR _);obtain ⟨hS1,hS2,hS3⟩:=E2 (x:=(lim a).getD i 0) (p:=k%32) (c:=cy) oM hai hcy;refine lV 30 (mV (cy+(lim a).getD i 0*2^(k%32))) ?_ (hr:=aI (fR (t:=39) (u:=39) (x:=.tmp 22) (y:=.tmp 29) (a:=cy) (b:=(((lim a).getD i 0)*2^(k%32)%18446744073709551616:Nat)) kR kR kR oM oM _) (by rw[hS1]));refine lL hs [.m 6 30] (aG (lL hs [.m 31 5,.m 32 6] (lV 33 (mW ((cy+(lim a).getD i 0*2^(k%32))%4294967296)) ?_ (hr:=rT (((cy+(lim a).getD i 0*2^(k%32):Nat):Int)) kR (fu _)))));refine lR 34 128 1 ([mW ((cy+(lim a).getD i 0*2^(k%32))%4294967296)]) hs (fun zb _ _ hs=>lY 35 0 128 1 sc sA l aW ((cy+(lim a).getD i 0*2^(k%32))%4294967296:Nat) 4 zb (uW 0) hs hs.f.1 (fun zc zd _ ze hs=>lL hs [.m 5 35] (lN (kQ (lL hs [.m 36 6] (lV 37 (mV ((cy+(lim a).getD i 0*2^(k%32))/4294967296)) ?_ (hr:=aI (n:=Int.fdiv ((cy+(lim a).getD i 0*2^(k%32):Nat):Int) 4294967296) kR (dm _ 4294967296))))))));refine lL hs [.m 6 37] (lN (kQ (lL hs [.m 20 7] (bn 21 ((i:Nat)+1) (i+1) ?_))));refine lL hs [.m 7 21] (lD ?_);intro a_ ka;replace hs:=hs.tl;refine ⟨_,_,?_,⟨i+1,zc,zd,l++[((cy+(lim a).getD i 0*2^(k%32))%4294967296:Nat)],((cy+(lim a).getD i 0*2^(k%32))/4294967296:Nat),ze,rfl,rfl,hs.to _ _,oM,(by rw[List.length_append,hll];rfl),(hW.app (Nat.mod_lt _ kD)),hS3,(uQ kD inv hll rfl rfl)⟩,ka.to _ kR⟩
 omega
theorem nx (a:Nat)(A:Option Addr)(c:Nat)(hc:(lim a).length≤c)(hLa:(lim a).length≤4000000000)(w:World)(h:Hp)(g:G w h)(hA:S3 A (lim a) h):CV 124 #[.slice A ((lim a).length) c] w h (nV (nb a)):=by
 have hs:=((sS g).aS hA);have hpa:=@bG a;have hgl:=(Ld.lim a).get ((lim a).length-1);refine go Tryz.func124 [(0,qS A ((lim a).length) c)] rfl (ab hs [.v 2 (iV 0)] (ah (ab hs [.m 5 0,.v 6 (nV ((lim a).length))] ?_)));cases hb1:((((lim a).length:Nat):Int) == (0:Int))
 ·
  have phb1:=af hb1;refine lB 7 hb1 (ag (cK (ab hs [.m 8 0,.v 9 (nV ((lim a).length))] (bn 10 (((lim a).length:Nat)-1) (((lim a).length)-1) ?_))));refine bn 11 (32*(((lim a).length)-1:Nat)) (32*(((lim a).length)-1:Nat)) (lL hs [.m 3 11] (ah (ab hs [.m 12 0,.m 13 0,.v 14 (nV ((lim a).length))] (lI 15 (((lim a).length:Nat)-1) ?_))));refine lX 16 A ((lim a).length) c 1 (((lim a).length:Nat)-1) (((lim a).length)-1) ((hs.f.1).ok oM) (lH 17 (mW ((lim a).getD (((lim a).length)-1) 0)) hs ((hs.f.1).el (((lim a).length)-1) oM) (lL hs [.m 4 17] (a8 ?_)));refine bI _ (CG.loop (fun μ_ Γ w_=>∃ (n:Nat) (x:Nat) (h_:Hp),μ_=x∧Γ=[(2,iV 0),(3,nV n),(4,mW x)]∧SS w h w_ h_ [] [] [S3 A (lim a)]∧n+nb x=nb a∧x<4294967296∧nb a≤128000000000) _ ⟨32*((lim a).length-1),(lim a).getD ((lim a).length-1) 0,h,rfl,rfl,hs.to _ _,(rY oM).symm,hgl,(by have:=n3 a;omega)⟩ ?_);rintro _ _ w2 ⟨n,x,h3,hm4,rfl,hs,hn,hx,hm⟩;refine cQ (ab hs [.m 18 4] ?_);cases hb5:(decide ((0:Int)<(x:Int)))
  ·
   have phb5:=oF hb5;refine lB 19 hb5 (ag (CG.exit ?_))
   show CG _ _ _ _ _ _ _ _
   exact ab hs [.m 24 3,.m 2 24] (ae hs [] (nV n) (by obtain rfl:x=0:=oM;rw[x8] at hn;rw[←hn];rfl))
  have phb5:=oT hb5;refine lB 19 hb5 (ak (cK (cQ (kZ (kQ (lL hs [.m 22 3] (bn 23 ((n:Nat)+1) (n+1) ?_)))))));refine lL hs [.m 3 23] (lN (kQ (lL hs [.m 20 4] (lV 21 (mW (x/2)) ?_ (hr:=aI (n:=Int.fdiv (x:Nat) 2) kR (dm x 2))))));refine lL hs [.m 4 21] (lD ?_);intro a_ ka;refine ⟨_,_,?_,⟨n+1,x/2,h3,rfl,rfl,hs.to _ _,(by have:=wI (n:=x) oM;omega),oM,hm⟩,ka.to _ kR⟩
  omega
 have phb1:=eq_of_beq hb1;exact lB 7 hb1 (ak (ab hs [.v 2 (iV 0)] (ae hs [] (iV 0) (by obtain rfl:a=0:=oM;rfl))))
theorem oH (a:Nat)(A:Option Addr)(c:Nat)(hc:(lim a).length≤c)(hLa:(lim a).length≤4000000000)(k:Nat)(hk0:0<k)(hk:k≤4000000000)(w:World)(h:Hp)(g:G w h)(hA:S3 A (lim a) h):CR 183 #[.slice A ((lim a).length) c,iV (-(k:Int))] w h (fun v h1=>RN h1 v (a/2^k)):=by
 have hs:=((sS g).aS hA);refine go Tryz.func183 [(0,qS A ((lim a).length) c),(1,iV (-(k:Int)))] rfl (ab hs [.v 4 (sZ)] (ah (ab hs [.m 11 1] ?_)));have ⟨hb1,phb1⟩:=dF (p:=(0:Int)≤((-(k:Int)):Int)) oM;refine lB 12 hb1 (ag (cK (ab hs [.m 40 1] (lV 41 (nV k) ?_ (hr:=rS ((0-(-(k:Int)))) kR (by rw[IntKind.wrap_i64];omega))))));refine lL hs [.m 1 41] (aG (lL hs [.v 8 (sZ)] (ah (ab hs [.m 42 1] (lV 43 (nV (k/32)) ?_ (hr:=aI (cJ (t:=3) (u:=3) (x:=.tmp 42) (y:=.const (iV 32)) (k:=.i64) (a:=(k:Int)) (b:=(32:Int)) kR kR kR oM _) (cI k 32 oM)))))));refine lL hs [.m 9 43] (a8 ?_);replace hs:=hs.nil 128 1;refine bI [(0,qS A ((lim a).length) c),(1,nV k),(4,sZ),(9,nV (k/32)),(8,sZ)] ?_;refine CG.loop (fun μ_ Γ w_=>∃ (j:Nat) (sA:Option Addr) (sc:Nat) (l:List Nat) (h_:Hp),μ_=(lim a).length-(k/32+j)∧Γ=[(0,qS A ((lim a).length) c),(1,nV k),(4,sZ),(9,nV (k/32+j)),(8,qS sA ((l).length) sc)]∧SS w h w_ h_ [] [⟨128,1,sA,sc,(l).length,(l).flatMap aW⟩] [S3 A (lim a)]∧l.length=j∧Ld l∧2^(k%32)*aj 4294967296 l+((lim a).drop (k/32)).getD 0 0%2^(k%32)=aj 4294967296 (((lim a).drop (k/32)).take j)+4294967296^j*(((lim a).drop (k/32)).getD j 0%2^(k%32))∧l.length≤(lim a).length) _ ⟨0,none,0,[],h,rfl,rfl,hs.to _ _,rfl,Dg.nil,(by simp[aj]),(by simp)⟩ ?_;rintro _ _ w2 ⟨j,sA,sc,l,h3,hm4,rfl,hs,hll,hW,inv,hjl⟩;have hai:=(Ld.lim a).get (k/32+j);have haj:=(Ld.lim a).get (k/32+j+1);refine cQ (ab hs [.m 44 9,.m 45 0,.v 46 (nV ((lim a).length))] ?_);cases hb5:(decide (((k/32+j:Nat):Int)<(((lim a).length:Nat):Int)))
 ·
  have phb5:=oF hb5;refine lB 47 hb5 (ag (CG.exit ?_))
  show CG _ _ _ _ _ _ _ _
  refine ab hs [.m 68 8] ?_;have hE:aj 4294967296 l=a/2^k:=Cr oM (by rw[hll];exact inv);obtain ⟨h6,hs,hc7⟩:=hs.pubr 0 (A:=sA) (c:=sc) (l:=l) (f:=aW) (ty:=128) (sz:=1) 0 (fun _=>rfl);exact ai 69 hs (gL sA sc l ((l).length) rfl oM hc7 _ _ hs.g hs.f.1) (fun w9 _ hs=>lL hs [.m 4 69] (ae hs [] (qS sA (tl l ((l).length)) sc) (RN.trim hW hE rfl hc7 hs.f.1)))
 have phb5:=oT hb5;refine lB 47 hb5 (ak (cK (cQ (kZ (ab hs [.m 50 0,.m 51 9] (ai 52 hs (DD A c (lim a) ((lim a).length) rfl (k/32+j) oM (Ld.lim _) _ _ hs.g hs.f.1) (fun _ _ hs=>lL hs [.m 53 0,.m 54 9] (bn 55 ((k/32+j:Nat)+1) ((k/32+j)+1) ?_))))))));refine ai 56 hs (DD A c (lim a) ((lim a).length) rfl ((k/32+j)+1) oM (Ld.lim _) _ _ hs.g hs.f.1) (fun _ _ hs=>?_);obtain ⟨hS1,hS2,hS3⟩:=EI (p:=k%32) oM hai haj;have hdj:=bu (l:=lim a) (k:=j) (n:=k/32);have hdn:=bu (l:=lim a) (k:=j+1) (n:=k/32);refine lV 57 (mV (((lim a).getD ((k/32+j)+1) 0:Nat)*4294967296%18446744073709551616)) ?_ (hr:=rU (((((lim a).getD ((k/32+j)+1) 0:Nat):Int)*4294967296)) kR (it ((lim a).getD ((k/32+j)+1) 0:Nat) 4294967296));refine lV 58 (mV ((lim a).getD (k/32+j) 0+(lim a).getD (k/32+j+1) 0*4294967296)) ?_ (hr:=aI (fR (t:=39) (u:=39) (x:=.tmp 52) (y:=.tmp 57) (a:=((lim a).getD (k/32+j) 0)) (b:=(((lim a).getD ((k/32+j)+1) 0:Nat)*4294967296%18446744073709551616:Nat)) kR kR kR oM oM _) (by rw[hS1]));refine lL hs [.m 10 58] (lN (kQ (lL hs [.m 59 8,.m 60 10,.m 61 1] (lV 62 (nV (k%32)) ?_ (hr:=aI (dC (t:=3) (u:=3) (x:=.tmp 61) (y:=.const (iV 32)) (k:=.i64) (a:=(k:Int)) (b:=(32:Int)) kR kR kR oM _) (bY k 32))))));refine lV 63 (mV (k%32)) ?_ (hr:=rU (((k%32:Nat):Int)) kR (aZ oM oM));refine lV 64 (mV (((lim a).getD (k/32+j) 0+(lim a).getD (k/32+j+1) 0*4294967296)/2^(k%32))) ?_ (hr:=fq (t:=39) (u:=131) (x:=.tmp 60) (y:=.tmp 63) (ky:=.u64) (a:=((lim a).getD (k/32+j) 0+(lim a).getD (k/32+j+1) 0*4294967296)) (n:=(k%32)) kR kR kR oM _);refine lV 65 (mW ((((lim a).getD (k/32+j) 0+(lim a).getD (k/32+j+1) 0*4294967296)/2^(k%32):Nat)%4294967296)) ?_ (hr:=rT (((((lim a).getD (k/32+j) 0+(lim a).getD (k/32+j+1) 0*4294967296)/2^(k%32):Nat):Int)) kR (fu _));refine lR 66 128 1 ([mW ((((lim a).getD (k/32+j) 0+(lim a).getD (k/32+j+1) 0*4294967296)/2^(k%32):Nat)%4294967296)]) hs (fun za _ _ hs=>lY 67 0 128 1 sc sA l aW ((((lim a).getD (k/32+j) 0+(lim a).getD (k/32+j+1) 0*4294967296)/2^(k%32):Nat)%4294967296:Nat) 4 za (uW 0) hs hs.f.1 (fun zb zc _ zd hs=>lL hs [.m 8 67] (lN (kQ (lL hs [.m 48 9] (bn 49 ((k/32+j:Nat)+1) ((k/32+j)+1) ?_))))));refine lL hs [.m 9 49] (lD ?_);intro a_ ka;replace hs:=hs.tl;refine ⟨_,_,?_,⟨j+1,zb,zc,l++[((((lim a).getD (k/32+j) 0+(lim a).getD (k/32+j+1) 0*4294967296)/2^(k%32):Nat)%4294967296:Nat)],zd,rfl,rfl,hs.to _ _,(by rw[List.length_append,hll];rfl),(hW.app (Nat.mod_lt _ kD)),(BO hll inv (by rw[hdj,hdn];exact hS3)),(by rw[List.length_append];show _+1≤_;omega)⟩,ka.to _ kR⟩
 omega
def ba (l:List Nat):Nat:=aj 4294967296 l
theorem sF {a b:Nat}(ha:a<4294967296)(hb:b<4294967296):a*b≤18446744065119617025:=by
 have h1:a≤4294967295:=by omega
 have h2:b≤4294967295:=by omega
 exact Nat.mul_le_mul h1 h2
def l3 (u2 u1 u0:Nat):Nat:=4294967296*(4294967296*u2+u1)+u0
def l2 (v1 v0:Nat):Nat:=4294967296*v1+v0
structure Hss (u2 u1 u0 v1 v0 g r o:Nat):Prop where
  e:g*v1+(r+4294967296*o)=4294967296*u2+u1
  lt:g+1=4294967296∨l3 u2 u1 u0<(g+1)*l2 v1 v0
  gb:g<4294967296
def wn (u2 u1 u0 v1 v0 g:Nat):Prop:=g*l2 v1 v0≤l3 u2 u1 u0∧(g+1=4294967296∨l3 u2 u1 u0<(g+1)*l2 v1 v0)∧g<4294967296
theorem Fv {g v1 v0:Nat}:g*l2 v1 v0=4294967296*(g*v1)+g*v0:=by unfold l2;rw[Nat.mul_add,Nat.mul_left_comm]
theorem Hss.fin {u2 u1 u0 v1 v0 g r o:Nat}(h:Hss u2 u1 u0 v1 v0 g r o)(ht:g*v0≤4294967296*(r+4294967296*o)+u0):wn u2 u1 u0 v1 v0 g:=by
 refine ⟨?_,h.lt,h.gb⟩;rw[Fv]
 unfold l3
 rw[←h.e,Nat.mul_add]
 omega
theorem BX {u:List Nat}{k:Nat}(hk:2≤k):l3 (u.getD k 0) (u.getD (k-1) 0) (u.getD (k-2) 0)=u.getD k 0*4294967296*4294967296+u.getD (k-1) 0*4294967296+u.getD (k-2) 0:=by
 unfold l3
 rw[Nat.mul_comm (u.getD k 0) 4294967296,Nat.mul_comm (4294967296*u.getD k 0) 4294967296,Nat.mul_comm (u.getD (k-1) 0),Nat.mul_add]
theorem CN {v1 v0:Nat}:l2 v1 v0=v1*4294967296+v0:=by unfold l2;rw[Nat.mul_comm]
section
variable {n j G:Nat} {u v:List Nat}
theorem CY (hn:2≤n)(hl:v.length=n)(hdv:Ld v)(hdu:Ld u)(hu:j+n<u.length)(hR:ba u<4294967296^(j+1)*ba v):u.getD (j+n) 0≤v.getD (n-1) 0:=by
 rcases Nat.lt_or_ge (v.getD (n-1) 0) (u.getD (j+n) 0) with h|h
 ·exfalso
  have e1:=aN 4294967296 (l:=v) (k:=n-1) oM;rw[show n-1+1=v.length by omega,List.take_length] at e1
  have h1:=bC (Dg.take hdv (n-1));rw[List.length_take,Nat.min_eq_left oM] at h1
  have e2:=aN 4294967296 (l:=u) (k:=j+n) oM;have e3:=bD 4294967296 (l:=u) (k:=j+n+1) oM;have h2:4294967296^(j+n)*(v.getD (n-1) 0+1)≤4294967296^(j+n)*u.getD (j+n) 0:=Nat.mul_le_mul_left _ h
  have h3:4294967296^(j+1)*ba v<4294967296^(j+1)*(4294967296^(n-1)*(v.getD (n-1) 0+1)):=by
   refine Nat.mul_lt_mul_of_pos_left ?_ (Nat.pow_pos kD)
   show aj _ v<_
   rw[e1,Nat.mul_add,Nat.mul_one];omega
  rw[←Nat.mul_assoc,←Nat.pow_add,show j+1+(n-1)=j+n by omega] at h3
  have h4:ba u=aj 4294967296 (u.take (j+n))+4294967296^(j+n)*u.getD (j+n) 0+4294967296^(j+n+1)*aj 4294967296 (u.drop (j+n+1)):=by
   show aj _ u=_
   rw[e3,e2]
  have h5:=Nat.zero_le (4294967296^(j+n+1)*aj 4294967296 (u.drop (j+n+1)))
  omega
 ·exact h
theorem sl (hn:2≤n)(hl:v.length=n)(hdv:Ld v)(hdu:Ld u)(hu:j+n<u.length)(htop:v.getD (n-1) 0≠0)(hR:ba u<4294967296^(j+1)*ba v)(hG:wn (u.getD (j+n) 0) (u.getD (j+n-1) 0) (u.getD (j+n-2) 0) (v.getD (n-1) 0) (v.getD (n-2) 0) G) :
  ba u/(4294967296^j*ba v)≤G∧G≤ba u/(4294967296^j*ba v)+1:=by
 obtain ⟨h1,h2,h3⟩:=hG;rw[BX oM,CN] at h1 h2
 exact kP kD hn hl hdv hdu hu htop hR h1 h2 h3
theorem vn (hn:2≤n)(hl:v.length=n)(hdv:Ld v)(htop:v.getD (n-1) 0≠0):4294967296^(n-1)≤ba v∧ba v<4294967296^n:=by
 have h2:=bC hdv;rw[hl] at h2
 refine ⟨?_,h2⟩;have e1:=aN 4294967296 (l:=v) (k:=n-1) oM;rw[show n-1+1=v.length by omega,List.take_length] at e1
 have h3:4294967296^(n-1)*1≤4294967296^(n-1)*v.getD (n-1) 0:=Nat.mul_le_mul_left _ oM
 show _≤aj _ v
 omega
theorem sJ (hn:2≤n)(hl:v.length=n)(hdv:Ld v)(hR:ba u<4294967296^(j+1)*ba v):ba u<4294967296^(j+n+1):=by
 have h2:=bC hdv;rw[hl] at h2
 have h1:4294967296^(j+1)*ba v<4294967296^(j+1)*4294967296^n:=Nat.mul_lt_mul_of_pos_left h2 (Nat.pow_pos kD);rw[←Nat.pow_add,show j+1+n=j+n+1 by omega] at h1
 omega
theorem x4 {u1:List Nat}(hn:2≤n)(hl:v.length=n)(hdv:Ld v)(hdu:Ld u)(hd1:Ld u1)(hu:j+n<u.length)(htop:v.getD (n-1) 0≠0)(hR:ba u<4294967296^(j+1)*ba v)
  (hG:ba u/(4294967296^j*ba v)≤G∧G≤ba u/(4294967296^j*ba v)+1)(hab:Above u1 u (j+n+1))(e:ba u1+4294967296^j*(G*ba v)=ba u+4294967296^(j+n+1)*0) :
  ba u1<4294967296^j*ba v∧ba u1+4294967296^j*(G*ba v)=ba u:=by
 obtain ⟨v1,v2⟩:=vn hn hl hdv htop;have hb:=dz (b:=4294967296) kD hab hd1 hdu (by rw[hab.1];omega) (sJ hn hl hdv hR);have:=(eA (b:=4294967296) kD hn v1 v2 hR hb e (Nat.zero_le 1) hG).1 rfl;rw[Nat.mul_zero,Nat.add_zero] at e
 exact ⟨this.2.2.1,e⟩
theorem EB {U1 U2 W K T c:Nat}(e2:U2+T*c=U1+W)(g2:U1+W=K+T)(hU:U2<T)(hK:K<W)(hW:W≤T):U2=K:=by
 have hc:c=1:=by
  rcases Nat.lt_trichotomy c 1 with h|h|h
  ·have:c=0:=by omega
   subst this;omega
  ·exact h
  ·have h2:T*2≤T*c:=Nat.mul_le_mul_left _ h
   omega
 subst hc
 omega
theorem C5 {u1 u2:List Nat}{c:Nat}(hn:2≤n)(hl:v.length=n)(hdv:Ld v)(hdu:Ld u)(hd1:Ld u1)(hd2:Ld u2)(hu:j+n<u.length)(htop:v.getD (n-1) 0≠0)(hR:ba u<4294967296^(j+1)*ba v)
  (hG:ba u/(4294967296^j*ba v)≤G∧G≤ba u/(4294967296^j*ba v)+1)(hab:Above u1 u (j+n+1))(hab2:Above u2 u (j+n+1))(e:ba u1+4294967296^j*(G*ba v)=ba u+4294967296^(j+n+1)*1)
  (e2:ba u2+4294967296^(j+n+1)*c=ba u1+4294967296^j*ba v) :
  ba u2<4294967296^j*ba v∧ba u2+4294967296^j*((G-1)*ba v)=ba u∧0<G:=by
 obtain ⟨v1,v2⟩:=vn hn hl hdv htop;have hRb:=sJ hn hl hdv hR;have hb:=dz (b:=4294967296) kD hab hd1 hdu (by rw[hab.1];omega) hRb;have hb2:=dz (b:=4294967296) kD hab2 hd2 hdu (by rw[hab2.1];omega) hRb;obtain ⟨g1,g2,g3,g4⟩:=(eA (b:=4294967296) kD hn v1 v2 hR hb e oM hG).2 rfl
 have hbig:4294967296^j*ba v≤4294967296^(j+n+1):=by
  have h1:4294967296^j*ba v≤4294967296^j*4294967296^n:=Nat.mul_le_mul_left _ (Nat.le_of_lt v2);rw[←Nat.pow_add] at h1
  have h2:(4294967296:Nat)^(j+n)≤4294967296^(j+n+1):=Nat.pow_le_pow_right kD oM;exact Nat.le_trans h1 h2
 have hk:ba u2=ba u-4294967296^j*((G-1)*ba v):=EB e2 g2 hb2 g3 hbig;exact ⟨by rw[hk];exact g3,by rw[hk];exact Nat.sub_add_cancel g4,by rw[g1];exact Nat.succ_pos _⟩
theorem Bw {u1:List Nat}(hn:2≤n)(hl:v.length=n)(hdv:Ld v)(hdu:Ld u)(hd1:Ld u1)(hu:j+n<u.length)(htop:v.getD (n-1) 0≠0)(hR:ba u<4294967296^(j+1)*ba v)
  (hG:ba u/(4294967296^j*ba v)≤G∧G≤ba u/(4294967296^j*ba v)+1)(hab:Above u1 u (j+n+1))(e:ba u1+4294967296^j*(G*ba v)=ba u+4294967296^(j+n+1)*1):0<G:=by
 obtain ⟨v1,v2⟩:=vn hn hl hdv htop;have hb:=dz (b:=4294967296) kD hab hd1 hdu (by rw[hab.1];omega) (sJ hn hl hdv hR);obtain ⟨g1,_⟩:=(eA (b:=4294967296) kD hn v1 v2 hR hb e (Nat.le_refl 1) hG).2 rfl;rw[g1];exact Nat.succ_pos _
end
theorem B6 {q:List Nat}{j Q X V R R':Nat}(hj:j<q.length)(h0:q.getD j 0=0)(inv:X=ba q*V+R)(e:R'+4294967296^j*(Q*V)=R):X=ba (q.set j Q)*V+R':=by
 have s1:=bX 4294967296 (l:=q) (k:=j) Q hj;rw[h0,Nat.mul_zero,Nat.add_zero] at s1
 have s2:ba (q.set j Q)=ba q+4294967296^j*Q:=s1;rw[s2,Nat.add_mul,inv,←e,Nat.mul_assoc];omega
theorem Ck {X V R q a b s:Nat}(hV:V=b*2^s)(hX:X=a*2^s)(inv:X=q*V+R)(hR:R<V):q=a/b∧R/2^s=a%b:=by
 have hp:=Nat.two_pow_pos s;have hV0:0<V:=by omega
 have hb:0<b:=by
  rcases Nat.eq_zero_or_pos b with h|h
  ·rw[h,Nat.zero_mul] at hV;omega
  ·exact h
 have e1:a*2^s=V*q+R:=by rw[←hX,inv,Nat.mul_comm]
 obtain ⟨h1,h2⟩:=iI (A:=a) (y:=b) (Q:=q) hV e1 hR;have h3:a=R/2^s+b*q:=by omega
 constructor
 ·rw[h3,Nat.add_mul_div_left _ _ hb,Nat.div_eq_of_lt h2,Nat.zero_add]
 ·rw[h3,Nat.add_mul_mod_self_left,Nat.mod_eq_of_lt h2]
structure Gk (u2 u1 u0 v1 v0 g r:Nat):Prop where
  e:g*v1+r=4294967296*u2+u1
  lt:4294967296≤g+1∨l3 u2 u1 u0<(g+1)*l2 v1 v0
theorem Gk.start {u2 u1 u0 v1 v0:Nat}(hv:0<v1)(h0:u0<4294967296):Gk u2 u1 u0 v1 v0 ((u2*4294967296+u1)/v1) ((u2*4294967296+u1)%v1):=by
 have e:=Nat.div_add_mod (u2*4294967296+u1) v1;have hr:=Nat.mod_lt (u2*4294967296+u1) hv
 generalize (u2*4294967296+u1)/v1=q at *
 generalize (u2*4294967296+u1)%v1=r at *
 rw[Nat.mul_comm u2] at e
 refine ⟨by rw[Nat.mul_comm q];exact e,.inr ?_⟩;rw[Fv,Nat.add_mul q 1 v1,Nat.one_mul,Nat.mul_comm q v1]
 unfold l3
 rw[←e]
 have h1:4294967296*(v1*q+r)+4294967296≤4294967296*(v1*q+v1):=by
  rw[←Nat.mul_succ];exact Nat.mul_le_mul_left _ oM
 have h2:0≤(q+1)*v0:=Nat.zero_le _
 omega
theorem Gk.step {u2 u1 u0 v1 v0 g r:Nat}(h:Gk u2 u1 u0 v1 v0 g r)(hg:0<g):(g-1)*v1+(r+v1)=4294967296*u2+u1:=by
 obtain ⟨p,rfl⟩:∃ p,g=p+1:=⟨g-1,by omega⟩;have e1:=h.e;rw[Nat.add_mul,Nat.one_mul] at e1
 rw[Nat.add_sub_cancel]
 omega
theorem Gk.decB {u2 u1 u0 v1 v0 g r:Nat}(h:Gk u2 u1 u0 v1 v0 g r)(hg:4294967296≤g):Gk u2 u1 u0 v1 v0 (g-1) (r+v1):=⟨h.step oM,.inl oM⟩
theorem Gk.decT {u2 u1 u0 v1 v0 g r:Nat}(h:Gk u2 u1 u0 v1 v0 g r)(ht:4294967296*r+u0<g*v0):0<g∧Gk u2 u1 u0 v1 v0 (g-1) (r+v1):=by
 have hg:0<g:=cp ht;refine ⟨hg,h.step hg,.inr ?_⟩;rw[show g-1+1=g by omega,Fv]
 unfold l3
 rw[←h.e,Nat.mul_add]
 omega
theorem Gk.big {u2 u1 u0 v1 v0 g r:Nat}(h:Gk u2 u1 u0 v1 v0 g r)(hg:4294967296≤g)(hle:u2≤v1)(h1:u1<4294967296):r<4294967296:=by
 have e:=h.e;have e1:4294967296*v1≤g*v1:=Nat.mul_le_mul_right _ hg;have e2:4294967296*u2≤4294967296*v1:=Nat.mul_le_mul_left _ hle
 omega
theorem Gk.fin {u2 u1 u0 v1 v0 g r:Nat}(h:Gk u2 u1 u0 v1 v0 g r)(hg:g<4294967296)(h0:v0<4294967296)(ht:4294967296≤r∨g*v0≤4294967296*r+u0):wn u2 u1 u0 v1 v0 g:=by
 have hs:Hss u2 u1 u0 v1 v0 g r 0:=⟨by rw[Nat.mul_zero,Nat.add_zero];exact h.e,by rcases h.lt with h1|h1;exact .inl oM;exact .inr h1,hg⟩;refine hs.fin ?_;rw[Nat.mul_zero,Nat.add_zero]
 rcases ht with h1|h1
 ·have h2:=sF hg h0
  have h3:4294967296*4294967296≤4294967296*r:=Nat.mul_le_mul_left _ h1
  omega
 ·exact h1
theorem jz (n:Nat):(lim n).length=(nb n+31)/32:=by
 rcases Nat.eq_zero_or_pos n with h|h
 ·subst h;rfl
 ·have h1:=rY h
  have h2:=kc n h;have h3:=(Ld.lim n).get ((lim n).length-1);have h4:=bG.2 h
  generalize (lim n).getD ((lim n).length-1) 0=t at *
  have h5:=(bU (Nat.pos_of_ne_zero h2)).2.2;have h6:nb t≤32:=i6 (k:=32) h3
  omega
theorem uA {b:Nat}(hb:0<b)(s:Nat):nb (b*2^s)=nb b+s:=by
 obtain ⟨s1,s2,s3⟩:=bU hb;rw[show nb b+s=(nb b-1+s)+1 by omega]
 apply iK
 ·rw[Nat.pow_add];exact Nat.mul_le_mul_right _ s1
 ·rw[show nb b-1+s+1=nb b+s by omega,Nat.pow_add];exact Nat.mul_lt_mul_of_pos_right s2 (Nat.two_pow_pos s)
section joi
variable {P:Program} {n:Nat} {N R:Po} {X:Nat→Po} {Γ:bM} {w:World}
theorem CG.join {x y:Code}(I:bM→World→Prop)(h1:CG P n (fun a w'=>∃ Γ',I Γ' w'∧Kn n a Γ') R X x Γ w)(h2:∀ Γ w,I Γ w→CG P n N R X y Γ w):CG P n N R X (.seq x y) Γ w:=by
 intro a ka;refine wp_seq (wp_mono (h1 a ka) ?_);intro e a w hq;cases e with
 | normal=>obtain ⟨Γ',hI,ka'⟩:=hq;exact h2 Γ' w hI a ka'
 | _=>exact hq
end joi
section fin
variable {M:Ms} {P:Program} {n:Nat} {N R:Po} {X:Nat→Po} {ops:Array Oper} {k0:Nat} {hr:Hp} {L:Array Bool} {Γ:bM} {w:World} {h:Hp} {w0:World} {h0:Hp} {B:List Bx} {Rs:List Rw} {F:List (Hp→Prop)}
theorem gM (s:SS w0 h0 w h B Rs F)(H:∀ w' h',Up w h w' h'→SS w0 h0 w' h' B Rs F→AG M P n N R X ops k0 L Γ w')(hc:eF ops [] L=true:=by kernel_rfl):EG M P n N R X ops k0 hr [] L Γ w h:=Rg.fin0 hc (fun w' h' u=>H w' h' u (s.step u))
end fin
section tail
variable {M:Ms} {P:Program} {n:Nat} {N R:Po} {X:Nat→Po} {ops:Array Oper} {k0:Nat} {L:Array Bool} {Γ:bM} {w:World} {h:Hp} {w0:World} {h0:Hp} {B:List Bx} {Rs:List Rw} {F:List (Hp→Prop)}
theorem GO {α:Type}(i j e fo:Nat)(ds:List Value)(l:List α)(f:α→List Value)(sz:Nat)(d x:α){ty:TypeId}{c b:Nat}(s:SS w0 h0 w h B Rs F)(hk:e<l.length)(H:∀ w',SS w0 h0 w' h B (Rs.set j ⟨ty,sz,some ⟨b,0,none⟩,c,l.length,(l.set e x).flatMap f⟩) F→AG M P n N R X ops k0 (L.setIfInBounds i true) Γ w')
  (hx:bQ (f (l.getD e d)) fo ds=f x:=by rfl)(hf:∀ x,(f x).length=sz:=by intro _;rfl)(ho:Nat.ble (fo+ds.length) sz=true:=by kernel_rfl)(hr':Rs.getD j default=⟨ty,sz,some ⟨b,0,none⟩,c,l.length,l.flatMap f⟩:=by kernel_rfl)(hj:decide (j<Rs.length)=true:=by kernel_rfl)
  (hc:(fI ops k0 L i && a7 Γ (ao ops i) && ((ao ops i).dst == none))=true:=by kernel_rfl)(hw:bg ops Γ (ao ops i)=some true:=by kernel_rfl)
  (he:cP P (execOp (ev Γ) (ao ops i))=some (.skip,jE b (0+e*sz+fo) ds):=by kernel_rfl)(hz:∀ K bs,M.z=some (K,bs)→K≤b∨b∈bs:=by intro _ _ e;cases e):AG M P n N R X ops k0 L Γ w:=by
 have hle:=Nat.le_of_ble_eq_true ho;refine GB i j (0+e*sz+fo) ds s ?_ (fun w' s'=>H w' ?_) hr' hj hc hw he hz
 ·rw[cj hf,Nat.zero_add]
  have:(e+1)*sz≤l.length*sz:=Nat.mul_le_mul_right _ hk;rw[Nat.add_mul,Nat.one_mul] at this
  omega
 ·rw[Nat.zero_add,gY hf d l e x hk hle hx] at s'
  exact s'
end tail
section self
variable {P:Program} {n:Nat} {N R:Po} {X:Nat→Po} {ops:Array Oper} {k:Nat} {Γ:bM} {w:World} {h:Hp} {w0:World} {h0:Hp} {B:List Bx} {Rs:List Rw} {F:List (Hp→Prop)}
end self
theorem Ae (x:Nat)(A:Option Addr)(c m:Nat)(hm:(lim x).length=m)(hc:m≤c)(hL:m≤4000000000)(s:Nat)(hs:s≤4000000000)(w:World)(h:Hp)(g:G w h)(hA:S3 A (lim x) h):CR 183 #[.slice A m c,iV (-(s:Int))] w h (fun v h1=>RN h1 v (x/2^s)):=by
 subst hm
 rcases Nat.eq_zero_or_pos s with h0|h0
 ·subst h0
  have:=iP x A c hc hL 0 oM w h g hA;rw[Nat.pow_zero,Nat.mul_one] at this
  rw[Nat.pow_zero,Nat.div_one];exact this
 ·exact oH x A c hc hL s h0 hs w h g hA
theorem sL {a b s k:Nat}(hvn:(lim (b*2^s)).length=k)(hk:2≤k)(hlen:k≤(lim (a*2^s)).length+1)(hb:0<b*2^s):ba (lim (a*2^s)++[0,0])<4294967296^((lim (a*2^s)).length+2-(lim (b*2^s)).length)*ba (lim (b*2^s)):=by
 have e1:ba (lim (a*2^s)++[0,0])=a*2^s:=by
  unfold ba;rw[bJ,cn];simp[aj]
 have e2:ba (lim (b*2^s))=b*2^s:=cn _;rw[e1,e2];have h1:=bW (a*2^s);have h2:4294967296^((lim (b*2^s)).length-1)≤b*2^s:=by rw[pR];exact oX kD hb
 have h3:4294967296^((lim (a*2^s)).length+2-(lim (b*2^s)).length)*4294967296^((lim (b*2^s)).length-1)≤4294967296^((lim (a*2^s)).length+2-(lim (b*2^s)).length)*(b*2^s):=Nat.mul_le_mul_left _ h2;rw[←Nat.pow_add] at h3
 have h4:4294967296^(lim (a*2^s)).length≤4294967296^((lim (a*2^s)).length+2-(lim (b*2^s)).length+((lim (b*2^s)).length-1)):=Nat.pow_le_pow_right kD oM
 omega
theorem C3 {a s V n:Nat}:a*2^s=ba (List.replicate n 0)*V+ba (lim (a*2^s)++[0,0]):=by
 unfold ba;rw[cO,Nat.zero_mul,Nat.zero_add,bJ,cn];simp[aj]
theorem kL (a:Nat)(A:Option Addr)(c:Nat)(hc:(lim a).length≤c)(b:Nat)(D:Option Addr)(d:Nat)(hd:(lim b).length≤d)(hLa:(lim a).length≤3000000000)(hLb:(lim b).length≤3000000000)(hab:a<b)(w:World)(h:Hp)(g:G w h)(hA:S3 A (lim a) h)(hD:S3 D (lim b) h):CR 158 #[.slice A ((lim a).length) c,.slice D ((lim b).length) d] w h (fun v h1=>∃ v1 v2,v=.tuple #[v1,v2]∧RN h1 v1 (a/b)∧RN h1 v2 (a%b)):=by
 have hs:=(((sS g).aS hA).aS hD);have hcl:=da hab;refine go Tryz.func158 [(0,qS A ((lim a).length) c),(1,qS D ((lim b).length) d)] rfl (ab hs [.v 4 (sZ),.v 5 (sZ)] (ah (ab hs [.m 25 0,.m 26 1] (ai 27 hs (fA a A c hc b D d hd oM oM _ _ hs.g hs.f.2.1 hs.f.1) (fun w1 h2 hs=>?_)))));have ⟨hb3,phb3⟩:=dT (p:=(bL a b:Int)<(0:Int)) oM;exact lB 28 hb3 (ak (ab hs [.m 29 0,.v 4 (sZ),.m 5 29] (ae hs [] (.tuple #[sZ,qS A ((lim a).length) c]) (⟨_,_,rfl,by rw[Nat.div_eq_of_lt hab];exact ⟨none,0,rfl,nR _,SlO.nil⟩,by rw[Nat.mod_eq_of_lt hab];exact ⟨A,c,rfl,hc,hs.f.2.1⟩⟩))))
theorem oV {b:Nat}(h:(lim b).length=1):b<4294967296∧(lim b).getD 0 0=b∧0<b:=by
 have h1:=bW b;rw[h] at h1
 have h2:0<b:=bG.1 oM;refine ⟨by omega,?_,h2⟩;rw[xp h2 oM];rfl
theorem kh (a:Nat)(A:Option Addr)(c:Nat)(hc:(lim a).length≤c)(b:Nat)(D:Option Addr)(d:Nat)(hd:(lim b).length≤d)(hLa:(lim a).length≤3000000000)(hLb:(lim b).length≤3000000000)(hab:b≤a)(h1:(lim b).length=1)(w:World)(h:Hp)(g:G w h)(hA:S3 A (lim a) h)(hD:S3 D (lim b) h):CR 158 #[.slice A ((lim a).length) c,.slice D ((lim b).length) d] w h (fun v h1=>∃ v1 v2,v=.tuple #[v1,v2]∧RN h1 v1 (a/b)∧RN h1 v2 (a%b)):=by
 have hs:=(((sS g).aS hA).aS hD);have hcl:=eg hab;obtain ⟨hb1,hb2,hb3⟩:=oV h1;refine go Tryz.func158 [(0,qS A ((lim a).length) c),(1,qS D ((lim b).length) d)] rfl (ab hs [.v 4 (sZ),.v 5 (sZ)] (ah (ab hs [.m 25 0,.m 26 1] (ai 27 hs (fA a A c hc b D d hd oM oM _ _ hs.g hs.f.2.1 hs.f.1) (fun w1 h2 hs=>?_)))));have ⟨hb3,phb3⟩:=dF (p:=(bL a b:Int)<(0:Int)) oM;refine lB 28 hb3 (ag (cK (cQ (ab hs [.m 30 1,.v 31 (nV ((lim b).length))] ?_))));have hb4:((((lim b).length:Nat):Int) == (1:Int))=true:=jg oM;have phb4:=eq_of_beq hb4;refine lB 32 hb4 (ak (ab hs [.m 34 0,.m 35 1] (lX 36 D ((lim b).length) d 1 0 0 ((hs.f.1).ok oM) ?_)));refine lH 37 (mW ((lim b).getD 0 0)) hs ((hs.f.1).el 0 oM) (lC 38 hs (Gf a A c hc oM ((lim b).getD 0 0) oM oM _ _ hs.g hs.f.2.1) ?_);rintro _ w5 h6 hs ⟨_,r,rfl,⟨Aq,cq,rfl,hcq,hq⟩,hr_⟩;replace hs:=hs.aS hq;refine lL hs [.m 33 38,.v 39 (qS Aq ((lim (a/((lim b).getD 0 0))).length) cq),.v 40 (mW r),.m 6 39,.m 7 40] (aG (lL hs [.m 41 6,.m 42 7] ?_));have hrb:=Nat.mod_lt a (show 0<(lim b).getD 0 0 by omega);refine lV 43 (mV r) ?_ (hr:=rU ((r:Int)) kR (aZ oM oM));refine lC 44 hs (lw r oM _ _ hs.g) ?_;rintro _ _ _ hs ⟨A7,c8,rfl,hc9,za⟩;replace hs:=hs.aS za;exact lL hs [.m 4 41,.m 5 44] (ae hs [] (.tuple #[qS Aq ((lim (a/((lim b).getD 0 0))).length) cq,qS A7 ((lim r).length) c8]) (⟨_,_,rfl,by rw[hb2] at *;exact ⟨_,_,rfl,hcq,hs.f.2.1⟩,by rw[←hb2,←hr_];exact ⟨_,_,rfl,hc9,hs.f.1⟩⟩))
theorem mF (a:Nat)(A:Option Addr)(c:Nat)(hc:(lim a).length≤c)(b:Nat)(D:Option Addr)(d:Nat)(hd:(lim b).length≤d)(hLa:(lim a).length≤3000000000)(hLb:(lim b).length≤3000000000)(hab:b≤a)(hb2:2≤(lim b).length)(s:Nat)(hs_:s=32*(lim b).length-nb b)(w:World)(h:Hp)(g:G w h)(hA:S3 A (lim a) h)(hD:S3 D (lim b) h):CR 158 #[.slice A ((lim a).length) c,.slice D ((lim b).length) d] w h (fun v h1=>∃ v1 v2,v=.tuple #[v1,v2]∧RN h1 v1 (a/b)∧RN h1 v2 (a%b)):=by
 have hs:=(((sS g).aS hA).aS hD);have hcl:=eg hab;have hbp:0<b:=bG.1 oM;have hln:=jz b;have hs32:s<32:=by omega
 have hvn:(lim (b*2^s)).length=(lim b).length:=by rw[jz,uA hbp];omega
 have hlm:=cG hab;have has:=cG (show a≤a*2^s from Nat.le_mul_of_pos_right _ (Nat.two_pow_pos s));have hal2:(lim (a*2^s)).length≤(lim a).length+1:=dw (by rw[Nat.pow_succ];exact Nat.lt_of_lt_of_le (Nat.mul_lt_mul_of_pos_right (bW a) (Nat.two_pow_pos s)) (Nat.mul_le_mul_left _ (Nat.le_trans (Nat.pow_le_pow_right kD (show s≤32 by omega)) (nR (2^32)))));have _:([0,0]:List Nat).length=2:=rfl;have hul_:((lim (a*2^s))++[0,0]).length=((lim (a*2^s)).length+2):=by simp
 have hWv:=Ld.lim (b*2^s);have htop:=kc (b*2^s) (Nat.mul_pos hbp (Nat.two_pow_pos s));have hv1:=hWv.get ((lim (b*2^s)).length-1);have hv0:=hWv.get ((lim (b*2^s)).length-2);refine go Tryz.func158 [(0,qS A ((lim a).length) c),(1,qS D ((lim b).length) d)] rfl (ab hs [.v 4 (sZ),.v 5 (sZ)] (ah (ab hs [.m 25 0,.m 26 1] (ai 27 hs (fA a A c hc b D d hd oM oM _ _ hs.g hs.f.2.1 hs.f.1) (fun w1 h2 hs=>?_)))));have ⟨hb3,phb3⟩:=dF (p:=(bL a b:Int)<(0:Int)) oM;refine lB 28 hb3 (ag (cK (cQ (ab hs [.m 30 1,.v 31 (nV ((lim b).length))] ?_))));have hb4:((((lim b).length:Nat):Int) == (1:Int))=false:=cw oM;have phb4:=af hb4;refine lB 32 hb4 (ag (cK (ab hs [.m 45 1,.v 46 (nV ((lim b).length))] (bn 47 (32*((lim b).length:Nat)) (32*(lim b).length) ?_))));refine lL hs [.m 48 1] (ai 49 hs (nx b D d hd oM _ _ hs.g hs.f.1) (fun w5 h6 hs=>bn 50 ((32*(lim b).length:Nat)-(nb b:Nat)) s (lL hs [.m 8 50] (aG (lL hs [.m 51 1,.m 52 8] (lC 53 hs (iP b D d hd oM s oM _ _ hs.g hs.f.1) ?_))))));rintro _ _ _ hs ⟨A7,c8,rfl,hc9,zR⟩;replace hs:=hs.aS zR;refine lL hs [.m 9 53] (aG (lR 54 128 0 ([]) hs (fun zj _ _ hs=>lL hs [.m 55 0,.m 56 8] (lC 57 hs (iP a A c hc oM s oM _ _ hs.g hs.f.r.2.1) ?_))));rintro _ _ _ hs ⟨zk,ye,rfl,hc19,zS⟩;replace hs:=hs.aS zS;refine GK 58 128 1 aW 0 zj zk (lim (a*2^s)) ye 4 (uW 0) hs hs.f.1 oM (fun _ _=>by kernel_rfl) (fun yf yg _ _ hs=>lR 59 128 2 ([uW 0,uW 0]) hs (fun ze _ _ hs=>?_));replace hs:=hs.aS (SlO.of_flat (sz:=1) (f:=aW) (d:=0) (l:=[0,0]) (fun _=>rfl) hs.f.1);refine Gp 60 0 128 1 yg yf (lim (a*2^s)) aW 0 (sB ze) ([0,0]) 2 4 (uW 0) hs hs.f.1 oM (fun zP zQ _ _ hs=>lL hs [.m 10 60] (aG (lL hs [.m 61 9,.v 62 (nV ((lim (b*2^s)).length)),.m 11 62] (aG (lL hs [.m 63 9,.m 64 11] (bn 65 (((lim (b*2^s)).length:Nat)-1) (((lim (b*2^s)).length:Nat)-1) ?_))))));refine lX 66 A7 ((lim (b*2^s)).length) c8 1 (((lim (b*2^s)).length:Nat)-1:Nat) (((lim (b*2^s)).length:Nat)-1:Nat) ((hs.f.q.1).ok oM) (lH 67 (mW ((lim (b*2^s)).getD (((lim (b*2^s)).length:Nat)-1:Nat) 0)) hs ((hs.f.q.1).el (((lim (b*2^s)).length:Nat)-1:Nat) oM) (lV 68 (mV ((lim (b*2^s)).getD (((lim (b*2^s)).length:Nat)-1:Nat) 0)) ?_ (hr:=rU ((((lim (b*2^s)).getD (((lim (b*2^s)).length:Nat)-1:Nat) 0:Nat):Int)) kR (aZ oM oM))));refine lL hs [.m 12 68] (aG (lL hs [.m 69 9,.m 70 11] (bn 71 (((lim (b*2^s)).length:Nat)-2) (((lim (b*2^s)).length:Nat)-2) ?_)));refine lX 72 A7 ((lim (b*2^s)).length) c8 1 (((lim (b*2^s)).length:Nat)-2:Nat) (((lim (b*2^s)).length:Nat)-2:Nat) ((hs.f.q.1).ok oM) (lH 73 (mW ((lim (b*2^s)).getD (((lim (b*2^s)).length:Nat)-2:Nat) 0)) hs ((hs.f.q.1).el (((lim (b*2^s)).length:Nat)-2:Nat) oM) (lV 74 (mV ((lim (b*2^s)).getD (((lim (b*2^s)).length:Nat)-2:Nat) 0)) ?_ (hr:=rU ((((lim (b*2^s)).getD (((lim (b*2^s)).length:Nat)-2:Nat) 0:Nat):Int)) kR (aZ oM oM))));refine lL hs [.m 13 74] (lN (bI [(4,sZ),(5,sZ),(8,nV s),(9,qS A7 ((lim (b*2^s)).length) c8),(10,qS zP ((lim (a*2^s)++([0,0])).length) zQ),(11,nV ((lim (b*2^s)).length)),(12,mV ((lim (b*2^s)).getD (((lim (b*2^s)).length:Nat)-1:Nat) 0)),(13,mV ((lim (b*2^s)).getD (((lim (b*2^s)).length:Nat)-2:Nat) 0))] ?_));refine ab hs [.m 75 10,.v 76 (nV ((lim (a*2^s)++([0,0])).length)),.m 77 11] (bn 78 (((lim (a*2^s)++([0,0])).length:Nat)-((lim (b*2^s)).length:Nat)) (((lim (a*2^s)).length+2)-(lim (b*2^s)).length) ?_);refine lK 79 128 (((lim (a*2^s)).length+2)-(lim (b*2^s)).length:Nat) 1 4 (uW 0) aW 0 hs (fun za _ yi hs=>?_);have zU:(List.replicate (((lim (a*2^s)).length+2)-(lim (b*2^s)).length:Nat) 0).length=(((lim (a*2^s)).length+2)-(lim (b*2^s)).length:Nat):=by simp
 refine lL hs [.m 14 79] (ah (ab hs [.m 80 10,.v 81 (nV ((lim (a*2^s)++([0,0])).length)),.m 82 11] (bn 83 (((lim (a*2^s)++([0,0])).length:Nat)-((lim (b*2^s)).length:Nat)) (((lim (a*2^s)++([0,0])).length:Nat)-((lim (b*2^s)).length:Nat)) ?_)));refine lV 84 (iV (((((lim (a*2^s)).length+2)-(lim (b*2^s)).length:Nat):Int)-1)) ?_ (hr:=rS (((((lim (a*2^s)++([0,0])).length:Nat)-((lim (b*2^s)).length:Nat):Nat)-1)) kR ((fr oM oM).trans oM));refine lL hs [.m 15 84] (a8 ?_);refine bI _ (CG.loop (fun μ_ Γ w_=>∃ (m:Nat) (rA:Option Addr) (rc:Nat) (u:List Nat) (ql:List Nat) (h_:Hp),μ_=m∧Γ=[(4,sZ),(5,sZ),(8,nV s),(9,qS A7 ((lim (b*2^s)).length) c8),(10,qS rA ((u).length) rc),(11,nV ((lim (b*2^s)).length)),(12,mV ((lim (b*2^s)).getD (((lim (b*2^s)).length:Nat)-1:Nat) 0)),(13,mV ((lim (b*2^s)).getD (((lim (b*2^s)).length:Nat)-2:Nat) 0)),(14,qS (sB za) (((lim (a*2^s)).length+2)-(lim (b*2^s)).length:Nat) (((lim (a*2^s)).length+2)-(lim (b*2^s)).length:Nat)),(15,iV ((m:Int)-1))]∧SS w h w_ h_ [⟨za,128,(ql).flatMap aW⟩] [⟨128,1,rA,rc,(u).length,(u).flatMap aW⟩] [S3 (sB ze) ([0,0]),fun h_=>Seg h_ ze 0 ([uW 0,uW 0]),S3 zk (lim (a*2^s)),fun h_=>Seg h_ zj 0 ([]),S3 A7 (lim (b*2^s)),S3 D (lim b),S3 A (lim a)]∧m≤((lim (a*2^s)).length+2)-(lim (b*2^s)).length∧u.length=((lim (a*2^s)).length+2)∧Ld u∧ql.length=((lim (a*2^s)).length+2)-(lim (b*2^s)).length∧Ld ql∧ba u<4294967296^m*ba (lim (b*2^s))∧a*2^s=ba ql*ba (lim (b*2^s))+ba u∧(∀ k,k<m→ql.getD k 0=0)) _ ⟨((lim (a*2^s)).length+2)-(lim (b*2^s)).length,zP,zQ,(lim (a*2^s))++[0,0],List.replicate (((lim (a*2^s)).length+2)-(lim (b*2^s)).length:Nat) 0,yi,rfl,rfl,hs.to _ _,nR _,hul_,(Dg.append (Ld.lim _) (Dg.cons kD (Dg.one kD))),zU,Ld.rep _,(sL hvn hb2 oM (Nat.mul_pos hbp (Nat.two_pow_pos s))),C3,fun k _=>dl⟩ ?_);rintro _ _ _ ⟨m,rA,rc,u,ql,_,hm44,rfl,hs,hm,hul,hWu,hql,hWq,hR,inv,hq0⟩;refine cQ (ab hs [.m 85 15] ?_);cases zm:(decide ((0:Int)≤((m:Int)-1:Int)))
 ·
  have zB:=oF zm;refine lB 86 zm (ag (CG.exit ?_))
  show CG _ _ _ _ _ _ _ _
  refine ab hs [.m 251 14] ?_;have hm0:m=0:=by omega
  rw[hm0,Nat.pow_zero,Nat.one_mul] at hR
  obtain ⟨hQ,hRm⟩:=Ck (cn (b*2^s)) rfl inv hR;obtain ⟨_,hs,sg47,lo48,bc49⟩:=hs.pub 0;replace hs:=(hs.to [] [⟨128,1,rA,rc,(u).length,(u).flatMap aW⟩]).aS (SlO.of_flat (sz:=1) (f:=aW) (d:=0) (b:=za) (o:=0) (l:=ql) (fun _=>rfl) sg47);refine ai 252 hs (gL (sB za) (((lim (a*2^s)).length+2)-(lim (b*2^s)).length:Nat) ql (((lim (a*2^s)).length+2)-(lim (b*2^s)).length:Nat) hql oM oM _ _ hs.g hs.f.1) (fun _ _ hs=>lL hs [.m 253 10] ?_);obtain ⟨_,hs,zW⟩:=hs.pubr 0 (A:=rA) (c:=rc) (l:=u) (f:=aW) (ty:=128) (sz:=1) 0 (fun _=>rfl);refine ai 254 hs (gL rA rc u ((u).length) rfl oM zW _ _ hs.g hs.f.1) (fun _ _ hs=>lL hs [.m 255 8] (lV 256 (iV (-(s:Int))) ?_ (hr:=rS ((0-(s:Int))) kR (by rw[IntKind.wrap_i64];omega))));refine lC 257 hs (Ae (ba u) rA rc (tl u ((u).length)) (jQ hWu rfl) (by have:=fL u u.length;omega) (by have:=fL u u.length;omega) s oM _ _ hs.g (by rw[nZ (n:=ba u) hWu rfl];exact (hs.f.1).take _)) ?_;rintro _ _ _ hs ⟨yj,yk,rfl,zX,ya⟩;replace hs:=hs.aS ya;exact lL hs [.m 4 252,.m 5 257] (ae hs [] (.tuple #[qS (sB za) (tl ql (((lim (a*2^s)).length+2)-(lim (b*2^s)).length:Nat)) (((lim (a*2^s)).length+2)-(lim (b*2^s)).length:Nat),qS yj ((lim (ba u/2^s)).length) yk]) (⟨_,_,rfl,RN.trim hWq hQ hql (nR _) hs.f.r.1,by rw[←hRm];exact ⟨_,_,rfl,zX,hs.f.1⟩⟩))
 have zB:=oT zm;refine lB 86 zm (ak (cK (cQ (kZ (cQ (cR 17 [] mixed hs ar ?_))))));have hm1:0<m:=by omega
 have hn2:2≤(lim (b*2^s)).length:=by omega
 have hjn:m-1+(lim (b*2^s)).length<u.length:=by omega
 have hR1:ba u<4294967296^(m-1+1)*ba (lim (b*2^s)):=by rw[show m-1+1=m by omega];exact hR
 have hle:=CY hn2 rfl hWv hWu hjn hR1;have hu2:=hWu.get (m-1+(lim (b*2^s)).length);have hu1:=hWu.get (m-1+(lim (b*2^s)).length-1);have hu0:=hWu.get (m-1+(lim (b*2^s)).length-2);refine eV 0 89 (qS rA ((u).length) rc) (eV 1 90 (iV ((m:Int)-1)) (eV 2 91 (nV ((lim (b*2^s)).length)) (iR 3 92 (((m:Int)-1)+((lim (b*2^s)).length:Nat)) (m-1+(lim (b*2^s)).length) ?_)));obtain ⟨zb,zD⟩:=hs.rowA 0 (A:=rA) (c:=rc) (m:=(u).length) (ty:=128) (sz:=1) (cs:=(u).flatMap aW) oM;subst zD;refine eX 4 93 (sB zb) ((u).length) rc 1 (m-1+(lim (b*2^s)).length:Nat) (m-1+(lim (b*2^s)).length:Nat) rfl (Ci (ty:=128) (sz:=1) (c:=rc) (m:=(u).length) (b:=zb) (cs:=(u).flatMap aW) 5 94 0 (mW (u.getD (m-1+(lim (b*2^s)).length:Nat) 0)) (aW (u.getD (m-1+(lim (b*2^s)).length:Nat) 0)) hs (eW (f:=aW) (sz:=1) (fun _=>rfl) 0 u (m-1+(lim (b*2^s)).length:Nat) oM) (eV 6 95 (mV (u.getD (m-1+(lim (b*2^s)).length:Nat) 0)) ?_ (hv:=fun _=>rU (((u.getD (m-1+(lim (b*2^s)).length:Nat) 0:Nat):Int)) kR (aZ oM oM))));refine eV 7 96 (mV ((u.getD (m-1+(lim (b*2^s)).length:Nat) 0:Nat)*4294967296%18446744073709551616)) ?_ (hv:=fun _=>rU ((((u.getD (m-1+(lim (b*2^s)).length:Nat) 0:Nat):Int)*4294967296)) kR (it (u.getD (m-1+(lim (b*2^s)).length:Nat) 0:Nat) 4294967296));refine eV 8 97 (qS (sB zb) ((u).length) rc) (eV 9 98 (iV ((m:Int)-1)) (eV 10 99 (nV ((lim (b*2^s)).length)) (iR 11 100 (((m:Int)-1)+((lim (b*2^s)).length:Nat)) (m-1+(lim (b*2^s)).length) (iR 12 101 ((m-1+(lim (b*2^s)).length:Nat)-1) (m-1+(lim (b*2^s)).length-1) (eX 13 102 (sB zb) ((u).length) rc 1 (m-1+(lim (b*2^s)).length-1:Nat) (m-1+(lim (b*2^s)).length-1:Nat) rfl (Ci (ty:=128) (sz:=1) (c:=rc) (m:=(u).length) (b:=zb) (cs:=(u).flatMap aW) 14 103 0 (mW (u.getD (m-1+(lim (b*2^s)).length-1:Nat) 0)) (aW (u.getD (m-1+(lim (b*2^s)).length-1:Nat) 0)) hs (eW (f:=aW) (sz:=1) (fun _=>rfl) 0 u (m-1+(lim (b*2^s)).length-1:Nat) oM) (eV 15 104 (mV (u.getD (m-1+(lim (b*2^s)).length-1:Nat) 0)) ?_ (hv:=fun _=>rU (((u.getD (m-1+(lim (b*2^s)).length-1:Nat) 0:Nat):Int)) kR (aZ oM oM)))))))));refine eV 16 105 (mV ((u.getD (m-1+(lim (b*2^s)).length) 0)*4294967296+u.getD (m-1+(lim (b*2^s)).length-1) 0)) ?_ (hv:=fun _=>aI (fR (t:=39) (u:=39) (x:=.tmp 96) (y:=.tmp 104) (a:=((u.getD (m-1+(lim (b*2^s)).length:Nat) 0:Nat)*4294967296%18446744073709551616:Nat)) (b:=(u.getD (m-1+(lim (b*2^s)).length-1:Nat) 0:Nat)) kR kR kR oM oM _) (by rw[Nat.mod_eq_of_lt (show (u.getD (m-1+(lim (b*2^s)).length) 0)*4294967296<18446744073709551616 by omega),oh hu1]));refine ce hs (fun _ yl hs=>tV 17 16 (mV ((u.getD (m-1+(lim (b*2^s)).length) 0)*4294967296+u.getD (m-1+(lim (b*2^s)).length-1) 0)) (qI (lL hs [.m 106 16,.m 107 12] (lV 108 (mV (((u.getD (m-1+(lim (b*2^s)).length) 0)*4294967296+u.getD (m-1+(lim (b*2^s)).length-1) 0:Nat)/((lim (b*2^s)).getD (((lim (b*2^s)).length:Nat)-1:Nat) 0:Nat))) ?_ (hr:=aI (cJ (t:=39) (u:=39) (x:=.tmp 106) (y:=.tmp 107) (k:=.u64) (a:=(((u.getD (m-1+(lim (b*2^s)).length) 0)*4294967296+u.getD (m-1+(lim (b*2^s)).length-1) 0:Nat):Int)) (b:=(((lim (b*2^s)).getD (((lim (b*2^s)).length:Nat)-1:Nat) 0:Nat):Int)) kR kR kR oM _) (iS ((u.getD (m-1+(lim (b*2^s)).length) 0)*4294967296+u.getD (m-1+(lim (b*2^s)).length-1) 0:Nat) ((lim (b*2^s)).getD (((lim (b*2^s)).length:Nat)-1:Nat) 0:Nat) oM))))));refine lL hs [.m 17 108] (aG (lL hs [.m 109 16,.m 110 12] (lV 111 (mV (((u.getD (m-1+(lim (b*2^s)).length) 0)*4294967296+u.getD (m-1+(lim (b*2^s)).length-1) 0:Nat)%((lim (b*2^s)).getD (((lim (b*2^s)).length:Nat)-1:Nat) 0:Nat))) ?_ (hr:=aI (dC (t:=39) (u:=39) (x:=.tmp 109) (y:=.tmp 110) (k:=.u64) (a:=(((u.getD (m-1+(lim (b*2^s)).length) 0)*4294967296+u.getD (m-1+(lim (b*2^s)).length-1) 0:Nat):Int)) (b:=(((lim (b*2^s)).getD (((lim (b*2^s)).length:Nat)-1:Nat) 0:Nat):Int)) kR kR kR oM _) (bY ((u.getD (m-1+(lim (b*2^s)).length) 0)*4294967296+u.getD (m-1+(lim (b*2^s)).length-1) 0:Nat) ((lim (b*2^s)).getD (((lim (b*2^s)).length:Nat)-1:Nat) 0:Nat))))));refine lL hs [.m 18 111] (lN (CG.join (fun Γ w_=>∃ (gq:Nat) (h_:Hp),Γ=[(4,sZ),(5,sZ),(8,nV s),(9,qS A7 ((lim (b*2^s)).length) c8),(10,qS (sB zb) ((u).length) rc),(11,nV ((lim (b*2^s)).length)),(12,mV ((lim (b*2^s)).getD (((lim (b*2^s)).length:Nat)-1:Nat) 0)),(13,mV ((lim (b*2^s)).getD (((lim (b*2^s)).length:Nat)-2:Nat) 0)),(14,qS (sB za) (((lim (a*2^s)).length+2)-(lim (b*2^s)).length:Nat) (((lim (a*2^s)).length+2)-(lim (b*2^s)).length:Nat)),(15,iV ((m:Int)-1)),(17,mV gq)]∧SS w h w_ h_ [⟨za,128,(ql).flatMap aW⟩] [⟨128,1,sB zb,rc,(u).length,(u).flatMap aW⟩] [S3 (sB ze) ([0,0]),fun h_=>Seg h_ ze 0 ([uW 0,uW 0]),S3 zk (lim (a*2^s)),fun h_=>Seg h_ zj 0 ([]),S3 A7 (lim (b*2^s)),S3 D (lim b),S3 A (lim a)]∧wn (u.getD (m-1+(lim (b*2^s)).length) 0) (u.getD (m-1+(lim (b*2^s)).length-1) 0) (u.getD (m-1+(lim (b*2^s)).length-2) 0) ((lim (b*2^s)).getD ((lim (b*2^s)).length-1) 0) ((lim (b*2^s)).getD ((lim (b*2^s)).length-2) 0) gq) ?_ ?_))
 ·
  refine kZ ?_;refine bI _ (CG.loop (fun μ_ Γ w_=>∃ (g:Nat) (rh:Nat) (h_:Hp),μ_=g∧Γ=[(4,sZ),(5,sZ),(8,nV s),(9,qS A7 ((lim (b*2^s)).length) c8),(10,qS (sB zb) ((u).length) rc),(11,nV ((lim (b*2^s)).length)),(12,mV ((lim (b*2^s)).getD (((lim (b*2^s)).length:Nat)-1:Nat) 0)),(13,mV ((lim (b*2^s)).getD (((lim (b*2^s)).length:Nat)-2:Nat) 0)),(14,qS (sB za) (((lim (a*2^s)).length+2)-(lim (b*2^s)).length:Nat) (((lim (a*2^s)).length+2)-(lim (b*2^s)).length:Nat)),(15,iV ((m:Int)-1)),(17,mV g),(18,mV rh)]∧SS w h w_ h_ [⟨za,128,(ql).flatMap aW⟩] [⟨128,1,sB zb,rc,(u).length,(u).flatMap aW⟩] [S3 (sB ze) ([0,0]),fun h_=>Seg h_ ze 0 ([uW 0,uW 0]),S3 zk (lim (a*2^s)),fun h_=>Seg h_ zj 0 ([]),S3 A7 (lim (b*2^s)),S3 D (lim b),S3 A (lim a)]∧Gk (u.getD (m-1+(lim (b*2^s)).length) 0) (u.getD (m-1+(lim (b*2^s)).length-1) 0) (u.getD (m-1+(lim (b*2^s)).length-2) 0) ((lim (b*2^s)).getD ((lim (b*2^s)).length-1) 0) ((lim (b*2^s)).getD ((lim (b*2^s)).length-2) 0) g rh∧rh<4294967296∧g<18446744073709551616) _ ⟨(((u.getD (m-1+(lim (b*2^s)).length) 0)*4294967296+u.getD (m-1+(lim (b*2^s)).length-1) 0:Nat)/((lim (b*2^s)).getD (((lim (b*2^s)).length:Nat)-1:Nat) 0:Nat):Nat),(((u.getD (m-1+(lim (b*2^s)).length) 0)*4294967296+u.getD (m-1+(lim (b*2^s)).length-1) 0:Nat)%((lim (b*2^s)).getD (((lim (b*2^s)).length:Nat)-1:Nat) 0:Nat):Nat),yl,rfl,rfl,hs.to _ _,(Gk.start oM hu0),(by have:=Nat.mod_lt (u.getD (m-1+(lim (b*2^s)).length) 0*4294967296+u.getD (m-1+(lim (b*2^s)).length-1) 0) (show 0<(lim (b*2^s)).getD ((lim (b*2^s)).length-1) 0 by omega);omega),(by have:=Nat.div_le_self ((u.getD (m-1+(lim (b*2^s)).length) 0)*4294967296+u.getD (m-1+(lim (b*2^s)).length-1) 0) ((lim (b*2^s)).getD ((lim (b*2^s)).length-1) 0);omega)⟩ ?_);rintro _ _ _ ⟨g,rh,zl,hm70,rfl,hs,hG,hrh,hgb⟩;have hbig:=fun hg=>hG.big hg hle hu1
  refine cQ (ab hs [.m 112 17] ?_);cases zn:(decide ((4294967296:Int)≤(g:Int)))
  ·
   have zE:=oF zn;refine lB 113 zn (lL hs [.m 114 113,.m 115 18] ?_);cases zo:(decide ((rh:Int)<(4294967296:Int)))
   ·
    have zG:=oF zo;refine lB 116 zo (lL hs [.m 117 116] (lG 118 ?_));refine lG 119 (lG 120 (lG 121 (lG 122 (lG 123 (lG 124 (lG 125 (lG 126 (lG 127 (lG 128 (lG 129 (lG 130 (lG 131 (lG 132 (lL hs [.v 133 qF,.v 134 qF] (ag (CG.exit ?_))))))))))))))));intro a_ ka;exact ⟨_,⟨g,zl,rfl,hs.to _ _,(hG.fin oM hv0 (by first|exact .inr oM|exact .inl oM))⟩,ka.to _ kR⟩
   have zG:=oT zo;refine lB 116 zo (lL hs [.m 117 116,.m 118 17,.m 119 13] (lV 120 (mV (g*((lim (b*2^s)).getD (((lim (b*2^s)).length:Nat)-2:Nat) 0:Nat))) ?_ (hr:=rU (((g:Int)*(((lim (b*2^s)).getD (((lim (b*2^s)).length:Nat)-2:Nat) 0:Nat):Int))) kR (fl g ((lim (b*2^s)).getD (((lim (b*2^s)).length:Nat)-2:Nat) 0:Nat) (by have:=sF (show g<4294967296 by omega) hv0;omega)))));refine lL hs [.m 121 18] (lV 122 (mV (rh*4294967296)) ?_ (hr:=rU (((rh:Int)*4294967296)) kR ((aZ oM oM).trans oM)));refine lL hs [.m 123 10,.m 124 15,.m 125 11] (bn 126 (((m:Int)-1)+((lim (b*2^s)).length:Nat)) (m-1+(lim (b*2^s)).length) ?_);refine bn 127 ((m-1+(lim (b*2^s)).length:Nat)-2) (m-1+(lim (b*2^s)).length-2) (lX 128 (sB zb) ((u).length) rc 1 (m-1+(lim (b*2^s)).length-2:Nat) (m-1+(lim (b*2^s)).length-2:Nat) rfl (Fq (ty:=128) (sz:=1) (c:=rc) (m:=(u).length) (b:=zb) (cs:=(u).flatMap aW) 129 0 (mW (u.getD (m-1+(lim (b*2^s)).length-2:Nat) 0)) (aW (u.getD (m-1+(lim (b*2^s)).length-2:Nat) 0)) hs (eW (f:=aW) (sz:=1) (fun _=>rfl) 0 u (m-1+(lim (b*2^s)).length-2:Nat) oM) (lV 130 (mV (u.getD (m-1+(lim (b*2^s)).length-2:Nat) 0)) ?_ (hr:=rU (((u.getD (m-1+(lim (b*2^s)).length-2:Nat) 0:Nat):Int)) kR (aZ oM oM)))));refine lV 131 (mV (rh*4294967296+u.getD (m-1+(lim (b*2^s)).length-2) 0)) ?_ (hr:=aI (fR (t:=39) (u:=39) (x:=.tmp 122) (y:=.tmp 130) (a:=(rh*4294967296)) (b:=(u.getD (m-1+(lim (b*2^s)).length-2:Nat) 0:Nat)) kR kR kR oM oM _) (by rw[oh hu0]));cases zp:(decide (((rh*4294967296+u.getD (m-1+(lim (b*2^s)).length-2) 0:Nat):Int)<((g*((lim (b*2^s)).getD (((lim (b*2^s)).length:Nat)-2:Nat) 0:Nat):Nat):Int)))
   ·
    have zH:=oF zp;refine lB 132 zp (lL hs [.v 133 qF,.v 134 qF] (ag (CG.exit ?_)));intro a_ ka;exact ⟨_,⟨g,zl,rfl,hs.to _ _,(hG.fin oM hv0 (by first|exact .inr oM|exact .inl oM))⟩,ka.to _ kR⟩
   have zH:=oT zp;refine lB 132 zp (lL hs [.v 133 qT,.v 134 qT] (ak (cK (kZ (av ?_)))));have hG2:Gk (u.getD (m-1+(lim (b*2^s)).length) 0) (u.getD (m-1+(lim (b*2^s)).length-1) 0) (u.getD (m-1+(lim (b*2^s)).length-2) 0) ((lim (b*2^s)).getD ((lim (b*2^s)).length-1) 0) ((lim (b*2^s)).getD ((lim (b*2^s)).length-2) 0) (g-1) (rh+(lim (b*2^s)).getD ((lim (b*2^s)).length-1) 0):=by first|exact hG.decB oM|exact (hG.decT oM).2
   have hg0:0<g:=by first|omega|exact (hG.decT oM).1
   refine lL hs [.m 135 17] (lV 136 (mV (g-1)) ?_ (hr:=rU (((g:Int)-(1:Int))) kR (dN g 1 oM oM)));refine lL hs [.m 17 136] (aG (lL hs [.m 137 18,.m 138 12] (lV 139 (mV (rh+((lim (b*2^s)).getD (((lim (b*2^s)).length:Nat)-1:Nat) 0:Nat))) ?_ (hr:=rU (((rh:Int)+(((lim (b*2^s)).getD (((lim (b*2^s)).length:Nat)-1:Nat) 0:Nat):Int))) kR (de rh ((lim (b*2^s)).getD (((lim (b*2^s)).length:Nat)-1:Nat) 0:Nat) oM)))));refine lL hs [.m 18 139] (aG (lL hs [.m 140 18] ?_));cases zq:(decide ((4294967296:Int)≤((rh+((lim (b*2^s)).getD (((lim (b*2^s)).length:Nat)-1:Nat) 0:Nat):Nat):Int)))
   ·
    have zI:=oF zq;refine lB 141 zq (lN (bI [(4,sZ),(5,sZ),(8,nV s),(9,qS A7 ((lim (b*2^s)).length) c8),(10,qS (sB zb) ((u).length) rc),(11,nV ((lim (b*2^s)).length)),(12,mV ((lim (b*2^s)).getD (((lim (b*2^s)).length:Nat)-1:Nat) 0)),(13,mV ((lim (b*2^s)).getD (((lim (b*2^s)).length:Nat)-2:Nat) 0)),(14,qS (sB za) (((lim (a*2^s)).length+2)-(lim (b*2^s)).length:Nat) (((lim (a*2^s)).length+2)-(lim (b*2^s)).length:Nat)),(15,iV ((m:Int)-1)),(17,mV (g-1)),(18,mV (rh+((lim (b*2^s)).getD (((lim (b*2^s)).length:Nat)-1:Nat) 0:Nat))),(141,qF)] ?_));refine cY (CG.skip ?_);intro a_ ka;refine ⟨_,_,?_,⟨g-1,(rh+((lim (b*2^s)).getD (((lim (b*2^s)).length:Nat)-1:Nat) 0:Nat):Nat),zl,rfl,rfl,hs.to _ _,hG2,oM,oM⟩,ka.to _ kR⟩
    omega
   have zI:=oT zq;refine lB 141 zq (lN (bI [(4,sZ),(5,sZ),(8,nV s),(9,qS A7 ((lim (b*2^s)).length) c8),(10,qS (sB zb) ((u).length) rc),(11,nV ((lim (b*2^s)).length)),(12,mV ((lim (b*2^s)).getD (((lim (b*2^s)).length:Nat)-1:Nat) 0)),(13,mV ((lim (b*2^s)).getD (((lim (b*2^s)).length:Nat)-2:Nat) 0)),(14,qS (sB za) (((lim (a*2^s)).length+2)-(lim (b*2^s)).length:Nat) (((lim (a*2^s)).length+2)-(lim (b*2^s)).length:Nat)),(15,iV ((m:Int)-1)),(17,mV (g-1)),(18,mV (rh+((lim (b*2^s)).getD (((lim (b*2^s)).length:Nat)-1:Nat) 0:Nat))),(141,qT)] ?_));refine cl (CG.exit ?_);have hbig2:=fun hg=>hG2.big hg hle hu1
   intro a_ ka;exact ⟨_,⟨(g-1),zl,rfl,hs.to _ _,(hG2.fin oM hv0 (.inl oM))⟩,ka.to _ kR⟩
  have zE:=oT zn;refine lB 113 zn (lL hs [.m 114 113] (lG 115 ?_));refine lG 116 (lG 117 (lG 118 (lG 119 (lG 120 (lG 121 (lG 122 (lG 123 (lG 124 (lG 125 (lG 126 (lG 127 (lG 128 (lG 129 (lG 130 (lG 131 (lG 132 (lG 133 (lL hs [.v 134 qT] (ak (cK (kZ (av ?_))))))))))))))))))))));have hG2:Gk (u.getD (m-1+(lim (b*2^s)).length) 0) (u.getD (m-1+(lim (b*2^s)).length-1) 0) (u.getD (m-1+(lim (b*2^s)).length-2) 0) ((lim (b*2^s)).getD ((lim (b*2^s)).length-1) 0) ((lim (b*2^s)).getD ((lim (b*2^s)).length-2) 0) (g-1) (rh+(lim (b*2^s)).getD ((lim (b*2^s)).length-1) 0):=by first|exact hG.decB oM|exact (hG.decT oM).2
  have hg0:0<g:=by first|omega|exact (hG.decT oM).1
  refine lL hs [.m 135 17] (lV 136 (mV (g-1)) ?_ (hr:=rU (((g:Int)-(1:Int))) kR (dN g 1 oM oM)));refine lL hs [.m 17 136] (aG (lL hs [.m 137 18,.m 138 12] (lV 139 (mV (rh+((lim (b*2^s)).getD (((lim (b*2^s)).length:Nat)-1:Nat) 0:Nat))) ?_ (hr:=rU (((rh:Int)+(((lim (b*2^s)).getD (((lim (b*2^s)).length:Nat)-1:Nat) 0:Nat):Int))) kR (de rh ((lim (b*2^s)).getD (((lim (b*2^s)).length:Nat)-1:Nat) 0:Nat) oM)))));refine lL hs [.m 18 139] (aG (lL hs [.m 140 18] ?_));cases zr:(decide ((4294967296:Int)≤((rh+((lim (b*2^s)).getD (((lim (b*2^s)).length:Nat)-1:Nat) 0:Nat):Nat):Int)))
  ·
   have zJ:=oF zr;refine lB 141 zr (lN (bI [(4,sZ),(5,sZ),(8,nV s),(9,qS A7 ((lim (b*2^s)).length) c8),(10,qS (sB zb) ((u).length) rc),(11,nV ((lim (b*2^s)).length)),(12,mV ((lim (b*2^s)).getD (((lim (b*2^s)).length:Nat)-1:Nat) 0)),(13,mV ((lim (b*2^s)).getD (((lim (b*2^s)).length:Nat)-2:Nat) 0)),(14,qS (sB za) (((lim (a*2^s)).length+2)-(lim (b*2^s)).length:Nat) (((lim (a*2^s)).length+2)-(lim (b*2^s)).length:Nat)),(15,iV ((m:Int)-1)),(17,mV (g-1)),(18,mV (rh+((lim (b*2^s)).getD (((lim (b*2^s)).length:Nat)-1:Nat) 0:Nat))),(141,qF)] ?_));refine cY (CG.skip ?_);intro a_ ka;refine ⟨_,_,?_,⟨g-1,(rh+((lim (b*2^s)).getD (((lim (b*2^s)).length:Nat)-1:Nat) 0:Nat):Nat),zl,rfl,rfl,hs.to _ _,hG2,oM,oM⟩,ka.to _ kR⟩
   omega
  have zJ:=oT zr;refine lB 141 zr (lN (bI [(4,sZ),(5,sZ),(8,nV s),(9,qS A7 ((lim (b*2^s)).length) c8),(10,qS (sB zb) ((u).length) rc),(11,nV ((lim (b*2^s)).length)),(12,mV ((lim (b*2^s)).getD (((lim (b*2^s)).length:Nat)-1:Nat) 0)),(13,mV ((lim (b*2^s)).getD (((lim (b*2^s)).length:Nat)-2:Nat) 0)),(14,qS (sB za) (((lim (a*2^s)).length+2)-(lim (b*2^s)).length:Nat) (((lim (a*2^s)).length+2)-(lim (b*2^s)).length:Nat)),(15,iV ((m:Int)-1)),(17,mV (g-1)),(18,mV (rh+((lim (b*2^s)).getD (((lim (b*2^s)).length:Nat)-1:Nat) 0:Nat))),(141,qT)] ?_));refine cl (CG.exit ?_);have hbig2:=fun hg=>hG2.big hg hle hu1
  intro a_ ka;exact ⟨_,⟨(g-1),zl,rfl,hs.to _ _,(hG2.fin oM hv0 (.inl oM))⟩,ka.to _ kR⟩
 rintro _ _ ⟨gq,ym,rfl,hs,hH⟩;refine av ?_;have hgl:=hH.2.2;have hGd:=sl (n:=(lim (b*2^s)).length) (j:=m-1) hn2 rfl hWv hWu hjn htop hR1 hH;refine lL hs [.v 19 (uV 0)] (aG (lL hs [.v 20 (uV 0)] (ah (ab hs [.v 21 (iV 0)] (a8 ?_)))));refine bI _ (CG.loop (fun μ_ Γ w_=>∃ (i:Nat) (raA:Option Addr) (rac:Nat) (ua:List Nat) (cy:Nat) (bo:Nat) (h_:Hp),μ_=(lim (b*2^s)).length-i∧Γ=[(4,sZ),(5,sZ),(8,nV s),(9,qS A7 ((lim (b*2^s)).length) c8),(10,qS raA ((ua).length) rac),(11,nV ((lim (b*2^s)).length)),(12,mV ((lim (b*2^s)).getD (((lim (b*2^s)).length:Nat)-1:Nat) 0)),(13,mV ((lim (b*2^s)).getD (((lim (b*2^s)).length:Nat)-2:Nat) 0)),(14,qS (sB za) (((lim (a*2^s)).length+2)-(lim (b*2^s)).length:Nat) (((lim (a*2^s)).length+2)-(lim (b*2^s)).length:Nat)),(15,iV ((m:Int)-1)),(17,mV gq),(21,nV i),(19,mV cy),(20,mV bo)]∧SS w h w_ h_ [⟨za,128,(ql).flatMap aW⟩] [⟨128,1,raA,rac,(ua).length,(ua).flatMap aW⟩] [S3 (sB ze) ([0,0]),fun h_=>Seg h_ ze 0 ([uW 0,uW 0]),S3 zk (lim (a*2^s)),fun h_=>Seg h_ zj 0 ([]),S3 A7 (lim (b*2^s)),S3 D (lim b),S3 A (lim a)]∧i≤(lim (b*2^s)).length∧ua.length=((lim (a*2^s)).length+2)∧Ld ua∧cy<4294967296∧bo≤1∧aj 4294967296 ua+4294967296^(m-1)*(gq*aj 4294967296 ((lim (b*2^s)).take i))=ba u+4294967296^(m-1+i)*(cy+bo)∧Above ua u (m-1+(lim (b*2^s)).length+1)) _ ⟨0,sB zb,rc,u,0,0,ym,rfl,rfl,hs.to _ _,Nat.zero_le _,hul,hWu,oM,oM,(by show aj _ u+_=aj _ u+_;simp[aj]),Above.refl _ _⟩ ?_);rintro _ _ _ ⟨i,raA,rac,ua,cy,bo,zu,hm90,rfl,hs,hi,hua,hWa,hcy,hbo,inv1,hab1⟩;have huak:=hWa.get (m-1+i);have hvi:=hWv.get i;refine cQ (ab hs [.m 142 21,.m 143 11] ?_);cases zs:(decide ((i:Int)<(((lim (b*2^s)).length:Nat):Int)))
 ·
  have zK:=oF zs;refine lB 144 zs (ag (CG.exit ?_))
  show CG _ _ _ _ _ _ _ _
  refine av ?_;have huan:=hWa.get (m-1+(lim (b*2^s)).length);refine lL hs [.m 179 10,.m 180 15,.m 181 11] (bn 182 (((m:Int)-1)+((lim (b*2^s)).length:Nat)) (m-1+(lim (b*2^s)).length) ?_);obtain ⟨zd,zL⟩:=hs.rowA 0 (A:=raA) (c:=rac) (m:=(ua).length) (ty:=128) (sz:=1) (cs:=(ua).flatMap aW) oM;subst zL;refine lX 183 (sB zd) ((ua).length) rac 1 (m-1+(lim (b*2^s)).length:Nat) (m-1+(lim (b*2^s)).length:Nat) rfl (Fq (ty:=128) (sz:=1) (c:=rac) (m:=(ua).length) (b:=zd) (cs:=(ua).flatMap aW) 184 0 (mW (ua.getD (m-1+(lim (b*2^s)).length:Nat) 0)) (aW (ua.getD (m-1+(lim (b*2^s)).length:Nat) 0)) hs (eW (f:=aW) (sz:=1) (fun _=>rfl) 0 ua (m-1+(lim (b*2^s)).length:Nat) oM) (lV 185 (mV (ua.getD (m-1+(lim (b*2^s)).length:Nat) 0)) ?_ (hr:=rU (((ua.getD (m-1+(lim (b*2^s)).length:Nat) 0:Nat):Int)) kR (aZ oM oM))));refine lL hs [.m 186 19] (lV 187 (mV (((ua.getD (m-1+(lim (b*2^s)).length:Nat) 0:Nat)+(18446744073709551616-cy))%18446744073709551616)) ?_ (hr:=rU ((((ua.getD (m-1+(lim (b*2^s)).length:Nat) 0:Nat):Int)-(cy:Int))) kR (jc (ua.getD (m-1+(lim (b*2^s)).length:Nat) 0:Nat) cy oM)));refine lL hs [.m 188 20] (lV 189 (mV (((((ua.getD (m-1+(lim (b*2^s)).length:Nat) 0:Nat)+(18446744073709551616-cy))%18446744073709551616:Nat)+(18446744073709551616-bo))%18446744073709551616)) ?_ (hr:=rU ((((((ua.getD (m-1+(lim (b*2^s)).length:Nat) 0:Nat)+(18446744073709551616-cy))%18446744073709551616:Nat):Int)-(bo:Int))) kR (jc (((ua.getD (m-1+(lim (b*2^s)).length:Nat) 0:Nat)+(18446744073709551616-cy))%18446744073709551616:Nat) bo oM)));refine lL hs [.m 23 189] (aG ?_);rw[show i=(lim (b*2^s)).length by omega] at inv1
  obtain ⟨hT1,hT2⟩:=uH (t:=(((((ua.getD (m-1+(lim (b*2^s)).length:Nat) 0:Nat)+(18446744073709551616-cy))%18446744073709551616:Nat)+(18446744073709551616-bo))%18446744073709551616:Nat)) (hWa.get (m-1+(lim (b*2^s)).length)) hcy hbo rfl;have hE:=uZ oM inv1 (s:=(((((((ua.getD (m-1+(lim (b*2^s)).length:Nat) 0:Nat)+(18446744073709551616-cy))%18446744073709551616:Nat)+(18446744073709551616-bo))%18446744073709551616:Nat))%4294967296)) (bo':=((((((ua.getD (m-1+(lim (b*2^s)).length:Nat) 0:Nat)+(18446744073709551616-cy))%18446744073709551616:Nat)+(18446744073709551616-bo))%18446744073709551616:Nat))/9223372036854775808) oM;refine lL hs [.m 190 10,.m 191 15,.m 192 11] (bn 193 (((m:Int)-1)+((lim (b*2^s)).length:Nat)) (m-1+(lim (b*2^s)).length) ?_);refine lL hs [.m 194 23] (lV 195 (mW ((((((ua.getD (m-1+(lim (b*2^s)).length:Nat) 0:Nat)+(18446744073709551616-cy))%18446744073709551616:Nat)+(18446744073709551616-bo))%18446744073709551616:Nat)%4294967296)) ?_ (hr:=rT (((((((ua.getD (m-1+(lim (b*2^s)).length:Nat) 0:Nat)+(18446744073709551616-cy))%18446744073709551616:Nat)+(18446744073709551616-bo))%18446744073709551616:Nat):Int)) kR (fu _)));refine lX 196 (sB zd) ((ua).length) rac 1 (m-1+(lim (b*2^s)).length:Nat) (m-1+(lim (b*2^s)).length:Nat) rfl (Cf (ty:=128) (c:=rac) (b:=zd) 0 (m-1+(lim (b*2^s)).length:Nat) 0 ([mW ((((((ua.getD (m-1+(lim (b*2^s)).length:Nat) 0:Nat)+(18446744073709551616-cy))%18446744073709551616:Nat)+(18446744073709551616-bo))%18446744073709551616:Nat)%4294967296)]) ua aW 1 0 ((((((ua.getD (m-1+(lim (b*2^s)).length:Nat) 0:Nat)+(18446744073709551616-cy))%18446744073709551616:Nat)+(18446744073709551616-bo))%18446744073709551616:Nat)%4294967296:Nat) hs oM (fun _ hs=>?_));replace hs:=hs.to [⟨za,128,(ql).flatMap aW⟩] [⟨128,1,sB zd,rac,(ua).length,(ua.set (m-1+(lim (b*2^s)).length:Nat) ((((((ua.getD (m-1+(lim (b*2^s)).length:Nat) 0:Nat)+(18446744073709551616-cy))%18446744073709551616:Nat)+(18446744073709551616-bo))%18446744073709551616:Nat)%4294967296:Nat)).flatMap aW⟩];refine lN (CG.join (fun Γ w_=>∃ (gz:Nat) (rzA:Option Addr) (rzc:Nat) (uz:List Nat) (h_:Hp),Γ=[(4,sZ),(5,sZ),(8,nV s),(9,qS A7 ((lim (b*2^s)).length) c8),(11,nV ((lim (b*2^s)).length)),(12,mV ((lim (b*2^s)).getD (((lim (b*2^s)).length:Nat)-1:Nat) 0)),(13,mV ((lim (b*2^s)).getD (((lim (b*2^s)).length:Nat)-2:Nat) 0)),(14,qS (sB za) (((lim (a*2^s)).length+2)-(lim (b*2^s)).length:Nat) (((lim (a*2^s)).length+2)-(lim (b*2^s)).length:Nat)),(15,iV ((m:Int)-1)),(17,mV gz),(10,qS rzA ((uz).length) rzc)]∧SS w h w_ h_ [⟨za,128,(ql).flatMap aW⟩] [⟨128,1,rzA,rzc,(uz).length,(uz).flatMap aW⟩] [S3 (sB ze) ([0,0]),fun h_=>Seg h_ ze 0 ([uW 0,uW 0]),S3 zk (lim (a*2^s)),fun h_=>Seg h_ zj 0 ([]),S3 A7 (lim (b*2^s)),S3 D (lim b),S3 A (lim a)]∧uz.length=((lim (a*2^s)).length+2)∧Ld uz∧gz<4294967296∧ba uz<4294967296^(m-1)*ba (lim (b*2^s))∧ba uz+4294967296^(m-1)*(gz*ba (lim (b*2^s)))=ba u) ?_ ?_)
  ·
   refine av ?_;have hW4:Ld (ua.set (m-1+(lim (b*2^s)).length:Nat) ((((((ua.getD (m-1+(lim (b*2^s)).length:Nat) 0:Nat)+(18446744073709551616-cy))%18446744073709551616:Nat)+(18446744073709551616-bo))%18446744073709551616:Nat)%4294967296:Nat)):=hWa.set _ (Nat.mod_lt _ kD);have hab4:Above (ua.set (m-1+(lim (b*2^s)).length:Nat) ((((((ua.getD (m-1+(lim (b*2^s)).length:Nat) 0:Nat)+(18446744073709551616-cy))%18446744073709551616:Nat)+(18446744073709551616-bo))%18446744073709551616:Nat)%4294967296:Nat)) u (m-1+(lim (b*2^s)).length+1):=hab1.set oM oM;have hl4:(ua.set (m-1+(lim (b*2^s)).length:Nat) ((((((ua.getD (m-1+(lim (b*2^s)).length:Nat) 0:Nat)+(18446744073709551616-cy))%18446744073709551616:Nat)+(18446744073709551616-bo))%18446744073709551616:Nat)%4294967296:Nat)).length=((lim (a*2^s)).length+2):=by rw[List.length_set];exact hua
   refine lL hs [.m 197 23] (lV 198 (mV ((((((ua.getD (m-1+(lim (b*2^s)).length:Nat) 0:Nat)+(18446744073709551616-cy))%18446744073709551616:Nat)+(18446744073709551616-bo))%18446744073709551616:Nat)/9223372036854775808)) ?_ (hr:=aI (n:=Int.fdiv ((((((ua.getD (m-1+(lim (b*2^s)).length:Nat) 0:Nat)+(18446744073709551616-cy))%18446744073709551616:Nat)+(18446744073709551616-bo))%18446744073709551616:Nat):Int) 9223372036854775808) kR (dm _ 9223372036854775808)));cases zt:((((((((ua.getD (m-1+(lim (b*2^s)).length:Nat) 0:Nat)+(18446744073709551616-cy))%18446744073709551616:Nat)+(18446744073709551616-bo))%18446744073709551616:Nat)/9223372036854775808:Nat):Int) == (1:Int))
   ·
    have zM:=af zt;refine lB 199 zt (ag (CG.skip ?_));have hD_:=x4 hn2 rfl hWv hWu hW4 hjn htop hR1 hGd hab4 (by rw[show ((((((ua.getD (m-1+(lim (b*2^s)).length:Nat) 0:Nat)+(18446744073709551616-cy))%18446744073709551616:Nat)+(18446744073709551616-bo))%18446744073709551616:Nat))/9223372036854775808=0 by omega] at hE;exact hE);have hDw:=hW4;have hDg:=hgl;have hDu:=hD_.1;have hDe:=hD_.2;have hDl:=hl4;intro a_ ka;replace hs:=hs.rown [⟨128,1,sB zd,rac,(ua.set (m-1+(lim (b*2^s)).length:Nat) ((((((ua.getD (m-1+(lim (b*2^s)).length:Nat) 0:Nat)+(18446744073709551616-cy))%18446744073709551616:Nat)+(18446744073709551616-bo))%18446744073709551616:Nat)%4294967296:Nat)).length,(ua.set (m-1+(lim (b*2^s)).length:Nat) ((((((ua.getD (m-1+(lim (b*2^s)).length:Nat) 0:Nat)+(18446744073709551616-cy))%18446744073709551616:Nat)+(18446744073709551616-bo))%18446744073709551616:Nat)%4294967296:Nat)).flatMap aW⟩] (by simp only[List.length_set]);exact ⟨_,⟨gq,sB zd,rac,ua.set (m-1+(lim (b*2^s)).length:Nat) ((((((ua.getD (m-1+(lim (b*2^s)).length:Nat) 0:Nat)+(18446744073709551616-cy))%18446744073709551616:Nat)+(18446744073709551616-bo))%18446744073709551616:Nat)%4294967296:Nat),zu,rfl,hs.to _ _,hDl,hDw,hDg,hDu,hDe⟩,ka.to _ (by simp only[List.length_set];kernel_rfl)⟩
   have zM:=eq_of_beq zt;refine lB 199 zt (ak (ab hs [.m 200 17] ?_));have hE1:=hE;rw[show ((((((ua.getD (m-1+(lim (b*2^s)).length:Nat) 0:Nat)+(18446744073709551616-cy))%18446744073709551616:Nat)+(18446744073709551616-bo))%18446744073709551616:Nat))/9223372036854775808=1 by omega] at hE1
   have hgp:=Bw hn2 rfl hWv hWu hW4 hjn htop hR1 hGd hab4 hE1;refine lV 201 (mV (gq-1)) ?_ (hr:=rU (((gq:Int)-(1:Int))) kR (dN gq 1 oM oM));refine lL hs [.m 17 201] (lN (bI [(4,sZ),(5,sZ),(8,nV s),(9,qS A7 ((lim (b*2^s)).length) c8),(10,qS (sB zd) ((ua).length) rac),(11,nV ((lim (b*2^s)).length)),(12,mV ((lim (b*2^s)).getD (((lim (b*2^s)).length:Nat)-1:Nat) 0)),(13,mV ((lim (b*2^s)).getD (((lim (b*2^s)).length:Nat)-2:Nat) 0)),(14,qS (sB za) (((lim (a*2^s)).length+2)-(lim (b*2^s)).length:Nat) (((lim (a*2^s)).length+2)-(lim (b*2^s)).length:Nat)),(15,iV ((m:Int)-1)),(17,mV (gq-1)),(19,mV cy)] ?_));refine ab hs [.v 19 (uV 0)] (ah (ab hs [.v 24 (iV 0)] (a8 ?_)));replace hs:=hs.rown [⟨128,1,sB zd,rac,(ua.set (m-1+(lim (b*2^s)).length:Nat) ((((((ua.getD (m-1+(lim (b*2^s)).length:Nat) 0:Nat)+(18446744073709551616-cy))%18446744073709551616:Nat)+(18446744073709551616-bo))%18446744073709551616:Nat)%4294967296:Nat)).length,(ua.set (m-1+(lim (b*2^s)).length:Nat) ((((((ua.getD (m-1+(lim (b*2^s)).length:Nat) 0:Nat)+(18446744073709551616-cy))%18446744073709551616:Nat)+(18446744073709551616-bo))%18446744073709551616:Nat)%4294967296:Nat)).flatMap aW⟩] (by simp only[List.length_set]);refine bI _ (CG.loop (fun μ_ Γ w_=>∃ (i2:Nat) (rbA:Option Addr) (rbc:Nat) (ub:List Nat) (c2:Nat) (h_:Hp),μ_=(lim (b*2^s)).length-i2∧Γ=[(4,sZ),(5,sZ),(8,nV s),(9,qS A7 ((lim (b*2^s)).length) c8),(10,qS rbA ((ub).length) rbc),(11,nV ((lim (b*2^s)).length)),(12,mV ((lim (b*2^s)).getD (((lim (b*2^s)).length:Nat)-1:Nat) 0)),(13,mV ((lim (b*2^s)).getD (((lim (b*2^s)).length:Nat)-2:Nat) 0)),(14,qS (sB za) (((lim (a*2^s)).length+2)-(lim (b*2^s)).length:Nat) (((lim (a*2^s)).length+2)-(lim (b*2^s)).length:Nat)),(15,iV ((m:Int)-1)),(17,mV (gq-1)),(24,nV i2),(19,mV c2)]∧SS w h w_ h_ [⟨za,128,(ql).flatMap aW⟩] [⟨128,1,rbA,rbc,(ub).length,(ub).flatMap aW⟩] [S3 (sB ze) ([0,0]),fun h_=>Seg h_ ze 0 ([uW 0,uW 0]),S3 zk (lim (a*2^s)),fun h_=>Seg h_ zj 0 ([]),S3 A7 (lim (b*2^s)),S3 D (lim b),S3 A (lim a)]∧i2≤(lim (b*2^s)).length∧ub.length=((lim (a*2^s)).length+2)∧Ld ub∧c2≤1∧aj 4294967296 ub+4294967296^(m-1+i2)*c2=aj 4294967296 (ua.set (m-1+(lim (b*2^s)).length:Nat) ((((((ua.getD (m-1+(lim (b*2^s)).length:Nat) 0:Nat)+(18446744073709551616-cy))%18446744073709551616:Nat)+(18446744073709551616-bo))%18446744073709551616:Nat)%4294967296:Nat))+4294967296^(m-1)*aj 4294967296 ((lim (b*2^s)).take i2)∧Above ub u (m-1+(lim (b*2^s)).length+1)) _ ⟨0,sB zd,rac,ua.set (m-1+(lim (b*2^s)).length:Nat) ((((((ua.getD (m-1+(lim (b*2^s)).length:Nat) 0:Nat)+(18446744073709551616-cy))%18446744073709551616:Nat)+(18446744073709551616-bo))%18446744073709551616:Nat)%4294967296:Nat),0,zu,rfl,(by simp only[List.length_set]<;>rfl),hs.to _ _,Nat.zero_le _,hl4,hW4,oM,(by simp[aj]),hab4⟩ ?_);rintro _ _ _ ⟨i2,rbA,rbc,ub,c2,yb,hm103,rfl,hs,hi2,hub,hWb,hc2,inv3,hab2⟩;refine cQ (ab hs [.m 202 24,.m 203 11] ?_);cases zi:(decide ((i2:Int)<(((lim (b*2^s)).length:Nat):Int)))
   ·
    have zv:=oF zi;refine lB 204 zi (ag (CG.exit ?_))
    show CG _ _ _ _ _ _ _ _
    refine kQ ?_;have hubn:=hWb.get (m-1+(lim (b*2^s)).length);refine lL hs [.m 231 10,.m 232 15,.m 233 11] (bn 234 (((m:Int)-1)+((lim (b*2^s)).length:Nat)) (m-1+(lim (b*2^s)).length) ?_);refine lL hs [.m 235 10,.m 236 15,.m 237 11] (bn 238 (((m:Int)-1)+((lim (b*2^s)).length:Nat)) (m-1+(lim (b*2^s)).length) ?_);obtain ⟨zf,zw⟩:=hs.rowA 0 (A:=rbA) (c:=rbc) (m:=(ub).length) (ty:=128) (sz:=1) (cs:=(ub).flatMap aW) oM;subst zw;refine lX 239 (sB zf) ((ub).length) rbc 1 (m-1+(lim (b*2^s)).length:Nat) (m-1+(lim (b*2^s)).length:Nat) rfl (Fq (ty:=128) (sz:=1) (c:=rbc) (m:=(ub).length) (b:=zf) (cs:=(ub).flatMap aW) 240 0 (mW (ub.getD (m-1+(lim (b*2^s)).length:Nat) 0)) (aW (ub.getD (m-1+(lim (b*2^s)).length:Nat) 0)) hs (eW (f:=aW) (sz:=1) (fun _=>rfl) 0 ub (m-1+(lim (b*2^s)).length:Nat) oM) (lV 241 (mV (ub.getD (m-1+(lim (b*2^s)).length:Nat) 0)) ?_ (hr:=rU (((ub.getD (m-1+(lim (b*2^s)).length:Nat) 0:Nat):Int)) kR (aZ oM oM))));refine lL hs [.m 242 19] (lV 243 (mV ((ub.getD (m-1+(lim (b*2^s)).length:Nat) 0:Nat)+c2)) ?_ (hr:=rU ((((ub.getD (m-1+(lim (b*2^s)).length:Nat) 0:Nat):Int)+(c2:Int))) kR (de (ub.getD (m-1+(lim (b*2^s)).length:Nat) 0:Nat) c2 oM)));refine lV 244 (mW (((ub.getD (m-1+(lim (b*2^s)).length:Nat) 0:Nat)+c2:Nat)%4294967296)) ?_ (hr:=rT ((((ub.getD (m-1+(lim (b*2^s)).length:Nat) 0:Nat)+c2:Nat):Int)) kR (fu _));refine lX 245 (sB zf) ((ub).length) rbc 1 (m-1+(lim (b*2^s)).length:Nat) (m-1+(lim (b*2^s)).length:Nat) rfl (Cf (ty:=128) (c:=rbc) (b:=zf) 0 (m-1+(lim (b*2^s)).length:Nat) 0 ([mW (((ub.getD (m-1+(lim (b*2^s)).length:Nat) 0:Nat)+c2:Nat)%4294967296)]) ub aW 1 0 (((ub.getD (m-1+(lim (b*2^s)).length:Nat) 0:Nat)+c2:Nat)%4294967296:Nat) hs oM (fun _ hs=>?_));replace hs:=hs.to [⟨za,128,(ql).flatMap aW⟩] [⟨128,1,sB zf,rbc,(ub).length,(ub.set (m-1+(lim (b*2^s)).length:Nat) (((ub.getD (m-1+(lim (b*2^s)).length:Nat) 0:Nat)+c2:Nat)%4294967296:Nat)).flatMap aW⟩];refine lD ?_;rw[show i2=(lim (b*2^s)).length by omega] at inv3
    have hE3:=tQ (s:=(ub.getD (m-1+(lim (b*2^s)).length) 0+c2)%4294967296) (c':=(ub.getD (m-1+(lim (b*2^s)).length) 0+c2)/4294967296) oM inv3 (Nat.mod_add_div _ _);have hDw:Ld (ub.set (m-1+(lim (b*2^s)).length:Nat) (((ub.getD (m-1+(lim (b*2^s)).length:Nat) 0:Nat)+c2:Nat)%4294967296:Nat)):=hWb.set _ (Nat.mod_lt _ kD);obtain ⟨hDu,hDe,hDp⟩:=C5 hn2 rfl hWv hWu hW4 hDw hjn htop hR1 hGd hab4 (hab2.set oM oM) hE1 hE3;have hDg:gq-1<4294967296:=by omega
    have hDl:(ub.set (m-1+(lim (b*2^s)).length:Nat) (((ub.getD (m-1+(lim (b*2^s)).length:Nat) 0:Nat)+c2:Nat)%4294967296:Nat)).length=((lim (a*2^s)).length+2):=by rw[List.length_set];exact hub
    intro a_ ka;replace hs:=hs.rown [⟨128,1,sB zf,rbc,(ub.set (m-1+(lim (b*2^s)).length:Nat) (((ub.getD (m-1+(lim (b*2^s)).length:Nat) 0:Nat)+c2:Nat)%4294967296:Nat)).length,(ub.set (m-1+(lim (b*2^s)).length:Nat) (((ub.getD (m-1+(lim (b*2^s)).length:Nat) 0:Nat)+c2:Nat)%4294967296:Nat)).flatMap aW⟩] (by simp only[List.length_set]);exact ⟨_,⟨(gq-1),sB zf,rbc,ub.set (m-1+(lim (b*2^s)).length:Nat) (((ub.getD (m-1+(lim (b*2^s)).length:Nat) 0:Nat)+c2:Nat)%4294967296:Nat),yb,rfl,hs.to _ _,hDl,hDw,hDg,hDu,hDe⟩,ka.to _ (by simp only[List.length_set];kernel_rfl)⟩
   have zv:=oT zi;refine lB 204 zi (ak (cK (cQ (kZ (cQ (cR 15 [] mixed hs ar ?_))))));have hvi2:=hWv.get i2;have hubk:=hWb.get (m-1+i2);refine eV 0 207 (mV c2) (eV 1 208 (qS rbA ((ub).length) rbc) (eV 2 209 (iV ((m:Int)-1)) (eV 3 210 (nV i2) (iR 4 211 (((m:Int)-1)+(i2:Nat)) (m-1+i2) ?_))));obtain ⟨zg,zx⟩:=hs.rowA 0 (A:=rbA) (c:=rbc) (m:=(ub).length) (ty:=128) (sz:=1) (cs:=(ub).flatMap aW) oM;subst zx;refine eX 5 212 (sB zg) ((ub).length) rbc 1 (m-1+i2:Nat) (m-1+i2) rfl (Ci (ty:=128) (sz:=1) (c:=rbc) (m:=(ub).length) (b:=zg) (cs:=(ub).flatMap aW) 6 213 0 (mW (ub.getD (m-1+i2) 0)) (aW (ub.getD (m-1+i2) 0)) hs (eW (f:=aW) (sz:=1) (fun _=>rfl) 0 ub (m-1+i2) oM) (eV 7 214 (mV (ub.getD (m-1+i2) 0)) ?_ (hv:=fun _=>rU (((ub.getD (m-1+i2) 0:Nat):Int)) kR (aZ oM oM))));refine eV 8 215 (mV (c2+(ub.getD (m-1+i2) 0))) ?_ (hv:=fun _=>rU (((c2:Int)+((ub.getD (m-1+i2) 0:Nat):Int))) kR (de c2 (ub.getD (m-1+i2) 0) oM));refine eV 9 216 (qS A7 ((lim (b*2^s)).length) c8) (eV 10 217 (nV i2) (eX 11 218 A7 ((lim (b*2^s)).length) c8 1 (i2:Nat) i2 ((hs.f.q.1).ok oM) (eH 12 219 (mW ((lim (b*2^s)).getD i2 0)) hs ((hs.f.q.1).el i2 oM) (eV 13 220 (mV ((lim (b*2^s)).getD i2 0)) ?_ (hv:=fun _=>rU ((((lim (b*2^s)).getD i2 0:Nat):Int)) kR (aZ oM oM))))));refine eV 14 221 (mV ((c2+(ub.getD (m-1+i2) 0):Nat)+((lim (b*2^s)).getD i2 0:Nat))) ?_ (hv:=fun _=>rU ((((c2+(ub.getD (m-1+i2) 0):Nat):Int)+(((lim (b*2^s)).getD i2 0:Nat):Int))) kR (de (c2+(ub.getD (m-1+i2) 0):Nat) ((lim (b*2^s)).getD i2 0:Nat) oM));refine ce hs (fun _ yc hs=>tV 15 19 (mV ((c2+(ub.getD (m-1+i2) 0):Nat)+((lim (b*2^s)).getD i2 0:Nat))) (qI (lL hs [.m 222 10,.m 223 15,.m 224 24] (bn 225 (((m:Int)-1)+(i2:Nat)) (m-1+i2) ?_))));refine lL hs [.m 226 19] (lV 227 (mW (((c2+(ub.getD (m-1+i2) 0):Nat)+((lim (b*2^s)).getD i2 0:Nat):Nat)%4294967296)) ?_ (hr:=rT ((((c2+(ub.getD (m-1+i2) 0):Nat)+((lim (b*2^s)).getD i2 0:Nat):Nat):Int)) kR (fu _)));refine lX 228 (sB zg) ((ub).length) rbc 1 (m-1+i2:Nat) (m-1+i2) rfl (Cf (ty:=128) (c:=rbc) (b:=zg) 0 (m-1+i2) 0 ([mW (((c2+(ub.getD (m-1+i2) 0):Nat)+((lim (b*2^s)).getD i2 0:Nat):Nat)%4294967296)]) ub aW 1 0 (((c2+(ub.getD (m-1+i2) 0):Nat)+((lim (b*2^s)).getD i2 0:Nat):Nat)%4294967296:Nat) hs oM (fun _ hs=>?_));replace hs:=hs.to [⟨za,128,(ql).flatMap aW⟩] [⟨128,1,sB zg,rbc,(ub).length,(ub.set (m-1+i2) (((c2+(ub.getD (m-1+i2) 0):Nat)+((lim (b*2^s)).getD i2 0:Nat):Nat)%4294967296:Nat)).flatMap aW⟩];refine lN (kQ (lL hs [.m 229 19] (lV 230 (mV (((c2+(ub.getD (m-1+i2) 0):Nat)+((lim (b*2^s)).getD i2 0:Nat):Nat)/4294967296)) ?_ (hr:=aI (n:=Int.fdiv (((c2+(ub.getD (m-1+i2) 0):Nat)+((lim (b*2^s)).getD i2 0:Nat):Nat):Int) 4294967296) kR (dm _ 4294967296)))));refine lL hs [.m 19 230] (lN (kQ (lL hs [.m 205 24] (bn 206 ((i2:Nat)+1) (i2+1) ?_))));refine lL hs [.m 24 206] (lD ?_);intro a_ ka;replace hs:=hs.rown [⟨128,1,sB zg,rbc,(ub.set (m-1+i2) (((c2+(ub.getD (m-1+i2) 0):Nat)+((lim (b*2^s)).getD i2 0:Nat):Nat)%4294967296:Nat)).length,(ub.set (m-1+i2) (((c2+(ub.getD (m-1+i2) 0):Nat)+((lim (b*2^s)).getD i2 0:Nat):Nat)%4294967296:Nat)).flatMap aW⟩] (by simp only[List.length_set]);refine ⟨_,_,?_,⟨i2+1,sB zg,rbc,ub.set (m-1+i2) (((c2+(ub.getD (m-1+i2) 0):Nat)+((lim (b*2^s)).getD i2 0:Nat):Nat)%4294967296:Nat),(((c2+(ub.getD (m-1+i2) 0):Nat)+((lim (b*2^s)).getD i2 0:Nat):Nat)/4294967296:Nat),yc,rfl,rfl,hs.to _ _,oM,(by rw[List.length_set];exact hub),(hWb.set _ (Nat.mod_lt _ kD)),oM,(pO oM inv3 (Nat.mod_add_div _ _ |>.trans oM)),(hab2.set oM oM)⟩,ka.to _ (by simp only[List.length_set];kernel_rfl)⟩
   omega
  rintro _ _ ⟨gz,rzA,rzc,uz,yd,rfl,hs,hDl,hDw,hDg,hDu,hDe⟩;refine kQ (lL hs [.m 246 14,.m 247 15,.m 248 17] (lV 249 (mW gz) ?_ (hr:=rT ((gz:Int)) kR (lj oM oM))));refine lX 250 (sB za) (((lim (a*2^s)).length+2)-(lim (b*2^s)).length:Nat) (((lim (a*2^s)).length+2)-(lim (b*2^s)).length:Nat) 1 ((m:Int)-1) (m-1) rfl (lW 0 ql aW 1 (m-1) gz hs oM (fun _ hs=>?_));have zN:((ql).set (m-1) gz).length=(((lim (a*2^s)).length+2)-(lim (b*2^s)).length:Nat):=by rw[List.length_set];exact hql
  replace hs:=hs.to [⟨za,128,((ql).set (m-1) gz).flatMap aW⟩] [⟨128,1,rzA,rzc,(uz).length,(uz).flatMap aW⟩];refine lN (kQ (lL hs [.m 87 15] (lV 88 (iV (((m-1:Nat):Int)-1)) ?_ (hr:=rS ((((m:Int)-1)-1)) kR ((fr oM oM).trans oM)))));refine lL hs [.m 15 88] (lD ?_);intro a_ ka;refine ⟨_,_,?_,⟨m-1,rzA,rzc,uz,(ql).set (m-1) gz,yd,rfl,rfl,hs.to _ _,oM,hDl,hDw,zN,(hWq.set _ hDg),hDu,(B6 oM (hq0 _ oM) inv hDe),(fun k hk=>by rw[bp oM,if_neg oM];exact hq0 k oM)⟩,ka.to _ kR⟩
  omega
 have zK:=oT zs;refine lB 144 zs (ak (cK (cQ (kZ (av ?_)))));have hgv:=sF hgl hvi;refine lL hs [.m 147 19,.m 148 17,.m 149 9,.m 150 21] (lX 151 A7 ((lim (b*2^s)).length) c8 1 (i:Nat) i ((hs.f.q.1).ok oM) ?_);refine lH 152 (mW ((lim (b*2^s)).getD i 0)) hs ((hs.f.q.1).el i oM) (lV 153 (mV ((lim (b*2^s)).getD i 0)) ?_ (hr:=rU ((((lim (b*2^s)).getD i 0:Nat):Int)) kR (aZ oM oM)));refine lV 154 (mV (gq*((lim (b*2^s)).getD i 0:Nat))) ?_ (hr:=rU (((gq:Int)*(((lim (b*2^s)).getD i 0:Nat):Int))) kR (fl gq ((lim (b*2^s)).getD i 0:Nat) oM));refine lV 155 (mV (cy+(gq*((lim (b*2^s)).getD i 0:Nat):Nat))) ?_ (hr:=rU (((cy:Int)+((gq*((lim (b*2^s)).getD i 0:Nat):Nat):Int))) kR (de cy (gq*((lim (b*2^s)).getD i 0:Nat):Nat) oM));refine lL hs [.m 19 155] (aG (lL hs [.m 156 10,.m 157 15,.m 158 21] (bn 159 (((m:Int)-1)+(i:Nat)) (m-1+i) ?_)));obtain ⟨zc,zA⟩:=hs.rowA 0 (A:=raA) (c:=rac) (m:=(ua).length) (ty:=128) (sz:=1) (cs:=(ua).flatMap aW) oM;subst zA;refine lX 160 (sB zc) ((ua).length) rac 1 (m-1+i:Nat) (m-1+i) rfl (Fq (ty:=128) (sz:=1) (c:=rac) (m:=(ua).length) (b:=zc) (cs:=(ua).flatMap aW) 161 0 (mW (ua.getD (m-1+i) 0)) (aW (ua.getD (m-1+i) 0)) hs (eW (f:=aW) (sz:=1) (fun _=>rfl) 0 ua (m-1+i) oM) (lV 162 (mV (ua.getD (m-1+i) 0)) ?_ (hr:=rU (((ua.getD (m-1+i) 0:Nat):Int)) kR (aZ oM oM))));refine lL hs [.m 163 19] (lV 164 (mV ((cy+(gq*((lim (b*2^s)).getD i 0:Nat):Nat):Nat)%4294967296)) ?_ (hr:=n9 (t:=39) (u:=39) (x:=.tmp 163) (y:=.const (uV 4294967295)) (a:=(cy+(gq*((lim (b*2^s)).getD i 0:Nat):Nat):Nat)) (m:=4294967295) 32 kR kR kR oM kD _));refine lV 165 (mV (((ua.getD (m-1+i) 0)+(18446744073709551616-((cy+(gq*((lim (b*2^s)).getD i 0:Nat):Nat):Nat)%4294967296:Nat)))%18446744073709551616)) ?_ (hr:=rU ((((ua.getD (m-1+i) 0:Nat):Int)-(((cy+(gq*((lim (b*2^s)).getD i 0:Nat):Nat):Nat)%4294967296:Nat):Int))) kR (jc (ua.getD (m-1+i) 0) ((cy+(gq*((lim (b*2^s)).getD i 0:Nat):Nat):Nat)%4294967296:Nat) oM));refine lL hs [.m 166 20] (lV 167 (mV (((((ua.getD (m-1+i) 0)+(18446744073709551616-((cy+(gq*((lim (b*2^s)).getD i 0:Nat):Nat):Nat)%4294967296:Nat)))%18446744073709551616:Nat)+(18446744073709551616-bo))%18446744073709551616)) ?_ (hr:=rU ((((((ua.getD (m-1+i) 0)+(18446744073709551616-((cy+(gq*((lim (b*2^s)).getD i 0:Nat):Nat):Nat)%4294967296:Nat)))%18446744073709551616:Nat):Int)-(bo:Int))) kR (jc (((ua.getD (m-1+i) 0)+(18446744073709551616-((cy+(gq*((lim (b*2^s)).getD i 0:Nat):Nat):Nat)%4294967296:Nat)))%18446744073709551616:Nat) bo oM)));refine lL hs [.m 22 167] (aG ?_);obtain ⟨hS1,hS2⟩:=uH (t:=(((((ua.getD (m-1+i) 0)+(18446744073709551616-((cy+(gq*((lim (b*2^s)).getD i 0:Nat):Nat):Nat)%4294967296:Nat)))%18446744073709551616:Nat)+(18446744073709551616-bo))%18446744073709551616:Nat)) (hWa.get (m-1+i)) (Nat.mod_lt ((cy+(gq*((lim (b*2^s)).getD i 0:Nat):Nat):Nat)) (show 0<4294967296 by decide)) hbo rfl;refine lL hs [.m 168 10,.m 169 15,.m 170 21] (bn 171 (((m:Int)-1)+(i:Nat)) (m-1+i) ?_);refine lL hs [.m 172 22] (lV 173 (mW ((((((ua.getD (m-1+i) 0)+(18446744073709551616-((cy+(gq*((lim (b*2^s)).getD i 0:Nat):Nat):Nat)%4294967296:Nat)))%18446744073709551616:Nat)+(18446744073709551616-bo))%18446744073709551616:Nat)%4294967296)) ?_ (hr:=rT (((((((ua.getD (m-1+i) 0)+(18446744073709551616-((cy+(gq*((lim (b*2^s)).getD i 0:Nat):Nat):Nat)%4294967296:Nat)))%18446744073709551616:Nat)+(18446744073709551616-bo))%18446744073709551616:Nat):Int)) kR (fu _)));refine lX 174 (sB zc) ((ua).length) rac 1 (m-1+i:Nat) (m-1+i) rfl (Cf (ty:=128) (c:=rac) (b:=zc) 0 (m-1+i) 0 ([mW ((((((ua.getD (m-1+i) 0)+(18446744073709551616-((cy+(gq*((lim (b*2^s)).getD i 0:Nat):Nat):Nat)%4294967296:Nat)))%18446744073709551616:Nat)+(18446744073709551616-bo))%18446744073709551616:Nat)%4294967296)]) ua aW 1 0 ((((((ua.getD (m-1+i) 0)+(18446744073709551616-((cy+(gq*((lim (b*2^s)).getD i 0:Nat):Nat):Nat)%4294967296:Nat)))%18446744073709551616:Nat)+(18446744073709551616-bo))%18446744073709551616:Nat)%4294967296:Nat) hs oM (fun _ hs=>?_));replace hs:=hs.to [⟨za,128,(ql).flatMap aW⟩] [⟨128,1,sB zc,rac,(ua).length,(ua.set (m-1+i) ((((((ua.getD (m-1+i) 0)+(18446744073709551616-((cy+(gq*((lim (b*2^s)).getD i 0:Nat):Nat):Nat)%4294967296:Nat)))%18446744073709551616:Nat)+(18446744073709551616-bo))%18446744073709551616:Nat)%4294967296:Nat)).flatMap aW⟩];refine lN (bI [(4,sZ),(5,sZ),(8,nV s),(9,qS A7 ((lim (b*2^s)).length) c8),(10,qS (sB zc) ((ua).length) rac),(11,nV ((lim (b*2^s)).length)),(12,mV ((lim (b*2^s)).getD (((lim (b*2^s)).length:Nat)-1:Nat) 0)),(13,mV ((lim (b*2^s)).getD (((lim (b*2^s)).length:Nat)-2:Nat) 0)),(14,qS (sB za) (((lim (a*2^s)).length+2)-(lim (b*2^s)).length:Nat) (((lim (a*2^s)).length+2)-(lim (b*2^s)).length:Nat)),(15,iV ((m:Int)-1)),(17,mV gq),(21,nV i),(19,mV (cy+(gq*((lim (b*2^s)).getD i 0:Nat):Nat))),(20,mV bo),(22,mV (((((ua.getD (m-1+i) 0)+(18446744073709551616-((cy+(gq*((lim (b*2^s)).getD i 0:Nat):Nat):Nat)%4294967296:Nat)))%18446744073709551616:Nat)+(18446744073709551616-bo))%18446744073709551616))] ?_);refine ab hs [.m 175 22] (lV 176 (mV ((((((ua.getD (m-1+i) 0)+(18446744073709551616-((cy+(gq*((lim (b*2^s)).getD i 0:Nat):Nat):Nat)%4294967296:Nat)))%18446744073709551616:Nat)+(18446744073709551616-bo))%18446744073709551616:Nat)/9223372036854775808)) ?_ (hr:=aI (n:=Int.fdiv ((((((ua.getD (m-1+i) 0)+(18446744073709551616-((cy+(gq*((lim (b*2^s)).getD i 0:Nat):Nat):Nat)%4294967296:Nat)))%18446744073709551616:Nat)+(18446744073709551616-bo))%18446744073709551616:Nat):Int) 9223372036854775808) kR (dm _ 9223372036854775808)));refine lL hs [.m 20 176] (lN (kQ (lL hs [.m 177 19] (lV 178 (mV ((cy+(gq*((lim (b*2^s)).getD i 0:Nat):Nat):Nat)/4294967296)) ?_ (hr:=aI (n:=Int.fdiv ((cy+(gq*((lim (b*2^s)).getD i 0:Nat):Nat):Nat):Int) 4294967296) kR (dm _ 4294967296))))));refine lL hs [.m 19 178] (lN (kQ (lL hs [.m 145 21] (bn 146 ((i:Nat)+1) (i+1) ?_))));refine lL hs [.m 21 146] (lD ?_);intro a_ ka;replace hs:=hs.rown [⟨128,1,sB zc,rac,(ua.set (m-1+i) ((((((ua.getD (m-1+i) 0)+(18446744073709551616-((cy+(gq*((lim (b*2^s)).getD i 0:Nat):Nat):Nat)%4294967296:Nat)))%18446744073709551616:Nat)+(18446744073709551616-bo))%18446744073709551616:Nat)%4294967296:Nat)).length,(ua.set (m-1+i) ((((((ua.getD (m-1+i) 0)+(18446744073709551616-((cy+(gq*((lim (b*2^s)).getD i 0:Nat):Nat):Nat)%4294967296:Nat)))%18446744073709551616:Nat)+(18446744073709551616-bo))%18446744073709551616:Nat)%4294967296:Nat)).flatMap aW⟩] (by simp only[List.length_set]);refine ⟨_,_,?_,⟨i+1,sB zc,rac,ua.set (m-1+i) ((((((ua.getD (m-1+i) 0)+(18446744073709551616-((cy+(gq*((lim (b*2^s)).getD i 0:Nat):Nat):Nat)%4294967296:Nat)))%18446744073709551616:Nat)+(18446744073709551616-bo))%18446744073709551616:Nat)%4294967296:Nat),((cy+(gq*((lim (b*2^s)).getD i 0:Nat):Nat):Nat)/4294967296:Nat),((((((ua.getD (m-1+i) 0)+(18446744073709551616-((cy+(gq*((lim (b*2^s)).getD i 0:Nat):Nat):Nat)%4294967296:Nat)))%18446744073709551616:Nat)+(18446744073709551616-bo))%18446744073709551616:Nat)/9223372036854775808:Nat),zu,rfl,rfl,hs.to _ _,oM,(by rw[List.length_set];exact hua),(hWa.set _ (Nat.mod_lt _ kD)),oM,hS2,(oz (t:=((cy+(gq*((lim (b*2^s)).getD i 0:Nat):Nat):Nat))%4294967296) oM inv1 (Nat.mod_add_div _ _ |>.trans oM) oM),(hab1.set oM oM)⟩,ka.to _ (by simp only[List.length_set];kernel_rfl)⟩
 omega
theorem l6 (a:Nat)(A:Option Addr)(c:Nat)(hc:(lim a).length≤c)(b:Nat)(D:Option Addr)(d:Nat)(hd:(lim b).length≤d)(hLa:(lim a).length≤3000000000)(hLb:(lim b).length≤3000000000)(hb:0<b)(w:World)(h:Hp)(g:G w h)(hA:S3 A (lim a) h)(hD:S3 D (lim b) h):CR 158 #[.slice A (lim a).length c,.slice D (lim b).length d] w h (fun v h1=>∃ v1 v2,v=.tuple #[v1,v2]∧RN h1 v1 (a/b)∧RN h1 v2 (a%b)):=by
 have hp:=bG.2 hb
 rcases Nat.lt_or_ge a b with h1|h1
 ·exact kL a A c hc b D d hd hLa hLb h1 w h g hA hD
 ·rcases Nat.lt_or_ge (lim b).length 2 with h2|h2
  ·exact kh a A c hc b D d hd hLa hLb h1 oM w h g hA hD
  ·exact mF a A c hc b D d hd hLa hLb h1 h2 _ rfl w h g hA hD
theorem gG (x y:Nat):Nat.gcd y (x%y)=Nat.gcd x y:=by rw[Nat.gcd_comm y,←Nat.gcd_rec,Nat.gcd_comm]
theorem wj (a:Nat)(A:Option Addr)(c:Nat)(hc:(lim a).length≤c)(b:Nat)(D:Option Addr)(d:Nat)(hd:(lim b).length≤d)(hLa:(lim a).length≤3000000000)(hLb:(lim b).length≤3000000000)(w:World)(h:Hp)(g:G w h)(hA:S3 A (lim a) h)(hD:S3 D (lim b) h):CR 157 #[.slice A ((lim a).length) c,.slice D ((lim b).length) d] w h (fun v h1=>RN h1 v (Nat.gcd a b)):=by
 have hs:=(((sS g).aS hA).aS hD);refine go Tryz.func157 [(0,qS A ((lim a).length) c),(1,qS D ((lim b).length) d)] rfl (ab hs [.v 4 (sZ)] (ah (kZ ?_)));replace hs:=hs.aS hs.f.1;replace hs:=hs.aS hs.f.r.1;refine bI _ (CG.loop (fun μ_ Γ w_=>∃ (x:Nat) (A1:Option Addr) (c1:Nat) (y:Nat) (A2:Option Addr) (c2:Nat) (h_:Hp),μ_=y∧Γ=[(4,sZ),(0,qS A1 ((lim x).length) c1),(1,qS A2 ((lim y).length) c2)]∧SS w h w_ h_ [] [] [S3 A1 (lim x),S3 A2 (lim y),S3 D (lim b),S3 A (lim a)]∧(lim x).length≤c1∧(lim y).length≤c2∧(lim x).length≤3000000000∧(lim y).length≤3000000000∧Nat.gcd x y=Nat.gcd a b) _ ⟨a,A,c,b,D,d,h,rfl,rfl,hs.to _ _,hc,hd,hLa,hLb,rfl⟩ ?_);rintro _ _ w1 ⟨x,A1,c1,y,A2,c2,h2,hm3,rfl,hs,hc1,hc2,hl1,hl2,hG⟩;refine cQ (ab hs [.m 7 1,.v 8 (nV ((lim y).length))] ?_);cases hb4:(decide ((0:Int)<(((lim y).length:Nat):Int)))
 ·
  have phb4:=oF hb4;refine lB 9 hb4 (ag (CG.exit ?_))
  show CG _ _ _ _ _ _ _ _
  refine ab hs [.m 18 0,.m 4 18] (lN (kX ?_));have hy0:y=0:=Nat.eq_zero_of_not_pos (fun h_=>by have:=bG.2 h_;omega);exact hs.ret [] (qS A1 ((lim x).length) c1) (by rw[←hG,hy0,Nat.gcd_zero_right];exact ⟨A1,c1,rfl,hc1,hs.f.1⟩)
 have phb4:=oT hb4;refine lB 9 hb4 (ak (cK (kZ (ab hs [.m 11 0,.m 12 1] (lC 13 hs (l6 x A1 c1 hc1 y A2 c2 hc2 oM oM (bG.1 oM) _ _ hs.g hs.f.1 hs.f.2.1) ?_)))));rintro _ w5 h6 hs ⟨_,_,rfl,⟨Aq,cq,rfl,hcq,hq⟩,⟨Ar,cr,rfl,hcr,hr⟩⟩;replace hs:=hs.aS hr;have hmd:=Nat.mod_lt x (bG.1 (show 0<(lim y).length by omega));have hml:=cG (show x%y≤y by omega);refine lL hs [.m 10 13,.v 14 (qS Aq (lim (x/y)).length cq),.v 15 (qS Ar ((lim (x%y)).length) cr),.m 5 14,.m 6 15] (aG (lL hs [.m 16 1,.m 0 16] (lN (kQ (lL hs [.m 17 6,.m 1 17] (lD ?_))))));intro a_ ka;replace hs:=((hs.tl.tl.tl.aS hs.f.1).aS hs.f.r.1);refine ⟨_,_,?_,⟨y,A2,c2,x%y,Ar,cr,h6,rfl,rfl,hs.to _ _,hc2,hcr,hl2,oM,(by rw[gG];exact hG)⟩,ka.to _ kR⟩
 omega
def am (x:Nat):List Value:=[.int .u64 (x:Nat)]
theorem uJ {l:List Nat}{m:Nat}(h:0<m)(h0:l.getD (m-1) 0=0):tl l m=tl l (m-1):=by
 obtain ⟨k,rfl⟩:∃ k,m=k+1:=⟨m-1,by omega⟩;rw[jr,if_pos (by simpa using h0)];rfl
theorem mU (s:ByteArray)(hs8:8≤s.size)(w:World)(h:Hp)(g:G w h):CV 122 #[.string s] w h (mV (wv s)):=by
 have hs:=sS g;have b0:=bZ s 0;have b1:=bZ s 1;have b2:=bZ s 2;have b3:=bZ s 3;have b4:=bZ s 4;have b5:=bZ s 5;have b6:=bZ s 6;have b7:=bZ s 7;refine go Tryz.func122 [(0,.string s)] rfl (ab hs [.v 2 (uV 0)] (ah (cR 38 [] mixed hs ar ?_)));refine eV 0 3 (.string s) (eV 1 4 (.int .u8 (aE s 0:Nat)) ?_ (hv:=fun _=>ca (tx:=9) (x:=.tmp 3) (i:=.const (iV 0)) (k:=.i64) (s:=s) (n:=0) (j:=(0:Int)) kR kR kR kR oM oM _));refine eV 2 5 (mV (aE s 0)) ?_ (hv:=fun _=>rU (((aE s 0:Nat):Int)) kR (aZ oM oM));refine eV 3 6 (.string s) (eV 4 7 (.int .u8 (aE s 1:Nat)) ?_ (hv:=fun _=>ca (tx:=9) (x:=.tmp 6) (i:=.const (iV 1)) (k:=.i64) (s:=s) (n:=1) (j:=(1:Int)) kR kR kR kR oM oM _));refine eV 5 8 (mV (aE s 1)) ?_ (hv:=fun _=>rU (((aE s 1:Nat):Int)) kR (aZ oM oM));refine eV 6 9 (mV ((aE s 1)*256)) ?_ (hv:=fun _=>rU ((((aE s 1:Nat):Int)*256)) kR ((aZ oM oM).trans oM));refine eV 7 10 (mV (aE s 0+aE s 1*256)) ?_ (hv:=fun _=>aI (fR (t:=39) (u:=39) (x:=.tmp 5) (y:=.tmp 9) (a:=(aE s 0)) (b:=((aE s 1)*256)) kR kR kR oM oM _) (by rw[fv 8 oM];first|done|omega));refine eV 8 11 (.string s) (eV 9 12 (.int .u8 (aE s 2:Nat)) ?_ (hv:=fun _=>ca (tx:=9) (x:=.tmp 11) (i:=.const (iV 2)) (k:=.i64) (s:=s) (n:=2) (j:=(2:Int)) kR kR kR kR oM oM _));refine eV 10 13 (mV (aE s 2)) ?_ (hv:=fun _=>rU (((aE s 2:Nat):Int)) kR (aZ oM oM));refine eV 11 14 (mV ((aE s 2)*65536)) ?_ (hv:=fun _=>rU ((((aE s 2:Nat):Int)*65536)) kR ((aZ oM oM).trans oM));refine eV 12 15 (mV (aE s 0+aE s 1*256+aE s 2*65536)) ?_ (hv:=fun _=>aI (fR (t:=39) (u:=39) (x:=.tmp 10) (y:=.tmp 14) (a:=(aE s 0+aE s 1*256)) (b:=((aE s 2)*65536)) kR kR kR oM oM _) (by rw[fv 16 oM];first|done|omega));refine eV 13 16 (.string s) (eV 14 17 (.int .u8 (aE s 3:Nat)) ?_ (hv:=fun _=>ca (tx:=9) (x:=.tmp 16) (i:=.const (iV 3)) (k:=.i64) (s:=s) (n:=3) (j:=(3:Int)) kR kR kR kR oM oM _));refine eV 15 18 (mV (aE s 3)) ?_ (hv:=fun _=>rU (((aE s 3:Nat):Int)) kR (aZ oM oM));refine eV 16 19 (mV ((aE s 3)*16777216)) ?_ (hv:=fun _=>rU ((((aE s 3:Nat):Int)*16777216)) kR ((aZ oM oM).trans oM));refine eV 17 20 (mV (aE s 0+aE s 1*256+aE s 2*65536+aE s 3*16777216)) ?_ (hv:=fun _=>aI (fR (t:=39) (u:=39) (x:=.tmp 15) (y:=.tmp 19) (a:=(aE s 0+aE s 1*256+aE s 2*65536)) (b:=((aE s 3)*16777216)) kR kR kR oM oM _) (by rw[fv 24 oM];first|done|omega));refine eV 18 21 (.string s) (eV 19 22 (.int .u8 (aE s 4:Nat)) ?_ (hv:=fun _=>ca (tx:=9) (x:=.tmp 21) (i:=.const (iV 4)) (k:=.i64) (s:=s) (n:=4) (j:=(4:Int)) kR kR kR kR oM oM _));refine eV 20 23 (mV (aE s 4)) ?_ (hv:=fun _=>rU (((aE s 4:Nat):Int)) kR (aZ oM oM));refine eV 21 24 (mV ((aE s 4)*4294967296)) ?_ (hv:=fun _=>rU ((((aE s 4:Nat):Int)*4294967296)) kR ((aZ oM oM).trans oM));refine eV 22 25 (mV (aE s 0+aE s 1*256+aE s 2*65536+aE s 3*16777216+aE s 4*4294967296)) ?_ (hv:=fun _=>aI (fR (t:=39) (u:=39) (x:=.tmp 20) (y:=.tmp 24) (a:=(aE s 0+aE s 1*256+aE s 2*65536+aE s 3*16777216)) (b:=((aE s 4)*4294967296)) kR kR kR oM oM _) (by rw[fv 32 oM];first|done|omega));refine eV 23 26 (.string s) (eV 24 27 (.int .u8 (aE s 5:Nat)) ?_ (hv:=fun _=>ca (tx:=9) (x:=.tmp 26) (i:=.const (iV 5)) (k:=.i64) (s:=s) (n:=5) (j:=(5:Int)) kR kR kR kR oM oM _));refine eV 25 28 (mV (aE s 5)) ?_ (hv:=fun _=>rU (((aE s 5:Nat):Int)) kR (aZ oM oM));refine eV 26 29 (mV ((aE s 5)*1099511627776)) ?_ (hv:=fun _=>rU ((((aE s 5:Nat):Int)*1099511627776)) kR ((aZ oM oM).trans oM));refine eV 27 30 (mV (aE s 0+aE s 1*256+aE s 2*65536+aE s 3*16777216+aE s 4*4294967296+aE s 5*1099511627776)) ?_ (hv:=fun _=>aI (fR (t:=39) (u:=39) (x:=.tmp 25) (y:=.tmp 29) (a:=(aE s 0+aE s 1*256+aE s 2*65536+aE s 3*16777216+aE s 4*4294967296)) (b:=((aE s 5)*1099511627776)) kR kR kR oM oM _) (by rw[fv 40 oM];first|done|omega));refine eV 28 31 (.string s) (eV 29 32 (.int .u8 (aE s 6:Nat)) ?_ (hv:=fun _=>ca (tx:=9) (x:=.tmp 31) (i:=.const (iV 6)) (k:=.i64) (s:=s) (n:=6) (j:=(6:Int)) kR kR kR kR oM oM _));refine eV 30 33 (mV (aE s 6)) ?_ (hv:=fun _=>rU (((aE s 6:Nat):Int)) kR (aZ oM oM));refine eV 31 34 (mV ((aE s 6)*281474976710656)) ?_ (hv:=fun _=>rU ((((aE s 6:Nat):Int)*281474976710656)) kR ((aZ oM oM).trans oM));refine eV 32 35 (mV (aE s 0+aE s 1*256+aE s 2*65536+aE s 3*16777216+aE s 4*4294967296+aE s 5*1099511627776+aE s 6*281474976710656)) ?_ (hv:=fun _=>aI (fR (t:=39) (u:=39) (x:=.tmp 30) (y:=.tmp 34) (a:=(aE s 0+aE s 1*256+aE s 2*65536+aE s 3*16777216+aE s 4*4294967296+aE s 5*1099511627776)) (b:=((aE s 6)*281474976710656)) kR kR kR oM oM _) (by rw[fv 48 oM];first|done|omega));refine eV 33 36 (.string s) (eV 34 37 (.int .u8 (aE s 7:Nat)) ?_ (hv:=fun _=>ca (tx:=9) (x:=.tmp 36) (i:=.const (iV 7)) (k:=.i64) (s:=s) (n:=7) (j:=(7:Int)) kR kR kR kR oM oM _));refine eV 35 38 (mV (aE s 7)) ?_ (hv:=fun _=>rU (((aE s 7:Nat):Int)) kR (aZ oM oM));refine eV 36 39 (mV ((aE s 7)*72057594037927936)) ?_ (hv:=fun _=>rU ((((aE s 7:Nat):Int)*72057594037927936)) kR ((aZ oM oM).trans oM));refine eV 37 40 (mV (aE s 0+aE s 1*256+aE s 2*65536+aE s 3*16777216+aE s 4*4294967296+aE s 5*1099511627776+aE s 6*281474976710656+aE s 7*72057594037927936)) ?_ (hv:=fun _=>aI (fR (t:=39) (u:=39) (x:=.tmp 35) (y:=.tmp 39) (a:=(aE s 0+aE s 1*256+aE s 2*65536+aE s 3*16777216+aE s 4*4294967296+aE s 5*1099511627776+aE s 6*281474976710656)) (b:=((aE s 7)*72057594037927936)) kR kR kR oM oM _) (by rw[fv 56 oM];first|done|omega));exact ce hs (fun w1 h2 hs=>tV 38 2 (mV (aE s 0+aE s 1*256+aE s 2*65536+aE s 3*16777216+aE s 4*4294967296+aE s 5*1099511627776+aE s 6*281474976710656+aE s 7*72057594037927936)) (tN (kX (hs.ret [] (mV (aE s 0+aE s 1*256+aE s 2*65536+aE s 3*16777216+aE s 4*4294967296+aE s 5*1099511627776+aE s 6*281474976710656+aE s 7*72057594037927936)) rfl))))
end Go.Proofs.YtinhhhfjchckcaaGreatDoor
