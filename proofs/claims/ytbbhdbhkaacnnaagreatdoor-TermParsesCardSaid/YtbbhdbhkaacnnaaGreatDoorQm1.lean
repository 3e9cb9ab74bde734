/- Laws of this claim, part 2. -/
import Derived.Test.YtbbhdbhkaacnnaaGreatDoorQm0
set_option maxRecDepth 100000
set_option maxHeartbeats 4000000
namespace Go.Proofs.YtbbhdbhkaacnnaaGreatDoor
open _root_.Array renaming getElem?_append_left -> et, getElem?_append_right -> ey, getElem?_eq_none -> ea, getElem?_replicate -> wl, getElem?_setIfInBounds_ne -> g6, getElem?_setIfInBounds_self_of_lt -> yy, replicate -> pa
open Bool renaming and_eq_true -> hN, true_and -> JE
open Int renaming fdiv -> JD, toNat_natCast -> vb
open List renaming all_eq_true -> i3, drop_eq_getElem_cons -> Je, drop_eq_nil_of_le -> Jy, eq_nil_of_length_eq_zero -> ta, flatMap_cons -> sr, getD_cons_succ -> s3, getD_eq_getElem?_getD -> B1, getElem?_append_left -> rc, getElem?_append_right -> rk, getElem?_drop -> ri, getElem?_eq_none -> pk, getElem?_eq_some_iff -> Jw, getElem?_map -> Ja, getElem?_range -> Jb, getElem?_take_of_lt -> rh, getElem_mem -> e5, getElem_set_ne -> y6, getElem_set_self -> y7, length -> JA, length_append -> s6, length_drop -> I9, length_set -> Jr, length_take -> Ab, map_cons -> yh, map_nil -> JC, map_toArray -> JB, mem_flatMap -> Jx, mem_iff_getElem -> p2, mem_map -> ga, mem_of_mem_eraseIdx -> y3, mem_range -> l4, pairwise_iff_getElem -> y5, replicate -> um, set_cons_zero -> Jz, take_length -> s1, take_of_length_le -> I5
open Nat renaming add_assoc -> sc, add_mul -> I4, add_mul_div_left -> I3, add_mul_mod_self_left -> Ju, add_sub_cancel -> Jj, add_zero -> sw, div_add_mod -> I7, div_div_eq_div_mul -> H1, div_eq_of_lt -> zY, div_eq_of_lt_le -> Jk, div_lt_iff_lt_mul -> Ji, div_mul_le_self -> Jg, eq_zero_or_pos -> yz, gcd -> JI, gcd_comm -> JJ, le_refl -> eb, le_trans -> ed, lt_div_mul_add -> Jh, lt_of_le_of_lt -> zz, lt_of_lt_of_le -> ep, lt_of_mul_lt_mul_left -> Jv, lt_or_ge -> co, min_eq_left -> Am, mod_add_div -> Jq, mod_eq_of_lt -> u9, mod_lt -> va, mul_add -> z7, mul_add_div -> Jt, mul_assoc -> z8, mul_comm -> z2, mul_div_mul_right -> Jn, mul_le_mul -> Jo, mul_le_mul_left -> A8, mul_le_mul_right -> ua, mul_lt_mul_of_pos_left -> I0, mul_lt_mul_of_pos_right -> Jm, mul_mod_mul_right -> Jp, mul_pos -> Jl, mul_succ -> Jd, mul_zero -> Ao, one_mul -> I6, pos_of_ne_zero -> Jf, pow_add -> A7, pow_le_pow_right -> A4, pow_mul -> Bs, pow_pos -> F2, pow_succ -> z1, pow_zero -> JG, succ_pos -> JH, two_pow_add_eq_or_of_lt -> Jc, two_pow_pos -> A0, zero_add -> tv, zero_le -> JF, zero_mod -> Js, zero_mul -> s9
open Option renaming map_some -> pv
open Go.RowKit
def b8 (x:Nat):List UInt8:=(List.range 8).map (fun k=>UInt8.ofNat (x/256^k))
theorem jJ (x:Nat):(b8 x).length=8:=rfl
theorem ET (m:Nat):b8 (m%18446744073709551616)=b8 m:=by
 unfold b8
 apply List.map_congr_left
 intro k b;have a:k<8:=l4.1 b
 apply UInt8.toNat_inj.1
 show (m%18446744073709551616/256^k)%256=(m/256^k)%256
 have:k=0\/k=1\/k=2\/k=3\/k=4\/k=5\/k=6\/k=7:=by omega
 rcases this with rfl|rfl|rfl|rfl|rfl|rfl|rfl|rfl<;>omega
theorem uN:∀ (f m:Nat),m<=f->wb f m=(f7 18446744073709551616 m).flatMap b8
  | 0,m,h=>by
    have:m=0:=by omega
    subst this;rfl
  | f+1,m,h=>by
    unfold wb
    split
    . rename_i h0;subst h0;rfl
    . rw[d3 kD oM,sr,ET,uN f _ oM];rfl
theorem AH (n:Nat):f7 18446744073709551616 (n/18446744073709551616)=(f7 18446744073709551616 n).drop 1:=by
 rcases yz n with h|h
 ·subst h;rfl
 ·conv=>rhs;rw[d3 kD h]
  rfl
theorem nU (n:Nat):(hi n).data.toList=((wds n).drop 1).flatMap b8:=by
 unfold hi wds
 rw[uN _ _ oM,AH]
theorem mM (l:List Nat):(l.flatMap b8).length=8*l.length:=by
 induction l with
 | nil=>rfl
 | cons x l ih=>rw[sr,s6,ih,jJ,List.length_cons];omega
theorem ir (n:Nat):(hi n).size=8*((wds n).length-1):=by
 have:(hi n).size=(hi n).data.toList.length:=by rw[Array.length_toList];rfl
 rw[this,nU,mM,I9]
theorem mT:∀ (l:List Nat) (j k:Nat),j<l.length->k<8->(l.flatMap b8).getD (8*j+k) 0=(b8 (l.getD j 0)).getD k 0
  | [],j,k,hj,_=>by simp at hj
  | x::l,0,k,hj,hk=>by
    rw[sr]
    simp only[B1]
    rw[rc (by rw[jJ];omega)]
    simp
  | x::l,j+1,k,hj,hk=>by
    rw[sr,s3,<-mT l j k (by simpa using hj) hk]
    simp only[B1]
    rw[rk (by rw[jJ];omega),jJ]
    congr 2
    omega
theorem Ee (x k:Nat)(a:k<8):((b8 x).getD k 0).toNat=x/256^k%256:=by
 unfold b8
 simp only[B1,Ja,Jb a]
 rfl
theorem EB (n j k:Nat)(b:j+1<(wds n).length)(a:k<8):aj (hi n) (8*j+k)=(wds n).getD (j+1) 0/256^k%256:=by
 unfold aj
 rw[nU,mT _ _ _ (by rw[I9];omega) a,Ee _ _ a,bK,Nat.add_comm 1 j]
theorem GJ {s:ByteArray}{x:Nat}(a:x<18446744073709551616)(h:∀ k,k<8->aj s k=x/256^k%256):wv s=x:=by
 unfold wv
 rw[h 0 oM,h 1 oM,h 2 oM,h 3 oM,h 4 oM,h 5 oM,h 6 oM,h 7 oM]
 simp only[Nat.reducePow,Nat.div_one]
 omega
theorem iN (n j:Nat)(a:j+1<(wds n).length):wv ((hi n).extract (8*j) (hi n).size)=(wds n).getD (j+1) 0 :=
 GJ (nB n _) (fun k b=>by rw[dd,EB n j k a b])
theorem eA {n:Nat}(h:n<18446744073709551616):hi n=⟨#[]⟩:=lh h
theorem cC {n:Nat}(h:18446744073709551616<=n):2<=(wds n).length:=by
 rcases co (wds n).length 2 with h1|h1
 ·have a:=iO (b:=18446744073709551616) kD n
  have:(18446744073709551616:Nat)^(f7 18446744073709551616 n).length<=18446744073709551616^1:=A4 kD (by show (wds n).length<=1;omega)
  omega
 ·exact h1
theorem fC {n:Nat}(h:18446744073709551616<=n):(hi n).size≠0:=by rw[ir];have:=cC h;omega
theorem ik {n:Nat}(h0:0<n)(h:n<18446744073709551616):wds n=[n]:=by
 unfold wds
 rw[d3 kD h0,u9 h,zY h,i7]
theorem vp:wds 0=[]:=rfl
theorem i5 {n:Nat}:0<(wds n).length↔0<n:=nA kD
theorem qD (n:Nat):lo n=(((wds n).getD 0 0:Nat):Int):=by
 unfold lo wds
 rcases yz n with h|h
 ·subst h;rfl
 ·rw[d3 kD h];rfl
theorem lc {l:List Nat}(h:Wd l):wds (aA l)=l.take (tl l l.length):=Ev kD h
theorem lp {n:Nat}(h:0<n):(wds n).getD ((wds n).length-1) 0≠0:=kz kD n h
theorem F9 {n:Nat}{l:List UInt8}(h:l=((wds n).drop 1).flatMap b8):(⟨l.toArray⟩:ByteArray)=hi n:=by
 have:(hi n).data.toList=l:=by rw[nU,h]
 cases e:hi n with
 | mk d=>rw[e] at this;rw[<-this]
theorem fk (n:Nat):n<18446744073709551616^(wds n).length:=iO kD n
theorem dz {a b:Nat}(h:a<=b):(wds a).length<=(wds b).length:=f9 kD (zz h (fk b))
theorem fQ {a b:Nat}(k:Nat)(h:a<2^k):a ||| b*2^k=a+b*2^k:=by
 have:=Jc h b;rw[Nat.or_comm,z2 b,<-this];omega
def cX (a b:Nat):Int:=if a<b then -1 else if b<a then 1 else 0
theorem dJ {a b:Nat}(h:a<b):cX a b = -1:=by simp[cX,h]
theorem eN {a b:Nat}(h:b<a):cX a b=1:=by unfold cX;rw[if_neg oM,if_pos h]
theorem ij {a b:Nat}(h:a=b):cX a b=0:=by unfold cX;rw[if_neg oM,if_neg oM]
theorem il {a b:Nat}(h:b<=a):cX a b=0\/cX a b=1:=by
 unfold cX
 rw[if_neg oM]
 split<;>simp
theorem fB {a b:Nat}(h:(wds a).length<(wds b).length):a<b:=by
 rcases co a b with hl|hl
 ·exact hl
 ·have:=dz hl;omega
theorem ll {a b k:Nat}(d:(wds a).length=(wds b).length)(f:k<(wds a).length)(h:(wds a).drop (k+1)=(wds b).drop (k+1))(c:(wds a).getD k 0<(wds b).getD k 0):a<b:=by
 have i:=bX 18446744073709551616 (l:=wds a) (k:=k+1) oM;have y:=bX 18446744073709551616 (l:=wds b) (k:=k+1) oM;have u:am 18446744073709551616 (wds a)=a:=aZ a;have o:am 18446744073709551616 (wds b)=b:=aZ b;have p:=aJ 18446744073709551616 (l:=wds a) (k:=k) f;have j:=aJ 18446744073709551616 (l:=wds b) (k:=k) oM;have e:=bW (Dg.take (Wd.wds a) k);rw[Ab,Am oM] at e
 have x:18446744073709551616^k*(wds a).getD k 0+18446744073709551616^k<=18446744073709551616^k*(wds b).getD k 0:=by
  rw[<-Jd];exact A8 _ c
 rw[h] at i
 omega
theorem kH {a b k:Nat}(c:(wds a).length=(wds b).length)(f:k<(wds a).length)(d:(wds a).drop (k+1)=(wds b).drop (k+1))(e:(wds a).getD k 0≠(wds b).getD k 0):cX ((wds a).getD k 0) ((wds b).getD k 0)=cX a b:=by
 rcases co ((wds a).getD k 0) ((wds b).getD k 0) with h|h
 ·rw[dJ h,dJ (ll c f d h)]
 ·rw[eN oM,eN (ll c.symm oM d.symm oM)]
theorem eK {l m:List Nat}{k:Nat}(d:l.length=m.length)(a:k<l.length)(c:l.drop (k+1)=m.drop (k+1))(b:l.getD k 0=m.getD k 0):l.drop k=m.drop k:=by
 rw[Je a,Je (l:=m) (i:=k) oM,c]
 simp[a,show k<m.length by omega] at b
 rw[b]
theorem sV (n:Nat):n%18446744073709551616=(wds n).getD 0 0:=Int.ofNat.inj (qD n)
theorem nY {a b:Nat}(c:(wds a).length=(wds b).length)(f:(wds a).drop 1=(wds b).drop 1):cX (a%18446744073709551616) (b%18446744073709551616)=cX a b:=by
  rw[sV,sV]
  by_cases h:(wds a).getD 0 0=(wds b).getD 0 0
  . have:a=b:=by
      rcases yz (wds a).length with h0|h0
      . have e:=aZ a
        have d:=aZ b;have j:wds a=[]:=ta h0;have i:wds b=[]:=ta oM;rw[j] at e
        rw[i] at d
        exact e.symm.trans d
      . have:=eK c h0 f h
        simp only[List.drop_zero] at this
        rw[<-aZ a,<-aZ b,this]
    rw[h,ij rfl,ij this]
  . refine kH c ?_ f h
    rcases yz (wds a).length with h0|h0
    . exfalso;apply h
      have e:wds a=[]:=ta h0;have d:wds b=[]:=ta oM;rw[e,d]
    . exact h0
theorem rP {n:Nat}(h:(wds n).length<=1):n<18446744073709551616:=by
 rcases co n 18446744073709551616 with h1|h1
 ·exact h1
 ·have:=cC h1;omega
theorem pq {a b:Nat}(c:(wds a).length-1=(wds b).length-1)(d:(wds a).drop 1=(wds b).drop 1):cX (a%18446744073709551616) (b%18446744073709551616)=cX a b:=by
 rcases co 1 (wds a).length with h|h
 ·exact nY oM d
 ·rw[u9 (rP h),u9 (rP oM)]
theorem wH {n:Nat}(h:0<n):nb n=64*((wds n).length-1)+nb ((wds n).getD ((wds n).length-1) 0):=by
 have d:=i5.2 h;have e:=aJ 18446744073709551616 (l:=wds n) (k:=(wds n).length-1) oM;rw[show (wds n).length-1+1=(wds n).length by omega,s1] at e
 have c:am 18446744073709551616 (wds n)=n:=aZ n;have a:=bW (Dg.take (Wd.wds n) ((wds n).length-1));rw[Ab,Am oM] at a
 have b:(18446744073709551616:Nat)^((wds n).length-1)=2^(64*((wds n).length-1)):=by rw[Bs]
 rw[c,b] at e
 rw[b] at a
 have:=Ad a (Jf (lp h));rw[<-e] at this
 exact this
theorem jT {n:Nat}(h:n<18446744073709551616):Value.agg #[.int .u64 (n:Int),.string ⟨#[]⟩]=nv n:=by unfold nv;rw[gZ h,lh h]
theorem fE {n:Nat}:(wds n).length<=1↔n<18446744073709551616:=by
 constructor
 ·intro h
  rcases co n 18446744073709551616 with h1|h1
  ·exact h1
  ·have:=cC h1;omega
 ·intro h
  rcases yz n with h0|h0
  ·subst h0;simp[vp]
  ·rw[ik h0 h];simp
structure HalfQ (Y y1 y0 u u1 q r:Nat):Prop where
  e:q*y1+r=u
  lt:u*4294967296+u1<(q+1)*Y
  qb:q<=4294967297
theorem lu {Y y1 y0 u u1:Nat}(c:Y=y1*4294967296+y0)(h1:u1<4294967296)(e:2147483648<=y1)(h0:y0<4294967296)(hu:u<Y):HalfQ Y y1 y0 u u1 (u/y1) (u-u/y1*y1):=by
 have h:u/y1*y1<=u:=Jg u y1
 have d:u<(u/y1+1)*y1:=by
  have:=Jh (a:=u) (b:=y1) oM;rw[I4,I6];exact this
 refine ⟨by omega,?_,?_⟩
 ·have:(u/y1+1)*Y=(u/y1+1)*y1*4294967296+(u/y1+1)*y0:=by rw[c,z7,z8]
  omega
 ·have f:u/y1<4294967298:=by
   rw[Ji oM]
   omega
  omega
theorem mC {u y1:Nat}(h:0<y1):u-u/y1*y1<y1:=by
 have:=Jh (a:=u) (b:=y1) h;have c:u/y1*y1<=u:=Jg u y1
 omega
theorem HalfQ.dec {Y y1 y0 u u1 q r:Nat}(h:HalfQ Y y1 y0 u u1 q r)(b:Y=y1*4294967296+y0)(h1:u1<4294967296)(hu:u<Y)(a:4294967296<=q\/4294967296*r+u1<q*y0):HalfQ Y y1 y0 u u1 (q-1) (r+y1):=by
 have c:0<q:=by
  rcases a with h2|h2
  ·omega
  ·rcases yz q with h3|h3
   ·subst h3;omega
   ·exact h3
 obtain ⟨p,rfl⟩:∃ p,q=p+1:=⟨q-1,by omega⟩;have e:=h.e;rw[I4,I6] at e
 refine ⟨by rw[Jj];omega,?_,by have:=h.qb;omega⟩;rw[Jj]
 rcases a with h2|h2
 ·have:4294967296*Y<=(p+1)*Y:=ua _ h2
  omega
 ·have:(p+1)*Y=(p+1)*y1*4294967296+(p+1)*y0:=by rw[b,z7,z8]
  rw[I4 p 1 y1,I6] at this
  omega
theorem HalfQ.fin {Y y1 y0 u u1 q r:Nat}(h:HalfQ Y y1 y0 u u1 q r)(c:Y=y1*4294967296+y0)(f:¬4294967296*r+u1<q*y0):q=(u*4294967296+u1)/Y/\(u*4294967296+u1)-q*Y=(u*4294967296+u1)%Y/\q*Y<=u*4294967296+u1:=by
 have a:q*Y<=u*4294967296+u1:=by
  have:q*Y=q*y1*4294967296+q*y0:=by rw[c,z7,z8]
  have:=h.e
  omega
 have b:q=(u*4294967296+u1)/Y:=(Jk a h.lt).symm;have d:=I7 (u*4294967296+u1) Y;rw[<-b,z2] at d
 exact ⟨b,by omega,a⟩
theorem HalfQ.brk {Y y1 y0 u u1 q r:Nat}(h:HalfQ Y y1 y0 u u1 q r)(a:Y=y1*4294967296+y0)(h0:y0<4294967296)(hr:4294967296<=r)(b:q<=4294967296):q=(u*4294967296+u1)/Y/\(u*4294967296+u1)-q*Y=(u*4294967296+u1)%Y/\q*Y<=u*4294967296+u1 :=
 h.fin a (by
  have:q*y0<=4294967296*y0:=ua _ b
  omega)
theorem jI {A y s Y Q R:Nat}(b:Y=y*2^s)(c:A*2^s=Y*Q+R)(f:R<Y):A=y*Q+R/2^s/\R/2^s<y:=by
 have d:0<2^s:=A0 s;have e:y*Q*2^s=Y*Q:=by rw[b];ac_rfl
 have h:y*Q<=A:=by
  have:y*Q*2^s<=A*2^s:=by rw[c,e];omega
  exact Nat.le_of_mul_le_mul_right this d
 have a:R=(A-y*Q)*2^s:=by rw[Nat.sub_mul,c,e];omega
 rw[a,Nat.mul_div_cancel _ d];refine ⟨by omega,?_⟩;have:(A-y*Q)*2^s<y*2^s:=by rw[<-a,<-b];exact f
 exact Nat.lt_of_mul_lt_mul_right this
theorem ui {A y s a c Y u1 f o h z R:Nat}(b:Y=y*2^s)(j:A*2^s=a*18446744073709551616+c)(d:c=u1*4294967296+f)(l:0<y)
  (k:o=(a*4294967296+u1)/Y)(u:h=(a*4294967296+u1)%Y)(p:z=(h*4294967296+f)/Y)(i:R=(h*4294967296+f)%Y) :
  A=y*(o*4294967296+z)+R/2^s/\R/2^s<y:=by
 have e:0<Y:=by rw[b];exact Jl l (A0 s)
 have C:=I7 (a*4294967296+u1) Y;have B:=I7 (h*4294967296+f) Y;rw[<-k,<-u] at C
 rw[<-p,<-i] at B
 have x:R<Y:=by rw[i];exact va _ e
 refine jI b ?_ x;rw[j,d,z7,<-z8]
 clear k u p i j d x b e l
 omega
theorem r8 {y:Nat}(h0:0<y)(h:y<18446744073709551616):9223372036854775808<=y*2^(64-nb y)/\y*2^(64-nb y)<18446744073709551616:=by
 obtain ⟨c,b,i⟩:=cl h0;have a:nb y<=64:=jr (k:=64) h
 have e:(2:Nat)^(nb y-1)*2^(64-nb y)=9223372036854775808:=by
  rw[<-A7,show nb y-1+(64-nb y)=63 by omega]
 have d:(2:Nat)^nb y*2^(64-nb y)=18446744073709551616:=by
  rw[<-A7,show nb y+(64-nb y)=64 by omega]
 have j:=ua (2^(64-nb y)) c;have f:=Jm b (A0 (64-nb y))
 omega
theorem BE {hi lo s:Nat}(c:s<=64)(b:lo<18446744073709551616):(hi*18446744073709551616+lo)*2^s=(hi*2^s+lo/2^(64-s))*18446744073709551616+lo*2^s%18446744073709551616/\lo/2^(64-s)<2^s:=by
 have e:(18446744073709551616:Nat)=2^(64-s)*2^s:=by rw[<-A7,show 64-s+s=64 by omega]
 have h1:lo*2^s/18446744073709551616=lo/2^(64-s):=by
  rw[e,Jn _ _ (A0 s)]
 have a:=I7 (lo*2^s) 18446744073709551616;rw[h1] at a
 constructor
 ·rw[I4,I4]
  have:hi*18446744073709551616*2^s=hi*2^s*18446744073709551616:=by ac_rfl
  omega
 ·rw[Ji (A0 _),z2,<-e];exact b
theorem mp {a b q Y r:Nat}(h:q*Y<=a*4294967296+b)(hr:a*4294967296+b-q*Y=r)(c:r<18446744073709551616):((a*4294967296%18446744073709551616+b)%18446744073709551616+(18446744073709551616-q*Y%18446744073709551616))%18446744073709551616=r:=by
 generalize q*Y=m at *
 omega
theorem Dk {a b:Nat}(ha:a<4294967296)(c:b<4294967296):a*b<18446744073709551616:=by
 have:a*b<=4294967295*4294967295:=Jo oM oM
 omega
theorem dr {a b c:Nat}(h:c<a*b):0<a:=by
 rcases yz a with h0|h0
 ·rw[h0,s9] at h;omega
 ·exact h0
theorem oQ {u u1 Y:Nat}(h:u<Y)(h1:u1<4294967296):(u*4294967296+u1)/Y<4294967296:=by
 rw[Ji oM];have:(u+1)*4294967296<=Y*4294967296:=ua _ h
 omega
theorem xf {p:Nat}(h:p<=64):(18446744073709551616:Nat)=2^(64-p)*2^p:=by rw[<-A7,show 64-p+p=64 by omega]
theorem uF {x p o:Nat}(c:p<=64)(f:x<18446744073709551616)(d:o<2^p) :
  o ||| (x*2^p%18446744073709551616)=o+x*2^p%18446744073709551616/\o+x*2^p%18446744073709551616<18446744073709551616/\x*2^p%18446744073709551616+18446744073709551616*(x/2^(64-p))=x*2^p/\x/2^(64-p)<2^p:=by
 have e:=xf c
 have b:x*2^p%18446744073709551616=x%2^(64-p)*2^p:=by
  conv=>lhs;rw[e]
  exact Jp _ _ _
 have a:x%2^(64-p)<2^(64-p):=va _ (A0 _);refine ⟨by rw[b];exact fQ p d,?_,?_,?_⟩
 ·rw[b]
  have:(x%2^(64-p)+1)*2^p<=2^(64-p)*2^p:=ua _ a;rw[<-e,I4] at this
  omega
 ·have h1:x*2^p/18446744073709551616=x/2^(64-p):=by
   conv=>lhs;rw[e]
   exact Jn _ _ (A0 _)
  rw[<-h1];exact Jq _ _
 ·rw[Ji (A0 _),z2,<-e];exact f
theorem wQ {l w:List Nat}{i q p x o a c:Nat}(u:i+q+1<l.length)(hv:aA l=2^p*(18446744073709551616^q*am 18446744073709551616 (w.take i)))(h0:l.getD (i+q+1) 0=0)(f:a+18446744073709551616*c=x*2^p)(h:x=w.getD i 0)(e:o=l.getD (i+q) 0) :
  aA ((l.set (i+q) (o+a)).set (i+q+1) c)=2^p*(18446744073709551616^q*am 18446744073709551616 (w.take (i+1))):=by
 have d:=ct 18446744073709551616 (l:=l) (k:=i+q) (o+a) oM;have b:=ct 18446744073709551616 (l:=l.set (i+q) (o+a)) (k:=i+q+1) c (by rw[Jr];omega);rw[bB oM,if_neg oM,h0] at b
 rw[<-e] at d
 have j:2^p*(18446744073709551616^q*am 18446744073709551616 (w.take (i+1)))=aA l+18446744073709551616^(i+q)*(x*2^p):=by
  rw[aT,hv,<-h,z7,z7,A7]
  congr 1
  ac_rfl
 rw[j,<-f];rw[z1] at b
 show am 18446744073709551616 _=am 18446744073709551616 l+_
 simp only[z7,<-z8] at d b ⊢
 omega
theorem vJ (n:Nat):(2:Nat)^n=18446744073709551616^(n/64)*2^(n%64):=by
 have:n=64*(n/64)+n%64:=by omega
 conv=>lhs;rw[this,A7,Bs]
theorem pD {x y p:Nat}(d:p<=64)(h:x<18446744073709551616) :
  (x/2^p) ||| (y*2^(64-p)%18446744073709551616)=x/2^p+y*2^(64-p)%18446744073709551616/\x/2^p+y*2^(64-p)%18446744073709551616<18446744073709551616/\2^p*(x/2^p+y*2^(64-p)%18446744073709551616)+x%2^p=x+18446744073709551616*(y%2^p):=by
 have e:=xf d;have a:(18446744073709551616:Nat)=2^p*2^(64-p):=by rw[z2];exact e
 have b:y*2^(64-p)%18446744073709551616=y%2^p*2^(64-p):=by
  conv=>lhs;rw[a]
  exact Jp _ _ _
 have f:x/2^p<2^(64-p):=by rw[Ji (A0 _),<-e];exact h
 have c:y%2^p<2^p:=va _ (A0 _);refine ⟨by rw[b];exact fQ (64-p) f,?_,?_⟩
 ·rw[b]
  have:(y%2^p+1)*2^(64-p)<=2^p*2^(64-p):=ua _ c;rw[<-a,I4] at this
  omega
 ·rw[b,z7]
  have h1:=I7 x (2^p);have i:2^p*(y%2^p*2^(64-p))=18446744073709551616*(y%2^p):=by rw[a];ac_rfl
  omega
theorem oG {l W:List Nat}{i p d b:Nat}(j:i<l.length)(a:2^p*am 18446744073709551616 l+b=am 18446744073709551616 (W.take i)+18446744073709551616^i*(W.getD i 0%2^p))(h0:l.getD i 0=0)(h:2^p*d+W.getD i 0%2^p=W.getD i 0+18446744073709551616*(W.getD (i+1) 0%2^p)) :
  2^p*am 18446744073709551616 (l.set i d)+b=am 18446744073709551616 (W.take (i+1))+18446744073709551616^(i+1)*(W.getD (i+1) 0%2^p):=by
 have o:=ct 18446744073709551616 (l:=l) (k:=i) d j;rw[h0] at o
 rw[aT,z1];have c:18446744073709551616^i*(2^p*d+W.getD i 0%2^p)=18446744073709551616^i*(W.getD i 0+18446744073709551616*(W.getD (i+1) 0%2^p)):=by rw[h]
 have e:am 18446744073709551616 (l.set i d)=am 18446744073709551616 l+18446744073709551616^i*d:=by omega
 rw[e,z7];have f:2^p*(18446744073709551616^i*d)=18446744073709551616^i*(2^p*d):=by ac_rfl
 rw[f]
 simp only[z7,<-z8] at c ⊢
 simp only[z8] at c a ⊢
 omega
theorem Cb {l W:List Nat}{p m:Nat}(c:W.length<=m)(a:2^p*am 18446744073709551616 l+W.getD 0 0%2^p=am 18446744073709551616 (W.take m)+18446744073709551616^m*(W.getD m 0%2^p)):aA l=aA W/2^p:=by
 rw[I5 c] at a
 have h0:W.getD m 0=0:=by simp[pk c]
 rw[h0,Js,Ao,sw] at a
 have b:=A0 p;have d:=va (W.getD 0 0) b
 show am _ l=am _ W/_
 rw[<-a,Jt b,zY d,sw]
theorem mF {w:List Nat}(b:Wd w){q:Nat}(a:q<=w.length):aA (w.drop q)=aA w/18446744073709551616^q:=by
 have e:=bX 18446744073709551616 a;have h1:=bW (Dg.take b q);rw[Ab,Am a] at h1
 show am _ _=am _ w/_
 rw[e,I3 _ _ (F2 kD),zY h1,tv]
def pZ (x:Nat):List Value:=[.int .u8 (x:Nat)]
theorem p5 {b:Nat}(a:0<b){l:List Nat}(h:Dg b l)(j:Nat):l.getD j 0=am b l/b^j%b:=by
 rcases co j l.length with hj|hj
 ·have h1:=bX b (l:=l) (k:=j) oM
  have e:=eZ b (l:=l) (k:=j) hj;have c:=bW (Dg.take h j);rw[Ab,Am oM] at c
  have d:0<b^j:=F2 a;rw[h1,I3 _ _ d,zY c,tv,e,Ju,u9 (h.getD a j)]
 ·rw[cP hj,zY,Js]
  exact ep (bW h) (A4 a hj)
theorem uR {b:Nat}{l:List Nat}{k P:Nat}(e:k<l.length)(d:0<b)(h:am b l<b^k*P):l.getD k 0<P:=by
 have h1:=bX b (l:=l) (k:=k) oM;have c:=eZ b (l:=l) (k:=k) e;have f:0<b^k:=F2 d;refine Jv (a:=b^k) ?_;have i:b^k*l.getD k 0<=b^k*am b (l.drop k):=A8 _ (by rw[c];omega)
 omega
theorem qi (k:Nat):(256:Nat)^k=18446744073709551616^(k/8)*2^(8*(k%8)):=by
 have:k=8*(k/8)+k%8:=by omega
 conv=>lhs;rw[this,A7,Bs]
 rw[Bs 2 8]
theorem pz {l:List Nat}(a:Wd l)(k:Nat):l.getD (k/8) 0/2^(8*(k%8))%256=aA l/256^k%256:=by
 rw[p5 kD a (k/8),qi,<-H1]
 show _=am 18446744073709551616 l/_/_%256
 generalize am 18446744073709551616 l/18446744073709551616^(k/8)=y
 have:k%8=0\/k%8=1\/k%8=2\/k%8=3\/k%8=4\/k%8=5\/k%8=6\/k%8=7:=by omega
 rcases this with h|h|h|h|h|h|h|h<;>rw[h]<;>omega
theorem Ac (n k:Nat):(wds n).getD (k/8) 0/2^(8*(k%8))%256=n/256^k%256:=by
 rw[pz (Wd.wds n),aZ]
theorem wc {b k:Nat}(a:b<256):b*2^(8*(k%8))<18446744073709551616:=by
 have:k%8=0\/k%8=1\/k%8=2\/k%8=3\/k%8=4\/k%8=5\/k%8=6\/k%8=7:=by omega
 rcases this with h|h|h|h|h|h|h|h<;>rw[h]<;>omega
theorem tS {a b k:Nat}(ha:a<2^(8*(k%8)))(c:b<256):a+b*2^(8*(k%8))<18446744073709551616:=by
 have:k%8=0\/k%8=1\/k%8=2\/k%8=3\/k%8=4\/k%8=5\/k%8=6\/k%8=7:=by omega
 rcases this with h|h|h|h|h|h|h|h<;>rw[h] at ha ⊢ <;> omega
theorem rX {l:List Nat}{n k x:Nat}(i:k/8<l.length)(a:aA l=n%256^k)(f:x=n/256^k%256) :
  (l.getD (k/8) 0 ||| x*2^(8*(k%8))%18446744073709551616)=l.getD (k/8) 0+x*2^(8*(k%8))/\l.getD (k/8) 0+x*2^(8*(k%8))<18446744073709551616 /\
  aA (l.set (k/8) (l.getD (k/8) 0+x*2^(8*(k%8))))=n%256^(k+1):=by
 have h:x<256:=by rw[f];exact va _ oM
 have c:aA l<256^k:=by rw[a];exact va _ (F2 oM)
 have d:l.getD (k/8) 0<2^(8*(k%8)):=uR (b:=18446744073709551616) i kD (by rw[<-qi];exact c);refine ⟨?_,tS d h,?_⟩
 ·rw[u9 (wc h)];exact fQ _ d
 ·have e:=ct 18446744073709551616 (l:=l) (k:=k/8) (l.getD (k/8) 0+x*2^(8*(k%8))) i
  rw[xP,<-f,<-a]
  show am _ _=am _ l+_
  have j:256^k*x=18446744073709551616^(k/8)*(x*2^(8*(k%8))):=by rw[qi k];ac_rfl
  rw[z7] at e
  rw[j]
  omega
theorem Dp (n:Nat):n<256^((nb n+7)/8):=by
 have h:=De n;have e:(256:Nat)^((nb n+7)/8)=2^(8*((nb n+7)/8)):=by rw[Bs]
 rw[e];exact ep h (A4 oM oM)
theorem kL (n:Nat):nb n<=64*(wds n).length:=by
 apply jr
 have:=fk n
 rwa [show (18446744073709551616:Nat)=2^64 by rfl,<-Bs] at this
theorem lM (n:Nat):(wds n).length=(nb n+63)/64:=by
 rcases yz n with h|h
 ·subst h;rfl
 ·have h1:=wH h
  have a:=lp h;have b:=nB n ((wds n).length-1);have e:=i5.2 h
  generalize (wds n).getD ((wds n).length-1) 0=t at *
  have d:=(cl (Jf a)).2.2;have c:nb t<=64:=jr (k:=64) b
  omega
theorem mf {vs cs:List Value}{o:Nat}(h:(vs.drop o).take cs.length=cs)(i:Nat)(v:Value)(hv:cs[i]?=some v):vs[o+i]?=some v:=by
 have hi:i<cs.length:=(Jw.1 hv).1;rw[<-h,rh hi,ri] at hv
 exact hv
section laws
variable {M:Ms}{P:Program}{n:Nat}{N R:Po}{X:Nat->Po}{ops:Array Oper}{k k0:Nat}{hr:Hp}{AL:List Al}{L:Array Bool}{Γ:ck}{w:World}{h:Hp}{w0:World}{h0:Hp}{B:List Bx}{Rs:List Rw}{F:List (Hp->Prop)}
theorem jL:∀ (cs vs:List Value) (o:Nat),(cj vs o cs).length=vs.length
 | [],_,_=>rfl
 | c::cs,vs,o=>by show (cj (vs.set o c) (o+1) cs).length=_;rw[jL,Jr]
theorem SlO.flat {α:Type}{sz:Nat}{f:α->List Value}{d:α}{A:Z9}:∀ {l:List α},(∀ x,(f x).length=sz)->SlO sz f d h A l->Seg h (aB A) (aO A) (l.flatMap f)
  | l,hf,s=>fun i v hv=>by
    have hi:i<(l.flatMap f).length:=(Jw.1 hv).1;rw[da hf] at hi
    rcases yz sz with h0'|hp
    . subst h0';simp at hi
    . have b:i/sz<l.length:=(Ji hp).2 hi
      have hr:i%sz<sz:=va _ hp;have c:=s.el (i/sz) b (i%sz) v;have e:=eW hf d l (i/sz) b;have a:i/sz*sz+i%sz=i:=by rw[z2];exact I7 i sz
      have:=c (by rw[<-e,rh hr,ri,a];exact hv)
      rwa [sc,a] at this
theorem f5 {b o:Nat}{news:List Value}(g:G w h)(a:Seg h b o news):∀ j u,news[j]?=some u->w.cell? ((⟨b,o,none⟩:Addr).add j)=some u:=by
 intro j u hu;have:=iX g (a j u hu)
 unfold Addr.add
 split
 ·rename_i h0;subst h0;exact this
 ·exact this
theorem pK {α:Type}{f:α->List Value}{l m:List α}:l.flatMap f++m.flatMap f=(l++m).flatMap f:=by simp
theorem IQ {α:Type}(t j:Nat)(ty:TypeId)(sz c:Nat)(A:Z9)(l:List α)(f:α->List Value)(d:α)(D:Z9)(m:List α)(c2 J:Nat)(z:Value)(s:SS w0 h0 w h B Rs F)(so:SlO sz f d h D m)(o:0<m.length)
  (H:∀ e c' w' i,SS w0 h0 w' i B (Rs.set j ⟨ty,sz,e,c',(l++m).length,(l++m).flatMap f⟩) F->LG P n N R X ops (k+1) ((t,.slice e (l++m).length c')::Γ) w')
  (K:cL ops Γ k t n=true:=by kernel_rfl)(C:Ae P (ev Γ) (av ops k)=some (.slice A l.length c,.slice D m.length c2,ty,z,sz,J):=by kernel_rfl)(hf:∀ x,(f x).length=sz:=by intro _;rfl)(h1:∀ x,(f x).all (·.oneCell')=true:=by intro _;kernel_rfl)(p:z.cells.size=sz:=by kernel_rfl)(a:0<sz:=by decide)
  (hr:Rs.getD j default=⟨ty,sz,A,c,l.length,l.flatMap f⟩:=by kernel_rfl)(L:decide (j<Rs.length)=true:=by kernel_rfl)(S:l.length+m.length<=1099511627776:=by omega)(M:(l.length+m.length)*J<=140737488355328:=by omega):LG P n N R X ops k Γ w:=by
 have b:=oT L;have O:=so.ok o;rw[O] at C
 refine Ie t j (m.flatMap f) s (f5 s.g (so.flat hf)) (da hf m) (fun u hu=>?_) b (gB hr b) K C p a S M (fun e c' w' i I=>?_)
 ·obtain ⟨x,_,Q⟩:=Jx.1 hu
  exact (i3.1 (h1 x)) u Q
 ·have y:l.length+m.length=(l++m).length:=by simp
  rw[pK,y] at I
  rw[y];exact H e c' w' i I
theorem ce (j o:Nat)(cs:List Value)(s:SS w0 h0 w h B Rs F)(H:∀ w',Put (aD B j).b w w'->SS w0 h0 w' h (fU B j o cs) Rs F->LG P n N R X ops (k+1) Γ w')(c:cS ops Γ k=true:=by kernel_rfl)
  (a:(decide (j<B.length) && decide (o+cs.length<=(aD B j).vs.length))=true:=by kernel_rfl)(e:dw P (execOp (ev Γ) (av ops k))=some (.skip,ml (aD B j).b o cs):=by kernel_rfl):LG P n N R X ops k Γ w :=
 LG.put j o cs s.st s.g0 (kj c).1 (kj c).2 a e (fun w' p d=>H w' p (s.put0 (oT (hN _ _▸a).1) p d (kY (oT (hN _ _▸a).1))))
theorem tX (i t:Nat)(A:Z9)(len cap sz:Nat)(x:Int)(j:Nat)(c:A=some ⟨aB A,aO A,none⟩)(H:AG M P n N R X ops k0 (L.setIfInBounds i true) ((t,.pointer (some ⟨aB A,aO A+j*sz,none⟩))::Γ) w)(b:cT n ops k0 L Γ i t=true:=by kernel_rfl)(e:CB P (ev Γ) (av ops i)=some (.slice A len cap,.int .i64 x,sz):=by kernel_rfl)(d:x=j:=by omega)(a:j<len:=by omega):AG M P n N R X ops k0 L Γ w :=
 T.val i t _ w (oH b).1 (oH b).2 (gi e c d a w) H
theorem SS.blkp {F1:List (Hp->Prop)}{wr:World}{x:Al}{b:Nat}(a:List Bx)(j:SS w0 h0 wr hr B Rs F1)(s:SS w0 h0 w h (a++B) Rs F)(k:Blk hr w h (x,b))(t:TypeId)(vs:List Value)(p:x.o=.cells vs.toArray t (0,0))(z:a.all (fun y=>y.t != t)=true):SS w0 h0 w h (⟨b,t,vs⟩::(a++B)) Rs F :=
 ⟨s.g0,St.new j.st s.st (fun y d=>by
  rcases List.mem_append.1 d with d|d
  ·right
   intro e;have h1:=s.st.own y (List.mem_append_left _ d);have l:w.heap[b]?=some x.o:=k.1
   unfold Own at h1
   rw[e,l,p] at h1
   injection h1 with h1
   injection h1 with _ h3
   have:=(i3.1 z) y d
   simp only[bne_iff_ne,ne_eq] at this
   exact this h3.symm
  ·exact .inl (aI (j.st.jk y d))) k t vs p,fun r i=>(s.ro r i).new b (fun c u e=>by
  have h1:=(j.ro r i).lt u;have l:hr.size<=b:=k.2.2
  omega),s.ap,s.mo,s.f⟩
theorem G7 {F1:List (Hp->Prop)}{wr:World}{x:Al}(a:List Bx)(j:SS w0 h0 wr hr B Rs F1)(s:SS w0 h0 w h (a++B) Rs F)(t:TypeId)(vs:List Value)(H:∀ w' c b,SS w0 h0 w' c (⟨b,t,vs⟩::(a++B)) Rs F->AG M P n N R X ops k0 (L.setIfInBounds x.i true) ((x.t,.pointer (some ⟨b,0,none⟩))::Γ) w')(f:(fq ops [x] L && decide (x.t<n))=true:=by kernel_rfl)(e:x.o=.cells vs.toArray t (0,0):=by kernel_rfl)(d:a.all (fun y=>y.t != t)=true:=by kernel_rfl):EG M P n N R X ops k0 hr [x] L Γ w h :=
 Rg.fin1 f (fun w' c b u k=>H w' c b (SS.blkp a j (s.step u) k t vs e d))
end laws
theorem SS.at_ {w:World}{h:Hp}{rb:Nat}{t:TypeId}{vs:List Value}(g:G w h)(o:Own w rb t vs)(j:h[rb]?=some junk):∃ w0 h0,SS w0 h0 w h [⟨rb,t,vs⟩] [] []:=by
 obtain ⟨w0,h0,b,c⟩:=St.at_ g o j;exact ⟨w0,h0,b,c,fun _ a=>(by cases a),.nil,fun _ a=>(by cases a),trivial⟩
theorem SlO.take {α:Type}{sz:Nat}{f:α->List Value}{d:α}{h:Hp}{A:Z9}{l:List α}(s:SlO sz f d h A l)(k:Nat):SlO sz f d h A (l.take k) :=
 ⟨fun a=>s.ok (by rw[Ab] at a;omega),fun i hi=>by
  rw[Ab] at hi
  have:=s.el i oM
  rwa [B1,rh oM,<-B1]⟩
theorem SlO.drop {α:Type}{sz:Nat}{f:α->List Value}{d:α}{h:Hp}{A:Z9}{l:List α}(s:SlO sz f d h A l)(k c:Nat)(j:l.length<=c):SlO sz f d h (if c=k then A else A.map (·.add (k*sz))) (l.drop k):=by
 rcases co k l.length with hk|hk
 ·rw[if_neg oM]
  have b:=s.ok oM
  have a:(⟨aB A,aO A,none⟩:Addr).add (k*sz)=⟨aB A,aO A+k*sz,none⟩:=by
   unfold Addr.add
   split
   ·rename_i h0;rw[h0];rfl
   ·rfl
  have e:A.map (·.add (k*sz))=some ⟨aB A,aO A+k*sz,none⟩:=by rw[b];simp only[pv,aB,aO] at a ⊢;rw[<-a]
  refine ⟨fun _=>by rw[e];rfl,fun i hi=>?_⟩;rw[e]
  show Seg h (aB A) (aO A+k*sz+i*sz) _
  rw[I9] at hi
  have:=s.el (k+i) oM;rw[I4,<-sc] at this
  rwa [B1,ri,<-B1]
 ·rw[Jy hk];exact SlO.nil
section ss
variable {w0:World}{h0:Hp}{w:World}{h:Hp}{B:List Bx}{R:List Rw}{F:List (Hp->Prop)}
theorem SS.rowA (s:SS w0 h0 w h B R F)(j:Nat){ty:TypeId}{sz c m:Nat}{A:Z9}{cs:List Value}(d:0<m)(hr:R.getD j default=⟨ty,sz,A,c,m,cs⟩:=by kernel_rfl)(f:decide (j<R.length)=true:=by kernel_rfl):∃ b,A=some ⟨b,0,none⟩:=by
 have a:=oT f;have r:=s.ro _ (e5 a);rw[gB hr a] at r
 rcases r.own with ⟨_,⟨_,e⟩|⟨b,cap,cur,e,_⟩⟩
 ·simp only[] at e;omega
 ·simp only[Rw.v] at e
  injection e with e
  exact ⟨b,e⟩
theorem SS.rowO (s:SS w0 h0 w h B R F)(j:Nat){ty:TypeId}{sz c m b:Nat}{cs:List Value}(hr:R.getD j default=⟨ty,sz,some ⟨b,0,none⟩,c,m,cs⟩)(a:j<R.length):∃ vs:List Value,Own w b ty vs/\vs.take (m*sz)=cs/\cs.length=m*sz/\h0.size<=b/\m<=c/\c<=maxLen/\vs.length=c*sz:=by
 have r:=s.ro _ (e5 a);rw[gB hr a] at r
 rcases r.own with ⟨h1,⟨e,_⟩|⟨g,cap,cur,e,hb,hg,hn,hm,hs,ht⟩⟩
 ·simp[Rw.v] at e
 ·simp only[Rw.v] at e
  injection e with e1 e2 e3
  injection e1 with e1
  injection e1 with e1
  subst e1 e3;exact ⟨cur.toList,by simpa [Own] using hg,ht,h1,hb,hn,hm,by simpa using hs⟩
theorem Ak {vs cs:List Value}{k i:Nat}{v:Value}(h:vs.take k=cs)(hv:cs[i]?=some v):vs[i]?=some v:=by
 have hi:i<cs.length:=(Jw.1 hv).1;rw[<-h] at hi
 rw[Ab] at hi
 rw[<-h,rh oM] at hv
 exact hv
theorem kS:∀ (cs vs:List Value) (o k:Nat),o+cs.length<=k->(cj vs o cs).take k=cj (vs.take k) o cs
  | [],_,_,_,_=>rfl
  | c::cs,vs,o,k,h=>by
    show (cj (vs.set o c) (o+1) cs).take k=cj ((vs.take k).set o c) (o+1) cs
    rw[kS cs _ _ _ (by simp only[List.length_cons] at h;omega),List.take_set]
theorem SS.rowput (s:SS w0 h0 w h B R F)(j:Nat){ty:TypeId}{sz c m b o:Nat}{cs l:List Value}{w':World}{vs:List Value}(hr:R.getD j default=⟨ty,sz,some ⟨b,0,none⟩,c,m,cs⟩)(z:j<R.length)(p:Put b w w')(Z:Own w' b ty (cj vs o l))(hv:vs.take (m*sz)=cs)(I:vs.length=c*sz)(hl:o+l.length<=cs.length):SS w0 h0 w' h B (R.set j ⟨ty,sz,some ⟨b,0,none⟩,c,m,cj cs o l⟩) F:=by
  have D:=gB hr z;have r:=s.ro _ (e5 z);rw[D] at r
  have O:=r.jk b rfl;obtain ⟨_,_,_,S,y,K,V,_⟩:=s.rowO j hr z;have M:∀ x∈B,x.b≠b:=fun x u e=>r.ap b rfl (ga.2 ⟨x,u,e⟩)
  have U:=y5.1 s.ap;refine ⟨s.g0,⟨s.st.up.put p O y s.g0.size,?_,s.st.jk,s.st.lo,s.st.nd⟩,?_,?_,s.mo,s.f⟩
  . intro x u
    show w'.heap[x.b]?=_
    rw[p.blk _ (M x u)];exact s.st.own x u
  . intro x u
    obtain ⟨i,hi,H⟩:=p2.1 u;have a:i<R.length:=by simpa using hi
    by_cases e:j=i
    . subst e
      simp only[y7] at H
      rw[<-H];refine ⟨⟨?_,.inr ⟨b,c,(cj vs o l).toArray,rfl,y,Z,K,V,by simp[jL,I],?_⟩⟩,r.jk,r.ap⟩
      . show (cj cs o l).length=m*sz;rw[jL];exact S
      . show (cj vs o l).take (m*sz)=cj cs o l
        rw[kS _ _ _ _ oM,hv]
    . rw[y6 e] at H
      rw[<-H]
      have C:Apart R[i].v R[j].v:=by
        rcases Nat.lt_or_gt_of_ne e with hl'|hl'
        . exact (U j i z a hl').symm
        . exact U i j a z hl'
      rw[D] at C
      have J:=s.ro _ (e5 a);exact ⟨e7 J.own (fun d X=>p.blk d (fun Y=>C d X (by rw[Y];rfl))),J.jk,J.ap⟩
  . refine y5.2 (fun i k hi W L=>?_)
    have a:i<R.length:=by simpa using hi
    have Q:k<R.length:=by simpa using W
    have:=U i k a Q L
    by_cases e:j=i
    . subst e
      rw[y7,y6 oM];rw[D] at this
      exact this
    . by_cases e2:j=k
      . subst e2
        rw[y7,y6 oM];rw[D] at this
        exact this
      . rw[y6 e,y6 e2]
        exact this
theorem SS.rown (s:SS w0 h0 w h B R F)(R':List Rw)(e:R=R'):SS w0 h0 w h B R' F:=e▸s
end ss
theorem k7 {α:Type}{f:α->List Value}{sz:Nat}(hf:∀ x,(f x).length=sz)(d:α){o:Nat}{cs:List Value}:∀ (l:List α) (k:Nat) (x:α),k<l.length->o+cs.length<=sz->cj (f (l.getD k d)) o cs=f x->cj (l.flatMap f) (k*sz+o) cs=(l.set k x).flatMap f
  | [],k,x,h,_,_=>by simp at h
  | y::l,0,x,h,ho,e=>by
    simp only[sr,s9,tv,Jz,List.getD_cons_zero] at e ⊢
    rw[<-e];exact putAt_left _ _ _ _ (by rw[hf];exact ho)
  | y::l,k+1,x,h,ho,e=>by
    simp only[sr,List.set_cons_succ,s3] at e ⊢
    rw[Nat.succ_mul,show k*sz+sz+o=(f y).length+(k*sz+o) by rw[hf];omega,f8,k7 hf d l k x (by simpa using h) ho e]
where
  putAt_left:∀ (cs a b:List Value) (o:Nat),o+cs.length<=a.length->cj (a++b) o cs=cj a o cs++b
    | [],_,_,_,_=>rfl
    | c::cs,a,b,o,h=>by
      show cj ((a++b).set o c) (o+1) cs=cj (a.set o c) (o+1) cs++b
      simp only[List.length_cons] at h
      rw[List.set_append_left _ _ oM,putAt_left cs _ b _ (by rw[Jr];omega)]
section laws
variable {M:Ms}{P:Program}{n:Nat}{N R:Po}{X:Nat->Po}{ops:Array Oper}{k k0:Nat}{hr:Hp}{AL:List Al}{L:Array Bool}{Γ:ck}{w:World}{h:Hp}{w0:World}{h0:Hp}{B:List Bx}{Rs:List Rw}{F:List (Hp->Prop)}
theorem SS.rowrun {α:Type}{w':World}{d:Sem α}{r:α}(s:SS w0 h0 w h B Rs F)(j:Nat){ty:TypeId}{sz c m b o:Nat}{cs e:List Value}(l:Rs.getD j default=⟨ty,sz,some ⟨b,0,none⟩,c,m,cs⟩)(p:j<Rs.length)(f:(cs.drop o).take e.length=e)(x:Ext w w')(u:bP P d e=some (r,kA b o e.length)):d.run P w'=.ok r w':=by
 obtain ⟨vs,y,hv,_⟩:=s.rowO j l p;exact bH _ _ _ _ u (fun i a v ha k=>by rw[d9 _ _ _ _ _ ha,(y.ext x).cell];exact Ak hv (mf f i v k))
theorem F5 (t j:Nat)(v:Value)(a:List Value){ty:TypeId}{sz c m b o:Nat}{cs:List Value}(s:SS w0 h0 w h B Rs F)(d:(cs.drop o).take a.length=a)(H:LG P n N R X ops (k+1) ((t,v)::Γ) w)(e:Rs.getD j default=⟨ty,sz,some ⟨b,0,none⟩,c,m,cs⟩:=by kernel_rfl)(i:decide (j<Rs.length)=true:=by kernel_rfl)(f:cL ops Γ k t n=true:=by kernel_rfl)(l:bP P (execOp (ev Γ) (av ops k)) a=some (.value v,kA b o a.length):=by kernel_rfl):LG P n N R X ops k Γ w :=
 LG.val t v w (bS f).1 (bS f).2 (s.rowrun j e (oT i) d (Ext.refl _) l) H
theorem Iy (j o:Nat)(f:List Value){ty:TypeId}{sz c m b:Nat}{cs:List Value}(s:SS w0 h0 w h B Rs F)(J:o+f.length<=cs.length)(H:∀ w',SS w0 h0 w' h B (Rs.set j ⟨ty,sz,some ⟨b,0,none⟩,c,m,cj cs o f⟩) F->LG P n N R X ops (k+1) Γ w')(e:Rs.getD j default=⟨ty,sz,some ⟨b,0,none⟩,c,m,cs⟩:=by kernel_rfl)(y:decide (j<Rs.length)=true:=by kernel_rfl)(u:cS ops Γ k=true:=by kernel_rfl)
  (z:dw P (execOp (ev Γ) (av ops k))=some (.skip,ml b o f):=by kernel_rfl):LG P n N R X ops k Γ w:=by
 have a:=oT y;obtain ⟨vs,I,hv,C,_,x,_,i⟩:=s.rowO j e a
 have l:o+f.length<=vs.length:=by
  have:=congrArg JA hv;rw[Ab] at this
  omega
 obtain ⟨w',d,D,p⟩:=fc _ _ o f vs w z I l;exact LG.store w' (kj u).1 (kj u).2 d (H w' (s.rowput j e a D p hv i J))
theorem Io (i t j:Nat)(v:Value)(a:List Value){ty:TypeId}{sz c m b o:Nat}{cs:List Value}(s:SS w0 h0 w h B Rs F)(d:(cs.drop o).take a.length=a)(H:EG ⟨[],none⟩ P n N R X ops k0 hr AL (L.setIfInBounds i true) ((t,v)::Γ) w h)(e:Rs.getD j default=⟨ty,sz,some ⟨b,0,none⟩,c,m,cs⟩:=by kernel_rfl)(k:decide (j<Rs.length)=true:=by kernel_rfl)(f:Ap n ops k0 AL L Γ i t=true:=by kernel_rfl)(l:bP P (execOp (ev Γ) (av ops i)) a=some (.value v,kA b o a.length):=by kernel_rfl):EG ⟨[],none⟩ P n N R X ops k0 hr AL L Γ w h :=
 Rg.load i t v (gy f).1 (gy f).2 (fun _ p=>s.rowrun j e (oT k) d p.ext l) H
end laws
theorem FS (x y:Int):(if y>x then y else x)=max x y:=by omega
theorem eF (x y:Int):(if y<x then y else x)=min x y:=by omega
section z
variable {bs:List Nat}{P:Program}{n:Nat}{N R:Po}{X:Nat->Po}{ops:Array Oper}{k0:Nat}{hr:Hp}{AL:List Al}{L:Array Bool}{Γ:ck}{w wr:World}{h:Hp}{w0:World}{h0:Hp}{B:List Bx}{Rs:List Rw}{F F1:List (Hp->Prop)}
abbrev Mz (hr:Hp)(bs:List Nat):Ms:=⟨[],some (hr.size,bs)⟩
theorem xK {id:Nat}{d:Bool}(k0:Nat)(AL:List Al)(bs:List Nat)(c:P.follows .mixedOrders=true)(s:SS w0 h0 w h B Rs F)(b:∀ x∈AL,AlOk P ops k0 x)(H:EG (Mz h bs) P n N R X ops k0 h AL (pa ops.size false) Γ w h)(a:kv ops=true:=by kernel_rfl):CG P n N R X (.region id ops d) Γ w :=
 CG.region (Mz h bs) k0 AL c a s.g b (fun _ e=>by cases e) H
theorem Hc (c:SS w0 h0 wr hr B Rs F1)(s:SS w0 h0 w h B Rs F){w':World}(d:∀ b,b<hr.size->b ∉ bs->b ∉ ([]:List Nat)->w'.heap[b]?=w.heap[b]?):∀ x∈B,x.b ∉ bs->Own w' x.b x.t x.vs:=fun x a e =>
 (d x.b (aI (c.st.jk x a)) e List.not_mem_nil).trans (s.st.own x a)
theorem uA (i t:Nat)(ps:List (Nat × Nat × Nat))(v:Value)(d:SS w0 h0 wr hr B Rs F1)(s:SS w0 h0 w h B Rs F)(H:EG (Mz hr bs) P n N R X ops k0 hr AL (L.setIfInBounds i true) ((t,v)::Γ) w h)(hM:∀ p∈ps,(aD B p.1).b ∉ bs:=by intro _ _;exact List.not_mem_nil)(a:cE n ops k0 AL L Γ i t=true:=by kernel_rfl)(c:bR B ps=true:=by kernel_rfl)(f:bP P (execOp (ev Γ) (av ops i)) (cf B ps)=some (.value v,bO B ps):=by kernel_rfl):EG (Mz hr bs) P n N R X ops k0 hr AL L Γ w h :=
 Rg.loadZ i t v rfl (jY a).1 (jY a).2 (fun w' e=>bH _ _ _ _ f (eL hM (Hc d s e) ps (fun _ h=>h) c)) H
theorem Ib {x y:Al}(I:SS w0 h0 wr hr B Rs F)(s:SS w0 h0 w h B Rs F)(t:TypeId)(vs:List Value)(z:TypeId)(a:List Value)(H:∀ w' p b c,hr.size<=b->hr.size<=c->SS w0 h0 w' p (⟨b,t,vs⟩::⟨c,z,a⟩::B) Rs F->AG (Mz hr bs) P n N R X ops k0 ((L.setIfInBounds y.i true).setIfInBounds x.i true) ((x.t,.pointer (some ⟨b,0,none⟩))::(y.t,.pointer (some ⟨c,0,none⟩))::Γ) w')(J:(fq ops [x,y] L && decide (x.t<n) && decide (y.t<n) && (x.t != y.t) && (x.i != y.i))=true:=by kernel_rfl)(M:x.o=.cells vs.toArray t (0,0):=by kernel_rfl)(l:y.o=.cells a.toArray z (0,0):=by kernel_rfl):EG (Mz hr bs) P n N R X ops k0 hr [x,y] L Γ w h :=
 Rg.fin2 J (fun w' p b c u k k2 C=>H w' p b c k.2.2 k2.2.2 ⟨s.g0,St.new2 I.st (s.st.step u) k k2 C t vs M z a l,fun r j=>(((s.step u).ro r j).new c (fun d D e=>by
  have h1:=(I.ro r j).lt D;have K:hr.size<=c:=k2.2.2
  omega)).new b (fun d D e=>by
  have h1:=(I.ro r j).lt D;have K:hr.size<=b:=k.2.2
  omega),s.ap,s.mo,(s.step u).f⟩)
theorem sQ {b:Nat}(c:hr.size<=b):∀ K a,(Mz hr bs).z=some (K,a)->K<=b\/b∈a:=fun K a e=>by
 injection e with e
 injection e with e1 e2
 subst e1;exact .inl c
theorem cO {b:Nat}(c:b∈bs):∀ K a,(Mz hr bs).z=some (K,a)->K<=b\/b∈a:=fun K a e=>by
 injection e with e
 injection e with e1 e2
 subst e2;exact .inr c
end z
theorem hJ {α:Type}{f:α->List Value}{sz:Nat}(hf:∀ x,(f x).length=sz)(d:α)(l:List α)(k:Nat)(a:k<l.length):((l.flatMap f).drop (0+k*sz)).take (f (l.getD k d)).length=f (l.getD k d):=by
 rw[tv,hf];exact eW hf d l k a
section row
variable {P:Program}{n:Nat}{N R:Po}{X:Nat->Po}{ops:Array Oper}{k:Nat}{Γ:ck}{w:World}{h:Hp}{w0:World}{h0:Hp}{B:List Bx}{Rs:List Rw}{F:List (Hp->Prop)}
theorem Hk {α:Type}(j e a:Nat)(i:List Value)(l:List α)(f:α->List Value)(sz:Nat)(d x:α){ty:TypeId}{c b:Nat}(s:SS w0 h0 w h B Rs F)(u:e<l.length)(H:∀ w',SS w0 h0 w' h B (Rs.set j ⟨ty,sz,some ⟨b,0,none⟩,c,l.length,(l.set e x).flatMap f⟩) F->LG P n N R X ops (k+1) Γ w')
  (I:cj (f (l.getD e d)) a i=f x:=by rfl)(hf:∀ x,(f x).length=sz:=by intro _;rfl)(J:Nat.ble (a+i.length) sz=true:=by kernel_rfl)(p:Rs.getD j default=⟨ty,sz,some ⟨b,0,none⟩,c,l.length,l.flatMap f⟩:=by kernel_rfl)(C:decide (j<Rs.length)=true:=by kernel_rfl)(z:cS ops Γ k=true:=by kernel_rfl)
  (D:dw P (execOp (ev Γ) (av ops k))=some (.skip,ml b (0+e*sz+a) i):=by kernel_rfl):LG P n N R X ops k Γ w:=by
 have o:=Nat.le_of_ble_eq_true J;refine Iy j (0+e*sz+a) i s ?_ (fun w' y=>H w' ?_) p C z D
 ·rw[da hf,tv]
  have:(e+1)*sz<=l.length*sz:=ua _ u;rw[I4,I6] at this
  omega
 ·rw[tv,k7 hf d l e x u o I] at y
  exact y
end row
theorem pA {P:Program}(w:World)(t ty e:TypeId)(i:TypeInfo)(z:Value)(d:P.underlying t=some (.slice e))(hi:P.info? e=some i)(hz:i.zero=some z)(f a:Addr)(m c:Nat)(news:List Value)(h:news.length=m*i.size)(b:∀ j u,news[j]?=some u->w.cell? (a.add j)=some u)(o:0<m)(l:m<=1099511627776)(k:m*i.bytes<=140737488355328) :
  (Builtin.append_ #[t,t] ty #[.slice (some f) 0 0,.slice (some a) m c]).run P w=(Builtin.append_ #[t,t] ty #[.slice none 0 0,.slice (some a) m c]).run P w:=by
 rw[run_append_grow (P:=P) w t ty e i z d hi hz f 0 0 [] (by simp) (by simp) a m c news h b oM oM (growslice_fits oM (by simpa using k)),
  run_append_nil (P:=P) w t ty e i z d hi hz a m c news h b oM oM oM]
 simp
section app
variable {M:Ms}{P:Program}{n:Nat}{N R:Po}{X:Nat->Po}{ops:Array Oper}{k k0:Nat}{hr:Hp}{AL:List Al}{L:Array Bool}{Γ:ck}{w:World}{h:Hp}{w0:World}{h0:Hp}{B:List Bx}{Rs:List Rw}{F:List (Hp->Prop)}
theorem uO {o:Oper}{x y:Operand}{t e:TypeId}{z:Value}{sz p m2 c:Nat}{news:List Value}{H a:Addr}(S:o.op=.call { callee:=.builtin .append,args:=#[x,y],argTypes:=#[t,t] })
    (O:ev Γ x=.slice (some H) 0 0)(L:ev Γ y=.slice (some a) m2 c)(hu:P.underlying t=some (.slice e))(hi:(P.info? e).map (fun i=>(i.zero,i.size,i.bytes))=some (some z,sz,p))(C:z.cells.size=sz)(k:0<sz)
    (s:St w0 h0 w h B)(K:news.length=m2*sz)(d:∀ j u,news[j]?=some u->w.cell? (a.add j)=some u)(h1:∀ u∈news,u.oneCell'=true)(l:0<m2)
    (V:m2<=1099511627776)(I:m2*p<=140737488355328) :
    ∃ v' w',(execOp (ev Γ) o).run P w=.ok (.value v') w'/\w'.ownsRow h0.size e sz v' (0+m2) ([]++news)/\w.grownBy w' (Value.slice none 0 0).ownBlock/\(v'.ownBlock=(Value.slice none 0 0).ownBlock\/v'.ownBlock=some w.heap.size):=by
  cases b:P.info? e with
  | none=>rw[b] at hi;cases hi
  | some inf =>
    rw[b] at hi
    simp only[pv,Option.some.injEq,Prod.mk.injEq] at hi
    obtain ⟨D,J,F⟩:=hi;obtain ⟨v',w',f,M,Q,W,U⟩:=run_append_own_at (P:=P) w h0.size t o.type e inf z sz p hu b D J F C k (.slice none 0 0) 0 [] (World.ownsRow_nil _ _ _ _) a m2 c news K d h1 (by unfold maxLen;omega) (by rw[tv];exact I) (by rw[s.g.size];exact s.sz);refine ⟨v',w',?_,M,Q,U⟩;rw[<-pA (P:=P) w t o.type e inf z hu b D H a m2 c news (by rw[J];exact K) d l V (by rw[F];exact I)] at f
    unfold execOp
    simp only[S,resolve,invoke,builtin,Sem.run_bind,Sem.run_pure,Result.andThen_ok,JB,yh,JC,O,L,f]
theorem SS.appE (s:SS w0 h0 w h B Rs F){o:Oper}{ty:TypeId}{sz L c2 O:Nat}{z:Value}{α:Type}{f:α->List Value}{d:α}{J:Z9}{m:List α}(I:Ae P (ev Γ) o=some (.slice (some ⟨O,0,none⟩) 0 0,.slice J m.length c2,ty,z,sz,L))(so:SlO sz f d h J m)(i:0<m.length)(h1:∀ x∈m,(f x).all (·.oneCell')=true)(hf:∀ x,(f x).length=sz)(H:z.cells.size=sz)(b:0<sz)(Q:m.length<=1099511627776)(V:m.length*L<=140737488355328) :
  ∃ p c' w' l,(execOp (ev Γ) o).run P w=.ok (.value (.slice p m.length c')) w'/\Up w h w' l/\SS w0 h0 w' l B (⟨ty,sz,p,c',m.length,m.flatMap f⟩::Rs) F:=by
 rw[so.ok i] at I
 obtain ⟨Z,y,S,W,D,U,hu,hi⟩:=nK I
 obtain ⟨v',w',e,Y,a,k⟩:=uO (P:=P) W D U hu hi H b s.st (da hf m) (f5 s.g (so.flat hf)) (fun u hu=>by
  obtain ⟨x,C,D⟩:=Jx.1 hu;exact (i3.1 (h1 x C)) u D) i Q V
 obtain ⟨l,p,c',rfl,X,K⟩:=(s.nil ty sz).grown (j:=0) (by simp) (w':=w') (v':=v') (m2:=m.length) (news:=m.flatMap f) Y a k;refine ⟨p,c',w',l,?_,⟨⟨a.os,a.tape,a.output,a.size,fun c M=>a.block c M (by simp[Value.ownBlock])⟩,X,K.g⟩,?_⟩
 ·rw[e];simp
 ·simpa using K
theorem IT {α:Type}(t:Nat)(ty:TypeId)(sz:Nat)(f:α->List Value)(d:α)(u:Nat)(o:Z9)(m:List α)(c2 p:Nat)(z:Value)(s:SS w0 h0 w h B Rs F)(so:SlO sz f d h o m)(i:0<m.length)(h1:∀ x∈m,(f x).all (·.oneCell')=true)
  (H:∀ c c' w' e,SS w0 h0 w' e B (⟨ty,sz,c,c',m.length,m.flatMap f⟩::Rs) F->LG P n N R X ops (k+1) ((t,.slice c m.length c')::Γ) w')
  (l:cL ops Γ k t n=true:=by kernel_rfl)(C:Ae P (ev Γ) (av ops k)=some (.slice (some ⟨u,0,none⟩) 0 0,.slice o m.length c2,ty,z,sz,p):=by kernel_rfl)(hf:∀ x,(f x).length=sz:=by intro _;rfl)(j:z.cells.size=sz:=by kernel_rfl)(a:0<sz:=by decide)(I:m.length<=1099511627776:=by omega)(y:m.length*p<=140737488355328:=by omega):LG P n N R X ops k Γ w:=by
 obtain ⟨c,c',w',e,b,_,D⟩:=s.appE (P:=P) C so i h1 hf j a I y;exact LG.val t _ w' (bS l).1 (bS l).2 b (H c c' w' e D)
end app
def aW (x:Nat):List Value:=[.int .u32 (x:Nat)]
abbrev S3 (A:Z9)(l:List Nat):Hp->Prop:=fun h_=>SlO 1 aW 0 h_ A l
theorem mU:∀ f n:Nat,oV f n=oZ 4294967296 f n
  | 0,_=>rfl
  | f+1,n=>by
    unfold oV oZ
    split
    . rfl
    . rw[mU f]
theorem sj (n:Nat):lim n=f7 4294967296 n:=mU n n
def Ld (l:List Nat):Prop:=Dg 4294967296 l
theorem Ld.lim (n:Nat):Ld (lim n):=fun x a=>qt n x a
theorem Ld.get {l:List Nat}(h:Ld l)(k:Nat):l.getD k 0<4294967296:=Dg.getD h kD k
theorem Ld.set {l:List Nat}(h:Ld l)(k:Nat){x:Nat}(a:x<4294967296):Ld (l.set k x):=Dg.set h k a
theorem Ld.rep (n:Nat):Ld (um n 0):=Dg.rep kD
theorem cu (n:Nat):am 4294967296 (lim n)=n:=by rw[<-jP];exact gH n
theorem qE {l:List Nat}(h:Ld l){n:Nat}(e:am 4294967296 l=n):lim n=l.take (tl l l.length):=by
 rw[<-e,<-jP];exact wN h
theorem lZ {l:List Nat}(h:Ld l){n:Nat}(e:am 4294967296 l=n):(lim n).length=tl l l.length:=by
 rw[qE h e,Ab];have:=fX l l.length;omega
theorem cI (n:Nat):n<4294967296^(lim n).length:=by rw[sj];exact iO kD n
theorem dh {a b:Nat}(h:a<=b):(lim a).length<=(lim b).length:=dt (zz h (cI b))
theorem j5 {a b k:Nat}(h:a<=b)(c:(lim b).length<=k):(lim a).length<=k:=ed (dh h) c
theorem kg {a b k:Nat}(ha:(lim a).length<=k)(c:(lim b).length<=k):(lim (a+b)).length<=k+1:=by
 refine dt ?_;have h1:=cI a;have d:=cI b;have f:4294967296^(lim a).length<=4294967296^k:=A4 kD ha;have e:4294967296^(lim b).length<=4294967296^k:=A4 kD c;rw[z1]
 omega
theorem oB {a b:Nat}:(lim (a*b)).length<=(lim a).length+(lim b).length:=by
 refine dt ?_;rw[A7];exact Nat.mul_lt_mul'' (cI a) (cI b)
theorem rB (n:Nat):(lim n).length<=2*(wds n).length:=by
 refine dt ?_;have:=fk n
 rwa [show (18446744073709551616:Nat)=4294967296^2 by rfl,<-Bs] at this
theorem fF {a b:Nat}(h:(lim a).length<(lim b).length):a<b:=by
 rcases co a b with hl|hl
 ·exact hl
 ·have:=dh hl;omega
theorem Be {a b:Nat}(h:lim a=lim b):a=b:=by rw[<-gH a,<-gH b,h]
theorem gp {a b k:Nat}(d:(lim a).length=(lim b).length)(h:k<(lim a).length)(i:(lim a).drop (k+1)=(lim b).drop (k+1))(c:(lim a).getD k 0<(lim b).getD k 0):a<b:=by
 have e:=bX 4294967296 (l:=lim a) (k:=k+1) oM;have j:=bX 4294967296 (l:=lim b) (k:=k+1) oM;rw[cu] at e j
 rw[i] at e
 have p:=aJ 4294967296 (l:=lim a) (k:=k) h;have o:=aJ 4294967296 (l:=lim b) (k:=k) oM;have f:=bW (Dg.take (Ld.lim a) k);rw[Ab,Am oM] at f
 have u:4294967296^k*(lim a).getD k 0+4294967296^k<=4294967296^k*(lim b).getD k 0:=by
  rw[<-Jd];exact A8 _ c
 omega
def RN (h:Hp)(v:Value)(n:Nat):Prop:=Hz 1 aW 0 h v (lim n)
def RI (h:Hp)(v:Value)(z:Int):Prop:=∃ A c,v=.agg #[.bool (au z),.slice A (lim (ab z)).length c]/\(lim (ab z)).length<=c/\SlO 1 aW 0 h A (lim (ab z))
def RP (h:Hp)(v:Value)(z:Int)(n:Nat):Prop:=∃ A c B d,v=.agg #[.bool (au z),.slice A (lim (ab z)).length c,.slice B (lim n).length d]/\(lim (ab z)).length<=c/\(lim n).length<=d/\SlO 1 aW 0 h A (lim (ab z))/\SlO 1 aW 0 h B (lim n)
def RQ (h:Hp)(v:Value)(q:Rat):Prop:=RP h v q.num q.den
theorem RP.gw {h a:Hp}{v:Value}{z:Int}{n:Nat}(r:RP h v z n)(u:Gw h a):RP a v z n:=by
 obtain ⟨A,c,B,d,h1,b,i,f,e⟩:=r;exact ⟨A,c,B,d,h1,b,i,f.gw u,e.gw u⟩
theorem RN.trim {h:Hp}{A:Z9}{l:List Nat}{n m cap:Nat}(a:Ld l)(e:am 4294967296 l=n)(c:l.length=m)(d:m<=cap)(s:SlO 1 aW 0 h A l):RN h (.slice A (tl l m) cap) n:=by
 subst c;have b:=lZ a e;have:=fX l l.length;refine ⟨A,cap,by rw[b],by omega,?_⟩;rw[qE a e];exact s.take _
theorem p9 {h:Hp}{p b:Bool}{n cap:Nat}{A:Z9}(d:b=(p && decide (0<n)))(c:(lim n).length<=cap)(a:SlO 1 aW 0 h A (lim n)):RI h (.agg #[.bool b,.slice A (lim n).length cap]) (bE p n):=by
 subst d;refine ⟨A,cap,?_,?_,?_⟩
 ·rw[jq,cd]
 ·rw[cd];exact c
 ·rw[cd];exact a
theorem Cl {l:List Nat}{m:Nat}(h:0<m)(h0:l.getD (m-1) 0=0):tl l m=tl l (m-1):=by
 obtain ⟨k,rfl⟩:∃ k,m=k+1:=⟨m-1,by omega⟩;rw[kF,if_pos (by simpa using h0)];rfl
theorem vo {b:Nat}{z:List Nat}{i c c' s t X:Nat}(hi:i<z.length)(h0:z.getD i 0=0)(d:am b z+b^i*c=X)(e:s+b*c'=c+t):am b (z.set i s)+b^(i+1)*c'=X+b^i*t:=by
 have h1:=ct b s hi;rw[h0,Ao,sw] at h1
 have a:=congrArg (b^i * ·) e
 simp only[z7] at a
 rw[z1,z8,h1]
 omega
theorem tf {b:Nat}{z:List Nat}{c v:Nat}(a:am b z+b^z.length*c=v)(h:v<b^z.length):am b z=v:=by
 rcases yz c with hc|hc
 ·subst hc;rw[Ao,sw] at a;exact a
 ·have:b^z.length*1<=b^z.length*c:=A8 _ hc
  omega
theorem pY {l:List Nat}{k x:Nat}(a:k<l.length)(h:∀ i,k<=i->l.getD i 0=0):∀ i,k+1<=i->(l.set k x).getD i 0=0:=fun i hi=>by rw[bB a,if_neg oM];exact h i oM
theorem xb {b:Nat}{z:List Nat}{x y c:Nat}(e:Dg b z)(a:am b z+y=x+b^z.length*c)(d:y<=x):am b z=x-y:=by
 have h1:=bW e
 rcases yz c with hc|hc
 ·subst hc;rw[Ao,sw] at a;omega
 ·have:b^z.length*1<=b^z.length*c:=A8 _ hc
  omega
theorem Ce {b:Nat}{z y x:List Nat}{i c c' s:Nat}(hi:i<z.length)(h0:z.getD i 0=0)(d:am b z+am b (y.take i)=am b (x.take i)+b^i*c)(e:s+y.getD i 0+c=x.getD i 0+b*c') :
  am b (z.set i s)+am b (y.take (i+1))=am b (x.take (i+1))+b^(i+1)*c':=by
 have h1:=ct b s hi;rw[h0,Ao,sw] at h1
 have a:=congrArg (b^i * ·) e
 simp only[z7] at a
 rw[aT,aT,z1,z8,h1]
 omega
theorem wU {x y c t:Nat}(d:x<4294967296)(e:y<4294967296)(b:c<=1)(a:t=((x+(18446744073709551616-y))%18446744073709551616+(18446744073709551616-c))%18446744073709551616):t%4294967296+y+c=x+4294967296*(t/9223372036854775808)/\t/9223372036854775808<=1:=by
 subst a
 omega
theorem qu {r x:Nat}(a:x<4294967296):r*4294967296 ||| x=r*4294967296+x:=by
 have:=Jc (i:=32) (b:=x) oM r;rw[z2];exact this.symm
theorem tG {r x d:Nat}(a:0<d)(hr:r<d)(c:x<4294967296)(b:d<4294967296) :
  (r*4294967296+x)/d%4294967296=(r*4294967296+x)/d/\r*4294967296+x=d*((r*4294967296+x)/d)+(r*4294967296+x)%d/\(r*4294967296+x)%d<d:=by
 refine ⟨u9 ?_,(I7 _ _).symm,va _ a⟩;rw[Ji a];have h1:(r+1)*4294967296<=d*4294967296:=ua _ hr;rw[z2]
 omega
theorem x9 {b:Nat}{l z:List Nat}{m d r f q X:Nat}(o:0<m)(j:m-1<z.length)(h0:z.getD (m-1) 0=0)(a:X=d*am b z+(b^m*r+am b (l.take m)))(e:r*b+l.getD (m-1) 0=d*q+f) :
  X=d*am b (z.set (m-1) q)+(b^(m-1)*f+am b (l.take (m-1))):=by
 obtain ⟨k,rfl⟩:∃ k,m=k+1:=⟨m-1,by omega⟩;rw[Jj] at *
 have h1:=ct b q j;rw[h0,Ao,sw] at h1
 have c:=congrArg (b^k * ·) e
 simp only[z7] at c
 rw[a,h1,aT,z1,z7];have h:b^k*(r*b)=b^k*b*r:=by rw[z2 r b,z8]
 have i:b^k*(d*q)=d*(b^k*q):=by ac_rfl
 rw[h,i] at c
 omega
theorem wo (k:Nat):(2:Nat)^k=4294967296^(k/32)*2^(k%32):=by
 have:k=32*(k/32)+k%32:=by omega
 conv=>lhs;rw[this,A7,Bs]
theorem G0 {x p c:Nat}(d:p<32)(e:x<4294967296)(a:c<2^p) :
  (c ||| x*2^p%18446744073709551616)=c+x*2^p/\c+x*2^p<18446744073709551616/\(c+x*2^p)/4294967296<2^p:=by
 have h0:2^p<=2^31:=A4 kD oM;have h1:x*2^p<=4294967295*2^p:=ua _ oM;have b:x*2^p<18446744073709551616:=by omega
 refine ⟨?_,by omega,?_⟩
 ·rw[u9 b];exact fQ p a
 ·rw[Ji kD];omega
theorem xJ {b:Nat}{l:List Nat}{i c P Q s x:Nat}{a:List Nat}(o:0<b)(d:am b l+b^l.length*c=b^Q*(P*am b (a.take i)))(h:l.length=Q+i)(e:s=c+x*P)(f:x=a.getD i 0) :
  am b (l++[s%b])+b^(l++[s%b]).length*(s/b)=b^Q*(P*am b (a.take (i+1))):=by
 have k:b^l.length*s=b^l.length*(s%b)+b^l.length*(b*(s/b)):=by rw[<-z7,Jq]
 have j:b^l.length*s=b^l.length*c+b^Q*(P*(b^i*x)):=by
  rw[e,z7,h,A7]
  congr 1
  ac_rfl
 rw[cA,s6,aT,<-f,z7 P,z7 (b^Q),<-d]
 show _+b^l.length*(s%b+b*0)+b^(l.length+1)*_=_
 rw[Ao,sw,z1,z8]
 omega
theorem Ld.app {l:List Nat}(h:Ld l){x:Nat}(a:x<4294967296):Ld (l++[x]):=Dg.append h (Dg.one a)
theorem t7 {a n q m p:Nat}(h:a<4294967296^n)(b:p<=32)(d:m=q+(n+1)):a*(4294967296^q*2^p)<4294967296^m:=by
 have h1:(2:Nat)^p<=4294967296:=ed (A4 kD b) (eb (2^32));subst d;rw[A7,z1];have c:a*2^p<4294967296^n*4294967296:=ep (Jm h (A0 p)) (A8 _ h1);have e:a*(4294967296^q*2^p)=4294967296^q*(a*2^p):=by ac_rfl
 rw[e];exact I0 c (F2 kD)
theorem GZ {x y p:Nat}(k:p<32)(l:x<4294967296)(o:y<4294967296) :
  (x ||| y*4294967296%18446744073709551616)=x+y*4294967296/\x+y*4294967296<18446744073709551616 /\
  2^p*((x+y*4294967296)/2^p%4294967296)+x%2^p=x+4294967296*(y%2^p):=by
 have h0:2^p*2^(32-p)=4294967296:=by rw[<-A7,show p+(32-p)=32 by omega]
 have b:=A0 p;refine ⟨?_,by omega,?_⟩
 ·rw[u9 oM]
  exact fQ 32 oM
 ·-- y=2^p*y1+y0
  have h:=I7 y (2^p);have f:=I7 x (2^p)
  generalize y/2^p=y1 at *
  generalize hy0:y%2^p=y0 at *
  generalize hxq:x/2^p=x1 at *
  generalize hx0:x%2^p=x0 at *
  have d:x0<2^p:=by rw[<-hx0];exact va _ b
  have c:y0<2^p:=by rw[<-hy0];exact va _ b
  have i:x1<2^(32-p):=by
   refine Jv (a:=2^p) ?_
   omega
  have e:x+y*4294967296=2^p*(x1+2^(32-p)*(2^p*y1+y0))+x0:=by
   rw[<-f,<-h,z7,<-z8 (2^p) (2^(32-p)),h0]
   generalize 2^p*y1+y0=Y
   omega
  rw[e,Jt b,zY d,sw]
  have j:x1+2^(32-p)*(2^p*y1+y0)=(x1+2^(32-p)*y0)+4294967296*y1:=by
   rw[z7,<-z8,z2 (2^(32-p)) (2^p),h0];omega
  have u:2^(32-p)*y0+2^(32-p)<=4294967296:=by
   have:2^(32-p)*(y0+1)<=2^(32-p)*2^p:=A8 _ c;rw[z2 (2^(32-p)) (2^p),h0,z7] at this
   omega
  rw[j,Ju,u9 oM,z7,<-z8,h0]
  omega
theorem DA {b:Nat}{l X:List Nat}{j P d a:Nat}(k:l.length=j)(o:P*am b l+a=am b (X.take j)+b^j*(X.getD j 0%P))(i:P*d+X.getD j 0%P=X.getD j 0+b*(X.getD (j+1) 0%P)) :
  P*am b (l++[d])+a=am b (X.take (j+1))+b^(j+1)*(X.getD (j+1) 0%P):=by
 have f:am b (l++[d])=am b l+b^j*d:=by
  rw[cA,k];show _+b^j*(d+b*0)=_;rw[Ao,sw]
 have e:=congrArg (b^j * ·) i
 simp only[z7] at e
 rw[f,aT,z1,z7];have h:P*(b^j*d)=b^j*(P*d):=by ac_rfl
 have c:b^j*b*(X.getD (j+1) 0%P)=b^j*(b*(X.getD (j+1) 0%P)):=by ac_rfl
 rw[h,c]
 omega
theorem Dt {a k:Nat}{l:List Nat}(i:(lim a).length<=k/32+l.length)(b:2^(k%32)*am 4294967296 l+((lim a).drop (k/32)).getD 0 0%2^(k%32)=am 4294967296 (((lim a).drop (k/32)).take l.length)+4294967296^l.length*(((lim a).drop (k/32)).getD l.length 0%2^(k%32))):am 4294967296 l=a/2^k:=by
 have c:((lim a).drop (k/32)).length<=l.length:=by rw[I9];omega
 rw[I5 c,cP c,Js,Ao,sw] at b
 have d:am 4294967296 ((lim a).drop (k/32))=a/4294967296^(k/32):=by
  rcases co (lim a).length (k/32) with h|h
  ·rw[Jy oM,zY]
   ·rfl
   ·exact ep (cI a) (A4 kD oM)
  ·have e:=bX 4294967296 (l:=lim a) (k:=k/32) h
   rw[cu] at e
   have h1:=bW (Dg.take (Ld.lim a) (k/32));rw[Ab,Am h] at h1
   have f:a/4294967296^(k/32)=(am 4294967296 ((lim a).take (k/32))+4294967296^(k/32)*am 4294967296 ((lim a).drop (k/32)))/4294967296^(k/32):=by rw[<-e]
   rw[f,I3 _ _ (F2 kD),zY h1,tv]
 rw[wo k,<-H1,<-d,<-b,Jt (A0 _),zY (va _ (A0 _)),sw]
section bld
variable {P:Program}{n:Nat}{N R:Po}{X:Nat->Po}{ops:Array Oper}{k:Nat}{Γ:ck}{w0:World}{h0:Hp}{B:List Bx}{Rs:List Rw}{F:List (Hp->Prop)}{wB:World}{hB:Hp}
theorem SS.liftJ (s:SS w0 h0 wB hB B Rs F){w:World}(x:Ext wB w):∃ c,SS w0 h0 w c B Rs F/\∀ b,wB.heap.size<=b->b<w.heap.size->c[b]?=some junk:=by
 have f:=x.size;have h:=s.g.size;refine ⟨hB++pa (w.heap.size-wB.heap.size) junk,s.step ⟨x,⟨by simp,fun b a=>et a⟩,⟨by simp;omega,fun b=>?_⟩⟩,fun b h1 d=>?_⟩
 ·rcases co b hB.size with a|a
  ·rw[et a]
   have e:=Below.block x b oM
   rcases s.g.blk b with h1|h1
   ·exact .inl (h1.trans e.symm)
   ·exact .inr h1
  ·rw[ey a,wl]
   by_cases hl:b<w.heap.size
   ·right;rw[if_pos oM]
   ·left;rw[if_neg oM,ea oM]
 ·rw[ey oM,wl,if_pos oM]
theorem HH (t:Nat)(ty:TypeId)(vs:List Value){w:World}{h:Hp}(s:SS w0 h0 w h B Rs F)(H:∀ w',Ext w w'->w.heap.size<=w'.heap.size->w'.heap[w.heap.size]?=some (.cells vs.toArray ty (0,0))->LG P n N R X ops (k+1) ((t,.pointer (some ⟨w.heap.size,0,none⟩))::Γ) w')(a:cL ops Γ k t n=true:=by kernel_rfl)
  (hr:(execOp (ev Γ) (av ops k)).run P w=.ok (.value (.pointer (some ⟨w.heap.size,0,none⟩))) (w.alloc (.cells vs.toArray ty (0,0))):=by kernel_rfl):LG P n N R X ops k Γ w :=
 LG.val t _ (w.alloc (.cells vs.toArray ty (0,0))) (bS a).1 (bS a).2 hr (H _ ((Ext.refl _).alloc _) (by rw[dq];simp) (by rw[dq];simp))
theorem Au (t:Nat){f:FuncId}{args:Array Value}{V:Value}{Q:World->Prop}{w:World}(s:SS w0 h0 wB hB B Rs F)(x:Ext wB w)(c:Calls P f args w fun e w'=>e=.returned V/\(Q w'/\Below wB.heap.size w w'))(H:∀ w' a,SS w0 h0 w' a B Rs F->Ext wB w'->Q w'->LG P n N R X ops (k+1) ((t,V)::Γ) w')(d:cL ops Γ k t n=true:=by kernel_rfl)
  (hr:(execOp (ev Γ) (av ops k)).run P w=.ok (.enter f args) w:=by kernel_rfl):LG P n N R X ops k Γ w :=
 LG.call t f args (bS d).1 (bS d).2 hr (c.mono fun e w' ⟨i,q,b⟩=>by
  have h:Ext wB w':=Below.trans x b;obtain ⟨a,j,_⟩:=s.liftJ h;exact ⟨V,i,H w' a j h q⟩)
def Ck (a b:Nat):List Nat:=(List.range b).filter (fun c=>decide (a<=c))
theorem kU {a b c:Nat}:c∈Ck a b↔a<=c/\c<b:=by
 unfold Ck;rw[List.mem_filter,l4];simp;omega
theorem A.takeK {M:Ms}{Q:Exit->Act->World->Prop}{k0:Nat}{L:Array Bool}{a:Act}{w:World}{i:Nat}{o:Oper}{v:Value}{S:World->Prop}
  (hi:ops[i]?=some o)(x:i<k0)(d:Region.noSelect ops=true)(hf:Region.free .any ops L i=true)(hr:i∈Region.ready .any ops L)(z:∀ c a w,¬Q (.panic c) a w)
  (h:∀ w w',S w->Mo M.l w w'->S w')(C:S w)(B:YieldsIf P ops S o v a)
  (b:(∀ w,S w)\/(∀ w w',S w->Tl M w w'->S w')\/∀ j f,ops[j]?=some f->k0<=j->j≠i->∃ e∈f.after,Region.binds .any e=true/\e.on=i)
  (H:A M P ops Q k0 (L.setIfInBounds i true) (a.put o.dst v) w):A M P ops Q k0 L a w:=by
 unfold A at *
 rw[d6 hr]
 exact lf hi (Region.noSelect_spec d) (fun c a w u=>absurd u (z _ _ _)) h _ _ _ _
  (fun j f y k p=>Region.free_spec hi hf j f y k p) b hr B C H x
variable {M:Ms}{k0:Nat}{L:Array Bool}{w:World}
theorem aV (i t:Nat)(v:Value)(H:AG M P n N R X ops k0 (L.setIfInBounds i true) ((t,v)::Γ) w)(f:cE n ops k0 [] L Γ i t=true:=by kernel_rfl)(hv:∀ w,(execOp (ev Γ) (av ops i)).run P w=.ok (.value v) w:=by intro _;kernel_rfl):AG M P n N R X ops k0 L Γ w:=by
 obtain ⟨b,h⟩:=jY f;rw[hN] at b
 have c:=dg b.1;intro a d;have j:=d.exec (Region.noSelect_spec c.sel i _ · · c.get) b.2;refine A.takeK (v:=v) (S:=fun _=>True) c.get c.lt c.sel c.free c.ready (fun _ _ _ e=>e) (fun _ _ _ _=>trivial) trivial (.inl ⟨d.want h,fun w _=>by rw[j];exact hv w⟩) (.inl fun _=>trivial) ?_;rw[c.dst];exact H _ (d.put c.tn v)
theorem aL (i t:Nat)(v:Value)(hr:∀ w',Mo M.l w w'->(execOp (ev Γ) (av ops i)).run P w'=.ok (.value v) w')(H:AG M P n N R X ops k0 (L.setIfInBounds i true) ((t,v)::Γ) w)(k:Ap n ops k0 [] L Γ i t=true:=by kernel_rfl):AG M P n N R X ops k0 L Γ w:=by
 obtain ⟨b,o⟩:=gy k;rw[hN,hN] at b
 obtain ⟨⟨d,f⟩,e⟩:=b;have c:=dg d;intro a h;have p:=h.exec (Region.noSelect_spec c.sel i _ · · c.get) f;refine A.takeK (v:=v) (S:=fun w'=>Mo M.l w w') c.get c.lt c.sel c.free c.ready (fun _ _ _ j=>j) (fun _ _ h1 u=>h1.trans u) (Mo.refl _ _) (.inl ⟨h.want o,fun w' x=>by rw[p];exact hr w' x⟩) (.inr (.inr (jw e))) ?_;rw[c.dst];exact H _ (h.put c.tn v)
theorem aH (i t:Nat)(v:Value){h:Hp}{b o:Nat}{cs:List Value}(s:SS w0 h0 w h B Rs F)(e:Seg h b o cs)(H:AG M P n N R X ops k0 (L.setIfInBounds i true) ((t,v)::Γ) w)(hM:∀ b∈M.l,h[b]?=some junk)(a:Ap n ops k0 [] L Γ i t=true:=by kernel_rfl)(d:bP P (execOp (ev Γ) (av ops i)) cs=some (.value v,kA b o cs.length):=by kernel_rfl):AG M P n N R X ops k0 L Γ w :=
 aL i t v (fun _ c=>Seg.runM e s.g hM c d) H a
def Hf (ops:Array Oper)(k0:Nat)(L:Array Bool)(i:Nat):Bool:=decide (i<ops.size) && decide (i<k0) && Region.noSelect ops && (Region.ready .any ops L == [i])
theorem aC (i t:Nat){f:FuncId}{args:Array Value}(c:Calls P f args w fun e w'=>∃ v,e=.returned v/\Mo M.l w w'/\AG M P n N R X ops k0 (L.setIfInBounds i true) ((t,v)::Γ) w')(h:(Hf ops k0 L i && ba Γ (av ops i) && ((av ops i).dst == some t) && decide (t<n))=true:=by kernel_rfl)(p:bu ops Γ (av ops i)=some true:=by kernel_rfl)
  (hr:(execOp (ev Γ) (av ops i)).run P w=.ok (.enter f args) w:=by kernel_rfl):AG M P n N R X ops k0 L Γ w:=by
 simp only[hN,decide_eq_true_eq,beq_iff_eq] at h
 obtain ⟨⟨⟨h1,x⟩,y⟩,u⟩:=h
 unfold Hf at h1
 simp only[hN,decide_eq_true_eq,beq_iff_eq] at h1
 have o:=bN (ops:=ops) h1.1.1.1;intro a b;refine A.intro (fun h0=>by rw[h1.2] at h0;cases h0) (fun j k=>?_);rw[h1.2,List.mem_singleton] at k
 subst k;refine OpR.wpOp (R:=fun v w'=>Mo M.l w w'/\AG M P n N R X ops k0 (L.setIfInBounds j true) ((t,v)::Γ) w') o ⟨b.want p,.inr (.inr ⟨f,args,?_,c⟩)⟩ (fun v w' d=>⟨Rl.mo h1.1.1.2 d.1,?_⟩)
 ·rw[b.exec (Region.noSelect_spec h1.1.2 j _ · · o) x];exact hr
 ·rw[y];exact d.2 _ (b.put u v)
theorem AU {id:Nat}(M:Ms)(k0:Nat)(b:P.follows .mixedOrders=true)(H:AG M P n N R X ops k0 (pa ops.size false) Γ w.drew):CG P n N R X (.region id ops true) Γ w:=by
 intro a c;refine wp_region_any b ?_;have h1:=H a c
 unfold A at h1
 rw[iG] at h1
 exact lU _ _ _ _ _ _ _ _ _ h1
theorem SS.drew {h:Hp}(s:SS w0 h0 w h B Rs F):SS w0 h0 w.drew h B Rs F:=s.step (Up.drew (Up.refl s.g))
theorem vG {K:Nat}{w w':World}(x:Below K w w'):Mo (Ck K w.heap.size) w w':=⟨x.os,x.tape,x.output,x.size,fun c b a=>by
 rcases co c K with h|h
 ·exact Below.block x c h
 ·exact absurd (kU.2 ⟨h,b⟩) a⟩
theorem rq {K:Nat}{T e:TypeId}{b:Nat}{bs:List Value}{w w1:World}(h:Lib.IsBuilder T e K b bs w)(x:Ext w w1):Lib.IsBuilder T e K b bs w1:=by
 have key:∀ p,Lib.BuilderAt T e K b p bs w->Lib.BuilderAt T e K b p bs w1:=by
  rintro p ⟨h1,v,a,f,j⟩
  have d:b<w.heap.size:=by
   rcases co b w.heap.size with h'|h'
   ·exact h'
   ·rw[ea h'] at a;cases a
  exact ⟨h1,v,(Below.block x b d).trans a,e7 f (fun c i=>Below.block x c (j0 f i)),j⟩
 rcases h with h|h
 ·exact .inl (key _ h)
 ·exact .inr (key _ h)
theorem aX (i t:Nat)(A:Z9)(len cap sz:Nat)(x:Int)(j:Nat)(b:A=some ⟨aB A,aO A,none⟩)(H:AG M P n N R X ops k0 (L.setIfInBounds i true) ((t,.pointer (some ⟨aB A,aO A+j*sz,none⟩))::Γ) w)(c:cE n ops k0 [] L Γ i t=true:=by kernel_rfl)(e:CB P (ev Γ) (av ops i)=some (.slice A len cap,.int .i64 x,sz):=by kernel_rfl)(d:x=j:=by omega)(a:j<len:=by omega):AG M P n N R X ops k0 L Γ w :=
 aV i t _ H c (fun w=>gi e b d a w)
theorem re {P:List UInt8}{x m:Nat}(a:m<8):Lib.byteCells (P++(b8 x).take m)++[.int .u8 ((x/2^(8*m)%256:Nat):Int)]=Lib.byteCells (P++(b8 x).take (m+1)):=by
 have e:(b8 x).take (m+1)=(b8 x).take m++[UInt8.ofNat (x/256^m)]:=by
  rw[List.take_add_one]
  congr 1
  unfold b8
  rw[Ja,Jb a];rfl
 rw[e,<-List.append_assoc]
 unfold Lib.byteCells
 rw[List.map_append (l₁:=P++_)]
 congr 1
 show _=[Value.int .u8 ((x/256^m%256:Nat):Int)]
 rw[Bs]
theorem uf {l:List Nat}{k:Nat}(a:k<l.length):((l.take k).flatMap b8)++(b8 (l.getD k 0)).take 8=(l.take (k+1)).flatMap b8:=by
 have e:(b8 (l.getD k 0)).take 8=b8 (l.getD k 0):=I5 (by rw[jJ];omega);rw[gR a,List.flatMap_append,e];simp
theorem tY {l:List Nat}{k m x:Nat}(c:k<=l.length)(b:m<=8)(a:l.length<=1099511627776):(Lib.byteCells ((l.take k).flatMap b8++(b8 x).take m)).length+1<=140737488355328:=by
 rw[Lib.byteCells_length,s6,mM,Ab,Ab,jJ];omega
theorem Bj {l:List Nat}(h:tl l l.length=0):Value.agg #[.int .u64 0,.string ⟨#[]⟩]=nv (aA l):=by
 have e:=ji 18446744073709551616 l l.length (eb _);rw[h,s1] at e
 have:aA l=0:=e.symm;rw[this];rfl
theorem DT {l:List Nat}(c:Wd l)(h:tl l l.length=1):Value.agg #[.int .u64 (l.getD 0 0:Nat),.string ⟨#[]⟩]=nv (aA l):=by
 have e:=ji 18446744073709551616 l l.length (eb _);have b:=fX l l.length;rw[h,s1,aT] at e
 have a:aA l=l.getD 0 0:=by show am _ l=_;rw[<-e];simp[am]
 rw[a];have:=c.get 0
 unfold nv
 rw[gZ this,lh this]
theorem Bq {l:List Nat}(b:Wd l)(h:0<tl l l.length):Value.agg #[.int .u64 (l.getD 0 0:Nat),.string ⟨(((l.drop 1).take (tl l l.length-1)).flatMap b8).toArray⟩]=nv (aA l):=by
 have e:=lc b;have a:((l.drop 1).take (tl l l.length-1))=(wds (aA l)).drop 1:=by rw[e,List.drop_take]
 unfold nv
 rw[F9 (n:=aA l) (by rw[a]),qD,e,iM h]
end bld
section
variable {P:Program}{Γ:ck}{o:Oper}
theorem dV {f:FuncId}{args:Array Value}{v:Value}{w:World}(h:(execOp (ev Γ) o).run P w=(callFunc f args).run P w)(k:(callFunc f args).run P w=.ok (.value v) w):(execOp (ev Γ) o).run P w=.ok (.value v) w:=h.trans k
end
theorem dM (x y c:Nat)(a:x<18446744073709551616)(d:y<18446744073709551616)(b:c<=1):∃ s c':Nat,s+18446744073709551616*c'=x+y+c/\s<18446744073709551616/\c'<=1/\∀ w,(callFunc 164 #[.int .u64 x,.int .u64 y,.int .u64 c]).run Tryz.prog w=.ok (.value (.tuple #[.int .u64 s,.int .u64 c'])) w:=by
 refine ⟨(x+y+c)%18446744073709551616,(x+y+c)/18446744073709551616,by omega,by omega,by omega,fun w=>?_⟩;rw[run_callFunc_extern Tryz.func164 kR kR kR (e:=add64Entry) kR,run_add64 x y c oM oM oM oM]
 simp only[Result.andThen]
 congr 5<;>omega
theorem oo (x y b:Nat)(d:x<18446744073709551616)(f:y<18446744073709551616)(c:b<=1):∃ s a:Nat,s+y+b=x+18446744073709551616*a/\s<18446744073709551616/\a<=1/\∀ w,(callFunc 245 #[.int .u64 x,.int .u64 y,.int .u64 b]).run Tryz.prog w=.ok (.value (.tuple #[.int .u64 s,.int .u64 a])) w:=by
 refine ⟨(x+18446744073709551616-y-b)%18446744073709551616,if x<y+b then 1 else 0,by split<;>omega,by omega,by split<;>omega,fun w=>?_⟩;rw[run_callFunc_extern Tryz.func245 kR kR kR (e:=sub64Entry) kR,run_sub64 x y b c]
 rfl
theorem Ret.of_same {f:FuncId}{args:Array Value}{V:Value}{P:Program}{w:World}{h:Hp}(g:G w h)(c:Calls P f args w fun e w'=>e=.returned V/\w'=w):Calls P f args w (Ret w h fun v _=>v=V) :=
 c.mono fun e w' ⟨b,a⟩=>by subst a;exact ⟨V,h,b,Up.refl g,rfl⟩
theorem l9 (x y:Nat)(b:x<18446744073709551616)(c:y<18446744073709551616)(w:World)(h:Hp)(g:G w h):CR 163 #[uV x,uV y] w h (fun v _=>∃ hi lo:Nat,v=.tuple #[uV hi,uV lo]/\lo+18446744073709551616*hi=x*y/\lo<18446744073709551616/\hi<18446744073709551616/\hi<=18446744073709551614):=by
 refine (Ret.of_same g (Tryz.bits_Mul64 x y b c w)).mono ?_;rintro e w' ⟨v,a,d,u,rfl⟩;have h1:x*y<=18446744073709551615*18446744073709551615:=Jo oM oM;exact ⟨_,a,d,u,x*y/18446744073709551616,x*y%18446744073709551616,rfl,by omega,by omega,by omega,by omega⟩
theorem jU {n:Nat}(h:n<18446744073709551616):Lib.bitLen n=nb n:=by
 rcases yz n with h0|h0
 ·subst h0;rfl
 ·obtain ⟨b,d,e⟩:=cl h0
  have a:nb n<=64:=jr (k:=64) h;have:=Lib.bitLen_shift (nb n-1) n b h
  have h1:n/2^(nb n-1)=1:=by
   have:n<2^(nb n-1)*2:=by rw[<-z1];rwa [show (nb n-1).succ=nb n by omega]
   refine Jk oM oM
  rw[h1] at this
  have c:Lib.bitLen 1=1:=by decide
  omega
theorem vZ (x:Nat)(a:x<18446744073709551616)(w:World)(h:Hp)(g:G w h):CV 129 #[uV x] w h (nV (nb x)):=by
 have:=Ret.of_same g (Tryz.bits_Len64 x w oM oM);rw[vb,jU a] at this
 exact this
theorem C5 (x:Nat)(a:x<18446744073709551616)(w:World)(h:Hp)(g:G w h):CV 173 #[uV x] w h (nV (64-nb x)):=by
 have:=Ret.of_same g (Tryz.bits_LeadingZeros64 x w oM oM);have b:nb x<=64:=jr (k:=64) a;rw[vb,jU a,show (64:Int)-(nb x:Nat)=((64-nb x:Nat):Int) by omega] at this
 exact this
theorem gN {a b:Nat}(ha:a<18446744073709551616)(d:b<18446744073709551616):a*b<=340282366920938463426481119284349108225:=by
 have h1:a<=18446744073709551615:=by omega
 have c:b<=18446744073709551615:=by omega
 exact Jo h1 c
theorem iI (A:Z9)(c:Nat)(l:List Nat)(m:Nat)(F:l.length=m)(D:l.length<=1099511627776)(z:l.length<=c)(w:World)(h:Hp)(g:G w h)(p:S3 A l h):CV 122 #[.slice A m c] w h (.slice A (tl l m) c):=by
 have a:=((sS g).aS p);refine go Tryz.func122 [(0,qS A m c)] rfl (aa a ac (aE (lL a [.c,.v (nV m),.c] (ai (kZ ?_)))));refine bG _ (CG.loop (fun k Γ y=>∃ (n:Nat)(h_:Hp),k=n/\Γ=[(0,qS A m c),(2,sZ),(3,nV n)]/\SS w h y h_ [] [] [S3 A l]/\n<=m/\tl l m=tl l n) _ ⟨m,h,rfl,rfl,a.to _ _,nR _,rfl⟩ ?_);rintro _ _ w1 ⟨n,u,o,rfl,a,C,j⟩;refine cQ (aa a ac ?_);cases d:(decide ((0:Int)<(n:Int)))
 .
  have e:=oF d;refine lB 7 d (lL a ac (lG 9 ?_));refine lG 10 (lG 11 (lG 12 (lG 13 (lG 14 (lL a [.v qF] (ah (CG.exit ?_)))))))
  show CG _ _ _ _ _ _ _ _
  refine aa a aF (lT 20 A m c 1 (n:Nat) n ?_);exact lL a ac (af a [] (qS A n c) (by rw[j,mD oM]))
 have e:=oT d;refine lB 7 d (lL a dx (bg 11 ((n:Nat)-1) (n-1) ?_));refine lX 12 A m c 1 (n-1:Nat) (n-1) ((a.f.1).ok oM) (lH 13 (mW (l.getD (n-1) 0)) a ((a.f.1).el (n-1) oM) ?_);cases b:(((l.getD (n-1) 0:Nat):Int) == (0:Int))
 .
  have i:=ao b;refine lB 14 b (lL a [.v qF] (ah (CG.exit ?_)))
  show CG _ _ _ _ _ _ _ _
  refine aa a aF (lT 20 A m c 1 (n:Nat) n ?_);exact lL a ac (af a [] (qS A n c) (by rw[j,mD oM]))
 have i:=eq_of_beq b;refine lB 14 b (lL a [.v qT] (ak (cK (kZ (kQ (lL a ac (bg 17 ((n:Nat)-1) (n-1) ?_)))))));refine lL a ac (lD ?_);intro B x;refine ⟨_,_,?_,⟨n-1,u,rfl,rfl,a.to _ _,oM,(by rw[j];exact Cl oM oM)⟩,x.to _ kR⟩
 omega
theorem uu {h:Hp}{A:Z9}{n cap:Nat}(b:n<18446744073709551616)(a:2<=cap)(s:SlO 1 aW 0 h A [n%4294967296,n/4294967296]):RN h (.slice A (tl [n%4294967296,n/4294967296] 2) cap) n :=
 RN.trim (Dg.cons oM (Dg.one oM)) (by simp only[am];omega) rfl a s
theorem ew (n:Nat)(c:n<18446744073709551616)(w:World)(h:Hp)(g:G w h):CR 137 #[mV n] w h (fun v h=>RN h v n):=by
 have a:=sS g;refine go Tryz.func137 [(0,mV n)] rfl (aa a ac (aE (lL a ac (lV 4 (mW (n%4294967296)) ?_ (hr:=rT ((n:Int)) kR (fY _))))));refine lL a ac (lV 6 (mV (n/4294967296)) ?_ (hr:=aN (n:=JD (n:Int) 4294967296) kR (dI _ 4294967296)));refine lV 7 (mW (n/4294967296)) ?_ (hr:=rT (((n/4294967296:Nat):Int)) kR (m8 oM oM));refine lR 8 158 2 ([mW (n%4294967296),mW (n/4294967296)]) a (fun b w2 j a=>?_);replace a:=a.aS (SlO.of_flat (sz:=1) (f:=aW) (d:=0) (l:=[(n%4294967296),(n/4294967296)]) (fun _=>rfl) a.f.1);exact aq 9 a (iI (sB b) 2 ([(n%4294967296),(n/4294967296)]) 2 (by first|rfl|omega|assumption) (by simp) (by simp) _ _ a.g a.f.1) (fun i e a=>lL a ac (af a [] (qS (sB b) (tl ([(n%4294967296),(n/4294967296)]) 2) 2) (uu c oM a.f.1)))
theorem HN (n:Nat)(A:Z9)(cap:Nat)(d:(lim n).length<=cap)(w:World)(h:Hp)(g:G w h)(b:S3 A (lim n) h):CR 94 #[.bool false,.slice A ((lim n).length) cap] w h (fun v h=>RI h v (bE false n)):=by
 have a:=((sS g).aS b);refine go Tryz.func94 [(0,qF),(1,qS A ((lim n).length) cap)] rfl (aG (lA 4 40 ([qF,sZ]) a (fun e w2 j a=>aE (lL a aF (lG 7 ?_)))));exact lG 8 (lG 9 (lL a [.v qF,.c,.v (.agg #[qF,qS A ((lim n).length) cap])] (lP 0 0 ([qF,qS A ((lim n).length) cap]) a (fun i a=>af a [(0,0,2)] (.agg #[qF,qS A ((lim n).length) cap]) (p9 rfl d a.f.1)))))
theorem Ii (n:Nat)(A:Z9)(cap:Nat)(e:(lim n).length<=cap)(w:World)(h:Hp)(g:G w h)(i:S3 A (lim n) h):CR 94 #[.bool true,.slice A ((lim n).length) cap] w h (fun v h=>RI h v (bE true n)):=by
 have a:=((sS g).aS i);have j:=@bI n;refine go Tryz.func94 [(0,qT),(1,qS A ((lim n).length) cap)] rfl (aG (lA 4 40 ([qF,sZ]) a (fun k w2 p a=>aE (lL a [.c,.c,.c,.v (nV ((lim n).length))] ?_))));cases b:(decide ((0:Int)<(((lim n).length:Nat):Int)))
 .
  have d:=oF b;exact lB 9 b (lL a [.v qF,.c,.v (.agg #[qF,qS A ((lim n).length) cap])] (lP 0 0 ([qF,qS A ((lim n).length) cap]) a (fun o a=>af a [(0,0,2)] (.agg #[qF,qS A ((lim n).length) cap]) (p9 (by simp only[JE];first|(symm;exact decide_eq_true oM)|(symm;exact decide_eq_false oM)) e a.f.1))))
 have d:=oT b;exact lB 9 b (lL a [.v qT,.c,.v (.agg #[qT,qS A ((lim n).length) cap])] (lP 0 0 ([qT,qS A ((lim n).length) cap]) a (fun l a=>af a [(0,0,2)] (.agg #[qT,qS A ((lim n).length) cap]) (p9 (by simp only[JE];first|(symm;exact decide_eq_true oM)|(symm;exact decide_eq_false oM)) e a.f.1))))
theorem rI (p:Bool)(n:Nat)(A:Z9)(cap:Nat)(b:(lim n).length<=cap)(w:World)(h:Hp)(g:G w h)(a:S3 A (lim n) h):CR 94 #[.bool p,.slice A (lim n).length cap] w h (fun v h=>RI h v (bE p n)):=by
 cases p
 ·exact HN n A cap b w h g a
 ·exact Ii n A cap b w h g a
theorem qU (z:Int)(h0:z<0)(h1 : -9223372036854775808<=z)(w:World)(h:Hp)(g:G w h):CR 195 #[iV z] w h (fun v h=>RI h v (bE true (ab z))):=by
 have a:=sS g;have hi:ab z<=9223372036854775808:=by unfold ab;omega
 refine go Tryz.func195 [(0,iV z)] rfl (aG (lA 2 40 ([qF,sZ]) a (fun x w2 B a=>ai (aa a ac ?_))));have ⟨d,j⟩:=dT (p:=(z:Int)<(0:Int)) oM;refine lB 4 d (ak (aa a ac (lV 6 (mV (18446744073709551616-ab z)) ?_ (hr:=rU (z) kR (by rw[IntKind.wrap_u64];unfold ab;omega)))));refine lV 7 (mV (ab z)) ?_ (hr:=rU ((0-((18446744073709551616-ab z:Nat):Int))) kR (by rw[IntKind.wrap_u64];omega));refine lC 8 a (ew (ab z) oM _ _ a.g) ?_;rintro _ y _ a ⟨o,u,rfl,b,c⟩;replace a:=a.aS c;refine lC 9 a (rI true (ab z) o u b _ _ a.g a.f.1) ?_;rintro _ _ _ a ⟨i,e,rfl,l,k⟩;replace a:=a.aS k;exact lP 0 0 ([.bool (au (bE true (ab z))),qS i ((lim (ab (bE true (ab z)))).length) e]) a (fun _ a=>af a [(0,0,2)] (.agg #[.bool (au (bE true (ab z))),qS i ((lim (ab (bE true (ab z)))).length) e]) (⟨_,_,rfl,l,a.f.1⟩))
theorem qR (z:Nat)(h1:z<9223372036854775808)(w:World)(h:Hp)(g:G w h):CR 195 #[nV z] w h (fun v h=>RI h v (bE false z)):=by
 have a:=sS g;refine go Tryz.func195 [(0,nV z)] rfl (aG (lA 2 40 ([qF,sZ]) a (fun x w2 B a=>ai (aa a ac ?_))));have ⟨d,j⟩:=dF (p:=(z:Int)<(0:Int)) oM;refine lB 4 d (ah (cK (aa a ac (lV 11 (mV z) ?_ (hr:=rU ((z:Int)) kR (ay oM oM))))));refine lC 12 a (ew z oM _ _ a.g) ?_;rintro _ y _ a ⟨o,u,rfl,b,c⟩;replace a:=a.aS c;refine lC 13 a (rI false z o u b _ _ a.g a.f.1) ?_;rintro _ _ _ a ⟨i,e,rfl,l,k⟩;replace a:=a.aS k;exact lP 0 0 ([.bool (au (bE false z)),qS i ((lim (ab (bE false z))).length) e]) a (fun _ a=>af a [(0,0,2)] (.agg #[.bool (au (bE false z)),qS i ((lim (ab (bE false z))).length) e]) (⟨_,_,rfl,l,a.f.1⟩))
theorem Ex (z:Int)(h0 : -9223372036854775808<=z)(h1:z<9223372036854775808)(w:World)(h:Hp)(g:G w h):CR 195 #[iV z] w h (fun v h=>RI h v z):=by
 rcases Int.lt_or_le z 0 with hz|hz
 ·have e:bE true (ab z)=z:=by unfold bE ab;simp;omega
  have:=qU z hz h0 w h g;rw[e] at this
  exact this
 ·obtain ⟨n,rfl⟩:=Int.eq_ofNat_of_zero_le hz
  exact qR n oM w h g
theorem iT (a:Nat)(A:Z9)(c:Nat)(V:(lim a).length<=c)(b:Nat)(D:Z9)(d:Nat)(X:(lim b).length<=d)(F:(lim a).length<=4000000000)(H:(lim b).length<=4000000000)(w:World)(h:Hp)(g:G w h)(L:S3 A (lim a) h)(I:S3 D (lim b) h):CV 156 #[.slice A ((lim a).length) c,.slice D ((lim b).length) d] w h (iV (cX a b)):=by
 have e:=(((sS g).aS L).aS I);refine go Tryz.func156 [(0,qS A ((lim a).length) c),(1,qS D ((lim b).length) d)] rfl (aa e ac (ai (aa e [.c,.v (nV ((lim a).length)),.c,.v (nV ((lim b).length))] ?_)));cases l:((((lim a).length:Nat):Int) != (((lim b).length:Nat):Int))
 .
  have y:=az l;refine lB 10 l (ah (cK (cQ (aa e [.c,.v (nV ((lim a).length))] (lV 18 (iV ((((lim a).length:Nat):Int)-1)) ?_ (hr:=rS ((((lim a).length:Nat)-1)) kR ((dQ oM oM).trans oM)))))));refine lL e ac (bx ?_);refine bG _ (CG.loop (fun C Γ S=>∃ (m:Nat)(h_:Hp),C=m/\Γ=[(0,qS A ((lim a).length) c),(1,qS D ((lim b).length) d),(5,iV ((m:Int)-1))]/\SS w h S h_ [] [] [S3 D (lim b),S3 A (lim a)]/\m<=(lim a).length/\(lim a).length=(lim b).length/\(lim a).drop m=(lim b).drop m) _ ⟨(lim a).length,h,rfl,rfl,e.to _ _,nR _,oM,(by rw[Jy oM,Jy oM])⟩ ?_);rintro _ _ w2 ⟨m,Y,O,rfl,e,Z,p,i⟩;refine cQ (aa e ac ?_);cases j:(decide ((0:Int)<=((m:Int)-1:Int)))
  .
   have x:=oF j;refine lB 20 j (ah (CG.exit ?_))
   show CG _ _ _ _ _ _ _ _
   exact aa e ac (af e [] (iV 0) (by rw[ij (Be (by obtain rfl:m=0:=oM;simpa using i))]))
  have x:=oT j;refine lB 20 j (ak (cK (cQ (kZ (cQ (cR 9 [] mixed e aw ?_))))));refine eV 0 23 (qS A ((lim a).length) c) (eV 1 24 (iV ((m:Int)-1)) (eX 2 25 A ((lim a).length) c 1 ((m:Int)-1) (m-1) ((e.f.2.1).ok oM) (eH 3 26 (mW ((lim a).getD (m-1) 0)) e ((e.f.2.1).el (m-1) oM) (eV 4 27 (qS D ((lim b).length) d) (eV 5 28 (iV ((m:Int)-1)) (eX 6 29 D ((lim b).length) d 1 ((m:Int)-1) (m-1) ((e.f.1).ok oM) (eH 7 30 (mW ((lim b).getD (m-1) 0)) e ((e.f.1).el (m-1) oM) ?_)))))));cases o:((((lim a).getD (m-1) 0:Nat):Int) != (((lim b).getD (m-1) 0:Nat):Int))
  .
   have u:=az o;refine eB 8 31 o (cG e (fun U Q e=>tN (cV (cK (kQ (lL e ac (lV 22 (iV (((m-1:Nat):Int)-1)) ?_ (hr:=rS ((((m:Int)-1)-1)) kR ((dQ oM oM).trans oM)))))))));refine lL e ac (lD ?_);intro W M;refine ⟨_,_,?_,⟨m-1,Q,rfl,rfl,e.to _ _,oM,p,(eK (k:=m-1) p oM (by rw[show m-1+1=m by omega];exact i) oM)⟩,M.to _ kR⟩
   omega
  have u:=a7 o;refine eB 8 31 o (cG e (fun _ _ e=>tN (ci (cQ (cQ (cR 9 [] mixed e aw ?_))))));refine eV 0 32 (qS A ((lim a).length) c) (eV 1 33 (iV ((m:Int)-1)) (eX 2 34 A ((lim a).length) c 1 ((m:Int)-1) (m-1) ((e.f.2.1).ok oM) (eH 3 35 (mW ((lim a).getD (m-1) 0)) e ((e.f.2.1).el (m-1) oM) (eV 4 36 (qS D ((lim b).length) d) (eV 5 37 (iV ((m:Int)-1)) (eX 6 38 D ((lim b).length) d 1 ((m:Int)-1) (m-1) ((e.f.1).ok oM) (eH 7 39 (mW ((lim b).getD (m-1) 0)) e ((e.f.1).el (m-1) oM) ?_)))))));cases B:(decide ((((lim a).getD (m-1) 0:Nat):Int)<(((lim b).getD (m-1) 0:Nat):Int)))
  .
   have K:=oF B;exact eB 8 40 B (cG e (fun _ _ e=>tN (cV (cK (aa e ac (af e [] (iV 1) (by rw[eN (by first|exact fF oM|exact gp (k:=m-1) oM oM (by rw[show m-1+1=m by omega];exact i.symm) oM)])))))))
  have K:=oT B;exact eB 8 40 B (cG e (fun _ _ e=>tN (ci (aa e ac (af e [] (iV (-1)) (by rw[dJ (by first|exact fF oM|exact gp (k:=m-1) oM oM (by rw[show m-1+1=m by omega];exact i) oM)]))))))
 have y:=a7 l;refine lB 10 l (ak (cQ (aa e [.c,.v (nV ((lim a).length)),.c,.v (nV ((lim b).length))] ?_)));cases z:(decide ((((lim a).length:Nat):Int)<(((lim b).length:Nat):Int)))
 .
  have J:=oF z;exact lB 15 z (ah (cK (aa e ac (af e [] (iV 1) (by rw[eN (by first|exact fF oM|exact gp (k:=m-1) oM oM (by rw[show m-1+1=m by omega];exact i.symm) oM)])))))
 have J:=oT z;exact lB 15 z (ak (aa e ac (af e [] (iV (-1)) (by rw[dJ (by first|exact fF oM|exact gp (k:=m-1) oM oM (by rw[show m-1+1=m by omega];exact i) oM)]))))
theorem FG (A:Z9)(c:Nat)(l:List Nat)(m:Nat)(o:l.length=m)(i:Nat)(hi:i<=1099511627776)(j:Ld l)(w:World)(h:Hp)(g:G w h)(e:S3 A l h):CV 172 #[.slice A m c,nV i] w h (mV (l.getD i 0)):=by
 have a:=((sS g).aS e);have k:=j.get i;refine go Tryz.func172 [(0,qS A m c),(1,nV i)] rfl (aa a ac (ai (aa a [.c,.c,.v (nV m)] ?_)));cases b:(decide ((i:Int)<(m:Int)))
 .
  have d:=oF b;exact lB 8 b (ah (cK (aa a ac (af a [] (uV 0) (by rw[cP oM];rfl)))))
 have d:=oT b;refine lB 8 b (ak (aa a aF (lX 11 A m c 1 (i:Nat) i ((a.f.1).ok oM) ?_)));refine lH 12 (mW (l.getD i 0)) a ((a.f.1).el i oM) (lV 13 (mV (l.getD i 0)) ?_ (hr:=rU (((l.getD i 0:Nat):Int)) kR (ay oM oM)));exact lL a ac (af a [] (mV (l.getD i 0)) rfl)
theorem iA (a:Nat)(A:Z9)(c:Nat)(hc:(lim a).length<=c)(b:Nat)(D:Z9)(d:Nat)(hd:(lim b).length<=d)(M:(lim a).length<=4000000000)(O:(lim b).length<=4000000000)(w:World)(h:Hp)(g:G w h)(Y:S3 A (lim a) h)(S:S3 D (lim b) h):CR 136 #[.slice A ((lim a).length) c,.slice D ((lim b).length) d] w h (fun v h1=>RN h1 v (a+b)):=by
 have e:=(((sS g).aS Y).aS S);refine go Tryz.func136 [(0,qS A ((lim a).length) c),(1,qS D ((lim b).length) d)] rfl (aa e ac (aE (lL e [.c,.v (nV ((lim a).length)),.c,.v (nV ((lim b).length))] (lV 13 (nV (max (lim a).length (lim b).length)) ?_ (hr:=aN (n:=if (((lim b).length:Nat):Int)>(((lim a).length:Nat):Int) then (((lim b).length:Nat):Int) else (((lim a).length:Nat):Int)) kR (by split<;>omega))))));refine lL e ac (aE (lL e ac (bg 15 (((max (lim a).length (lim b).length):Nat)+1) (((max (lim a).length (lim b).length):Nat)+1) ?_)));refine lK 16 158 (((max (lim a).length (lim b).length):Nat)+1:Nat) 1 4 (uW 0) aW 0 e (fun x w2 h3 e=>?_);have F:(um (((max (lim a).length (lim b).length):Nat)+1:Nat) 0).length=(((max (lim a).length (lim b).length):Nat)+1:Nat):=by simp
 refine lL e ac (aE (lL e ac (ai (aa e ac (bx ?_)))));refine bG _ (CG.loop (fun H Γ w_=>∃ (i:Nat)(z:List Nat)(j:Nat)(h_:Hp),H=(max (lim a).length (lim b).length)+1-i/\Γ=[(0,qS A ((lim a).length) c),(1,qS D ((lim b).length) d),(4,sZ),(5,nV (max (lim a).length (lim b).length)),(6,qS (sB x) (((max (lim a).length (lim b).length):Nat)+1:Nat) (((max (lim a).length (lim b).length):Nat)+1:Nat)),(8,nV i),(7,mV j)]/\SS w h w_ h_ [⟨x,158,(z).flatMap aW⟩] [] [S3 D (lim b),S3 A (lim a)]/\i<=(max (lim a).length (lim b).length)+1/\z.length=(max (lim a).length (lim b).length)+1/\Ld z/\j<=1/\am 4294967296 z+4294967296^i*j=am 4294967296 ((lim a).take i)+am 4294967296 ((lim b).take i)/\(∀ k,i<=k->z.getD k 0=0)) _ ⟨0,um (((max (lim a).length (lim b).length):Nat)+1:Nat) 0,0,h3,rfl,rfl,e.to _ _,JF _,F,Ld.rep _,oM,(by rw[di];simp[am]),fun k _=>dG⟩ ?_);rintro _ _ w5 ⟨i,z,j,h6,X,rfl,e,hi,p,L,U,y,hz⟩;have hai:=(Ld.lim a).get i;have hbi:=(Ld.lim b).get i;refine cQ (aa e aF ?_);cases u:(decide ((i:Int)<=(((max (lim a).length (lim b).length):Nat):Int)))
 .
  have C:=oF u;refine lB 19 u (ah (CG.exit ?_))
  show CG _ _ _ _ _ _ _ _
  refine aa e ac ?_;have I:i=(max (lim a).length (lim b).length)+1:=by omega
  rw[I5 (show (lim a).length<=i by omega),I5 (show (lim b).length<=i by omega),cu,cu,I,<-p] at y
  have W:am 4294967296 z=a+b:=tf y (by rw[p];exact ep (cI _) (A4 kD (kg oM oM)));obtain ⟨h9,e,B,K,J⟩:=e.pub 0;replace e:=(e.to [] []).aS (SlO.of_flat (sz:=1) (f:=aW) (d:=0) (b:=x) (o:=0) (l:=z) (fun _=>rfl) B);exact aq 39 e (iI (sB x) (((max (lim a).length (lim b).length):Nat)+1:Nat) z (((max (lim a).length (lim b).length):Nat)+1:Nat) p oM oM _ _ e.g e.f.1) (fun _ _ e=>lL e ac (af e [] (qS (sB x) (tl z (((max (lim a).length (lim b).length):Nat)+1:Nat)) (((max (lim a).length (lim b).length):Nat)+1:Nat)) (RN.trim L W p (nR _) e.f.1)))
 have C:=oT u;refine lB 19 u (ak (cK (cQ (kZ (aa e dx (aq 25 e (FG A c (lim a) ((lim a).length) rfl i oM (Ld.lim _) _ _ e.g e.f.2.1) (fun _ _ e=>lV 26 (mV (j+((lim a).getD i 0))) ?_ (hr:=rU (((j:Int)+(((lim a).getD i 0:Nat):Int))) kR (dj j ((lim a).getD i 0) oM)))))))));refine lL e aF (aq 29 e (FG D d (lim b) ((lim b).length) rfl i oM (Ld.lim _) _ _ e.g e.f.1) (fun _ Q e=>lV 30 (mV ((j+((lim a).getD i 0):Nat)+((lim b).getD i 0))) ?_ (hr:=rU ((((j+((lim a).getD i 0):Nat):Int)+(((lim b).getD i 0:Nat):Int))) kR (dj (j+((lim a).getD i 0):Nat) ((lim b).getD i 0) oM))));refine lL e ac (aE (lL e dx (lV 34 (mW (((j+((lim a).getD i 0):Nat)+((lim b).getD i 0):Nat)%4294967296)) ?_ (hr:=rT ((((j+((lim a).getD i 0):Nat)+((lim b).getD i 0):Nat):Int)) kR (fY _)))));refine lX 35 (sB x) (((max (lim a).length (lim b).length):Nat)+1:Nat) (((max (lim a).length (lim b).length):Nat)+1:Nat) 1 (i:Nat) i rfl (lW 0 z aW 1 i (((j+((lim a).getD i 0):Nat)+((lim b).getD i 0):Nat)%4294967296:Nat) e oM (fun _ e=>?_));have V:((z).set i (((j+((lim a).getD i 0):Nat)+((lim b).getD i 0):Nat)%4294967296:Nat)).length=(((max (lim a).length (lim b).length):Nat)+1:Nat):=by rw[Jr];exact p
 replace e:=e.to [⟨x,158,((z).set i (((j+((lim a).getD i 0):Nat)+((lim b).getD i 0):Nat)%4294967296:Nat)).flatMap aW⟩] [];refine lN (kQ (lL e ac (lV 37 (mV (((j+((lim a).getD i 0):Nat)+((lim b).getD i 0):Nat)/4294967296)) ?_ (hr:=aN (n:=JD (((j+((lim a).getD i 0):Nat)+((lim b).getD i 0):Nat):Int) 4294967296) kR (dI _ 4294967296)))));refine lL e ac (lN (kQ (lL e ac (bg 21 ((i:Nat)+1) (i+1) ?_))));refine lL e ac (lD ?_);intro a_ Z;refine ⟨_,_,?_,⟨i+1,(z).set i (((j+((lim a).getD i 0):Nat)+((lim b).getD i 0):Nat)%4294967296:Nat),(((j+((lim a).getD i 0):Nat)+((lim b).getD i 0):Nat)/4294967296:Nat),Q,rfl,rfl,e.to _ _,oM,V,(L.set _ oM),oM,(by rw[vo (t:=(lim a).getD i 0+(lim b).getD i 0) oM (hz i (nR _)) y oM,aT,aT,z7];omega),(pY oM hz)⟩,Z.to _ kR⟩
 omega
theorem kC (a:Nat)(A:Z9)(c:Nat)(hc:(lim a).length<=c)(b:Nat)(D:Z9)(d:Nat)(hd:(lim b).length<=d)(W:(lim a).length<=4000000000)(X:(lim b).length<=4000000000)(C:b<=a)(w:World)(h:Hp)(g:G w h)(hA:S3 A (lim a) h)(Z:S3 D (lim b) h):CR 157 #[.slice A ((lim a).length) c,.slice D ((lim b).length) d] w h (fun v h1=>RN h1 v (a-b)):=by
 have e:=(((sS g).aS hA).aS Z);have hlm:=dh C;refine go Tryz.func157 [(0,qS A ((lim a).length) c),(1,qS D ((lim b).length) d)] rfl (aa e ac (aE (lL e [.c,.v (nV ((lim a).length))] (lK 11 158 ((lim a).length) 1 4 (uW 0) aW 0 e (fun x w2 h3 e=>?_)))));have J:(um ((lim a).length) 0).length=((lim a).length):=by simp
 refine lL e ac (aE (lL e ac (ai (aa e ac (bx ?_)))));refine bG _ (CG.loop (fun L Γ w_=>∃ (i:Nat)(z:List Nat)(j:Nat)(h_:Hp),L=(lim a).length-i/\Γ=[(0,qS A ((lim a).length) c),(1,qS D ((lim b).length) d),(4,sZ),(5,qS (sB x) ((lim a).length) ((lim a).length)),(7,nV i),(6,mV j)]/\SS w h w_ h_ [⟨x,158,(z).flatMap aW⟩] [] [S3 D (lim b),S3 A (lim a)]/\i<=(lim a).length/\z.length=(lim a).length/\Ld z/\j<=1/\am 4294967296 z+am 4294967296 ((lim b).take i)=am 4294967296 ((lim a).take i)+4294967296^i*j/\(∀ k,i<=k->z.getD k 0=0)) _ ⟨0,um ((lim a).length) 0,0,h3,rfl,rfl,e.to _ _,JF _,J,Ld.rep _,oM,(by rw[di];simp[am]),fun k _=>dG⟩ ?_);rintro _ _ w5 ⟨i,z,j,h6,hm7,rfl,e,hi,u,Q,K,y,hz⟩;have M:=(Ld.lim a).get i;have O:=(Ld.lim b).get i;refine cQ (aa e [.c,.c,.v (nV ((lim a).length))] ?_);cases p:(decide ((i:Int)<(((lim a).length:Nat):Int)))
 .
  have H:=oF p;refine lB 15 p (ah (CG.exit ?_))
  show CG _ _ _ _ _ _ _ _
  refine aa e ac ?_;have S:i=(lim a).length:=by omega
  rw[I5 (show (lim a).length<=i by omega),I5 (show (lim b).length<=i by omega),cu,cu,S,<-u] at y
  have hE:am 4294967296 z=a-b:=xb Q y C;obtain ⟨h9,e,F,V,U⟩:=e.pub 0;replace e:=(e.to [] []).aS (SlO.of_flat (sz:=1) (f:=aW) (d:=0) (b:=x) (o:=0) (l:=z) (fun _=>rfl) F);exact aq 37 e (iI (sB x) ((lim a).length) z ((lim a).length) u oM oM _ _ e.g e.f.1) (fun _ _ e=>lL e ac (af e [] (qS (sB x) (tl z ((lim a).length)) ((lim a).length)) (RN.trim Q hE u (nR _) e.f.1)))
 have H:=oT p;refine lB 15 p (ak (cK (cQ (kZ (cQ (cR 11 [] mixed e aw ?_))))));refine eV 0 18 (qS A ((lim a).length) c) (eV 1 19 (nV i) (eX 2 20 A ((lim a).length) c 1 (i:Nat) i ((e.f.2.1).ok oM) (eH 3 21 (mW ((lim a).getD i 0)) e ((e.f.2.1).el i oM) (eV 4 22 (mV ((lim a).getD i 0)) ?_ (hv:=fun _=>rU ((((lim a).getD i 0:Nat):Int)) kR (ay oM oM))))));refine eV 5 23 (qS D ((lim b).length) d) (eV 6 24 (nV i) (eV 9 27 (mV j) (aK 7 25 e (fun _ _ e=>FG D d (lim b) ((lim b).length) rfl i oM (Ld.lim _) _ _ e.g e.f.1) (fun _ _ e=>eV 8 26 (mV ((((lim a).getD i 0)+(18446744073709551616-((lim b).getD i 0)))%18446744073709551616)) ?_ (hv:=fun _=>rU (((((lim a).getD i 0:Nat):Int)-(((lim b).getD i 0:Nat):Int))) kR (kb ((lim a).getD i 0) ((lim b).getD i 0) oM))))));refine eV 10 28 (mV ((((((lim a).getD i 0)+(18446744073709551616-((lim b).getD i 0)))%18446744073709551616:Nat)+(18446744073709551616-j))%18446744073709551616)) ?_ (hv:=fun _=>rU (((((((lim a).getD i 0)+(18446744073709551616-((lim b).getD i 0)))%18446744073709551616:Nat):Int)-(j:Int))) kR (kb ((((lim a).getD i 0)+(18446744073709551616-((lim b).getD i 0)))%18446744073709551616:Nat) j oM));refine cG e (fun _ Y e=>tV 11 8 (mV ((((((lim a).getD i 0)+(18446744073709551616-((lim b).getD i 0)))%18446744073709551616:Nat)+(18446744073709551616-j))%18446744073709551616)) (As ?_));obtain ⟨t,ht⟩:∃ t,t=((((((lim a).getD i 0)+(18446744073709551616-((lim b).getD i 0)))%18446744073709551616:Nat)+(18446744073709551616-j))%18446744073709551616:Nat):=⟨_,rfl⟩;obtain ⟨I,B⟩:=wU M O K ht;rw[ht] at I B
 refine lL e dx (lV 32 (mW (((((((lim a).getD i 0)+(18446744073709551616-((lim b).getD i 0)))%18446744073709551616:Nat)+(18446744073709551616-j))%18446744073709551616:Nat)%4294967296)) ?_ (hr:=rT ((((((((lim a).getD i 0)+(18446744073709551616-((lim b).getD i 0)))%18446744073709551616:Nat)+(18446744073709551616-j))%18446744073709551616:Nat):Int)) kR (fY _)));refine lX 33 (sB x) ((lim a).length) ((lim a).length) 1 (i:Nat) i rfl (lW 0 z aW 1 i (((((((lim a).getD i 0)+(18446744073709551616-((lim b).getD i 0)))%18446744073709551616:Nat)+(18446744073709551616-j))%18446744073709551616:Nat)%4294967296:Nat) e oM (fun _ e=>?_));have za:((z).set i (((((((lim a).getD i 0)+(18446744073709551616-((lim b).getD i 0)))%18446744073709551616:Nat)+(18446744073709551616-j))%18446744073709551616:Nat)%4294967296:Nat)).length=((lim a).length):=by rw[Jr];exact u
 replace e:=e.to [⟨x,158,((z).set i (((((((lim a).getD i 0)+(18446744073709551616-((lim b).getD i 0)))%18446744073709551616:Nat)+(18446744073709551616-j))%18446744073709551616:Nat)%4294967296:Nat)).flatMap aW⟩] [];refine lN (kQ (lL e ac (lV 35 (mV (((((((lim a).getD i 0)+(18446744073709551616-((lim b).getD i 0)))%18446744073709551616:Nat)+(18446744073709551616-j))%18446744073709551616:Nat)/9223372036854775808)) ?_ (hr:=aN (n:=JD (((((((lim a).getD i 0)+(18446744073709551616-((lim b).getD i 0)))%18446744073709551616:Nat)+(18446744073709551616-j))%18446744073709551616:Nat):Int) 9223372036854775808) kR (dI _ 9223372036854775808)))));refine lL e ac (lN (kQ (lL e ac (bg 17 ((i:Nat)+1) (i+1) ?_))));refine lL e ac (lD ?_);intro a_ ka;refine ⟨_,_,?_,⟨i+1,(z).set i (((((((lim a).getD i 0)+(18446744073709551616-((lim b).getD i 0)))%18446744073709551616:Nat)+(18446744073709551616-j))%18446744073709551616:Nat)%4294967296:Nat),(((((((lim a).getD i 0)+(18446744073709551616-((lim b).getD i 0)))%18446744073709551616:Nat)+(18446744073709551616-j))%18446744073709551616:Nat)/9223372036854775808:Nat),Y,rfl,rfl,e.to _ _,oM,za,(Q.set _ oM),B,(Ce oM (hz i (nR _)) y I),(pY oM hz)⟩,ka.to _ kR⟩
 omega
theorem DS {x y:Nat}(b:x<4294967296)(a:y<4294967296):x*y<=18446744065119617025:=Jo (show x<=4294967295 by omega) (show y<=4294967295 by omega)
theorem oy {a b q r:Nat}(h:a=b*q+r)(hr:r<b):q=a/b/\r=a%b:=by
 subst h;rw[Jt oM,zY hr,Nat.mul_add_mod,u9 hr];simp
theorem mL {l:List Nat}{k j x:Nat}(a:k<l.length)(h:∀ i,j<=i->l.getD i 0=0)(b:k<j):∀ i,j<=i->(l.set k x).getD i 0=0:=fun i hi=>by rw[bB a,if_neg oM];exact h i hi
theorem jh (a:Nat)(A:Z9)(c:Nat)(hc:(lim a).length<=c)(b:Nat)(D:Z9)(d:Nat)(hd:(lim b).length<=d)(hLa:(lim a).length<=4000000000)(hLb:(lim b).length<=4000000000)(w:World)(h:Hp)(g:G w h)(hA:S3 A (lim a) h)(hD:S3 D (lim b) h):CR 95 #[.slice A ((lim a).length) c,.slice D ((lim b).length) d] w h (fun v h1=>RN h1 v (a*b)):=by
 have e:=(((sS g).aS hA).aS hD);refine go Tryz.func95 [(0,qS A ((lim a).length) c),(1,qS D ((lim b).length) d)] rfl (aa e ac (aE (lL e [.c,.v (nV ((lim a).length)),.c,.v (nV ((lim b).length))] (bg 13 (((lim a).length:Nat)+((lim b).length:Nat)) (((lim a).length)+((lim b).length)) ?_))));refine lK 14 158 (((lim a).length)+((lim b).length):Nat) 1 4 (uW 0) aW 0 e (fun u w2 h3 e=>?_);have M:(um (((lim a).length)+((lim b).length):Nat) 0).length=(((lim a).length)+((lim b).length):Nat):=by simp
 refine lL e ac (ai (aa e ac (bx ?_)));refine bG _ (CG.loop (fun H Γ W=>∃ (i:Nat)(l:List Nat)(h_:Hp),H=(lim a).length-i/\Γ=[(0,qS A ((lim a).length) c),(1,qS D ((lim b).length) d),(4,sZ),(5,qS (sB u) (((lim a).length)+((lim b).length):Nat) (((lim a).length)+((lim b).length):Nat)),(6,nV i)]/\SS w h W h_ [⟨u,158,(l).flatMap aW⟩] [] [S3 D (lim b),S3 A (lim a)]/\i<=(lim a).length/\l.length=(lim a).length+(lim b).length/\Ld l/\am 4294967296 l=am 4294967296 ((lim a).take i)*b/\(∀ k,i+(lim b).length<=k->l.getD k 0=0)) _ ⟨0,um (((lim a).length)+((lim b).length):Nat) 0,h3,rfl,rfl,e.to _ _,JF _,M,Ld.rep _,(by rw[di];simp[am]),fun k _=>dG⟩ ?_);rintro _ _ w5 ⟨i,l,h6,hm7,rfl,e,hi,C,hW,hv,hz⟩;have V:=(Ld.lim a).get i;refine cQ (aa e [.c,.c,.v (nV ((lim a).length))] ?_);cases x:(decide ((i:Int)<(((lim a).length:Nat):Int)))
 .
  have K:=oF x;refine lB 18 x (ah (CG.exit ?_))
  show CG _ _ _ _ _ _ _ _
  refine aa e ac ?_;have O:i=(lim a).length:=by omega
  rw[O,s1,cu] at hv
  have hE:am 4294967296 l=a*b:=hv;obtain ⟨h9,e,J,Y,X⟩:=e.pub 0;replace e:=(e.to [] []).aS (SlO.of_flat (sz:=1) (f:=aW) (d:=0) (b:=u) (o:=0) (l:=l) (fun _=>rfl) J);exact aq 66 e (iI (sB u) (((lim a).length)+((lim b).length):Nat) l (((lim a).length)+((lim b).length):Nat) C oM oM _ _ e.g e.f.1) (fun _ _ e=>lL e ac (af e [] (qS (sB u) (tl l (((lim a).length)+((lim b).length):Nat)) (((lim a).length)+((lim b).length):Nat)) (RN.trim hW hE C (nR _) e.f.1)))
 have K:=oT x;refine lB 18 x (ak (cK (cQ (kZ (aa e ac (ai (aa e ac (bx ?_))))))));refine bG _ (CG.loop (fun H Γ W=>∃ (j:Nat)(l2:List Nat)(p:Nat)(h_:Hp),H=(lim b).length-j/\Γ=[(0,qS A ((lim a).length) c),(1,qS D ((lim b).length) d),(4,sZ),(5,qS (sB u) (((lim a).length)+((lim b).length):Nat) (((lim a).length)+((lim b).length):Nat)),(6,nV i),(8,nV j),(7,mV p)]/\SS w h W h_ [⟨u,158,(l2).flatMap aW⟩] [] [S3 D (lim b),S3 A (lim a)]/\j<=(lim b).length/\l2.length=(lim a).length+(lim b).length/\Ld l2/\p<4294967296/\am 4294967296 l2+4294967296^(i+j)*p=am 4294967296 l+4294967296^i*((lim a).getD i 0*am 4294967296 ((lim b).take j))/\(∀ k,i+(lim b).length<=k->l2.getD k 0=0)) _ ⟨0,l,0,h6,rfl,rfl,e.to _ _,JF _,C,hW,by omega,(by simp[am]),hz⟩ ?_);rintro _ _ _ ⟨j,l2,p,ze,Z,rfl,e,hj,y,z,hcy,B,F⟩;have Q:=(Ld.lim b).get j;have hlk:=z.get (i+j);have hxy:=DS V Q;refine cQ (aa e [.c,.c,.v (nV ((lim b).length))] ?_);cases L:(decide ((j:Int)<(((lim b).length:Nat):Int)))
 .
  have zb:=oF L;refine lB 24 L (ah (CG.exit ?_))
  show CG _ _ _ _ _ _ _ _
  refine kQ (lL e [.c,.c,.c,.v (nV ((lim b).length))] (bg 61 ((i:Nat)+((lim b).length:Nat)) (i+((lim b).length)) ?_));refine lL e ac (lV 63 (mW (p%4294967296)) ?_ (hr:=rT ((p:Int)) kR (fY _)));refine lX 64 (sB u) (((lim a).length)+((lim b).length):Nat) (((lim a).length)+((lim b).length):Nat) 1 (i+((lim b).length):Nat) (i+((lim b).length):Nat) rfl (lW 0 l2 aW 1 (i+((lim b).length):Nat) (p%4294967296) e oM (fun _ e=>?_));have zc:((l2).set (i+((lim b).length):Nat) (p%4294967296)).length=(((lim a).length)+((lim b).length):Nat):=by rw[Jr];exact y
  replace e:=e.to [⟨u,158,((l2).set (i+((lim b).length):Nat) (p%4294967296)).flatMap aW⟩] [];refine lN (kQ (lL e ac (bg 20 ((i:Nat)+1) (i+1) ?_)));refine lL e ac (lD ?_);intro a_ S;refine ⟨_,_,?_,⟨i+1,(l2).set (i+((lim b).length):Nat) (p%4294967296),ze,rfl,rfl,e.to _ _,oM,zc,(z.set _ oM),(by have U:j=(lim b).length:=oM;rw[U] at B;have I:=rR oM B (F _ oM);rw[cu] at I;rw[show p%4294967296=p by omega];exact I.trans (rE hv)),(mL oM (fun k hk=>F k oM) oM)⟩,S.to _ kR⟩
  omega
 have zb:=oT L;refine lB 24 L (ak (cK (cQ (kZ (cQ (cR 21 [] mixed e aw ?_))))));refine eV 0 27 (mV p) (eV 1 28 (qS (sB u) (((lim a).length)+((lim b).length):Nat) (((lim a).length)+((lim b).length):Nat)) (eV 2 29 (nV i) (eV 3 30 (nV j) (iR 4 31 ((i:Nat)+(j:Nat)) (i+j) (eX 5 32 (sB u) (((lim a).length)+((lim b).length):Nat) (((lim a).length)+((lim b).length):Nat) 1 (i+j:Nat) (i+j) rfl (eQ 6 33 0 l2 aW 1 0 (i+j) (mW ((l2).getD (i+j) 0)) e oM (eV 7 34 (mV ((l2).getD (i+j) 0)) ?_ (hv:=fun _=>rU ((((l2).getD (i+j) 0:Nat):Int)) kR (ay oM oM)))))))));refine eV 8 35 (mV (p+((l2).getD (i+j) 0))) ?_ (hv:=fun _=>rU (((p:Int)+(((l2).getD (i+j) 0:Nat):Int))) kR (dj p ((l2).getD (i+j) 0) oM));refine eV 9 36 (qS A ((lim a).length) c) (eV 10 37 (nV i) (eX 11 38 A ((lim a).length) c 1 (i:Nat) i ((e.f.2.1).ok oM) (eH 12 39 (mW ((lim a).getD i 0)) e ((e.f.2.1).el i oM) (eV 13 40 (mV ((lim a).getD i 0)) ?_ (hv:=fun _=>rU ((((lim a).getD i 0:Nat):Int)) kR (ay oM oM))))));refine eV 14 41 (qS D ((lim b).length) d) (eV 15 42 (nV j) (eX 16 43 D ((lim b).length) d 1 (j:Nat) j ((e.f.1).ok oM) (eH 17 44 (mW ((lim b).getD j 0)) e ((e.f.1).el j oM) (eV 18 45 (mV ((lim b).getD j 0)) ?_ (hv:=fun _=>rU ((((lim b).getD j 0:Nat):Int)) kR (ay oM oM))))));refine eV 19 46 (mV (((lim a).getD i 0)*((lim b).getD j 0))) ?_ (hv:=fun _=>rU (((((lim a).getD i 0:Nat):Int)*(((lim b).getD j 0:Nat):Int))) kR (d5 ((lim a).getD i 0) ((lim b).getD j 0) oM));refine eV 20 47 (mV ((p+((l2).getD (i+j) 0):Nat)+(((lim a).getD i 0)*((lim b).getD j 0):Nat))) ?_ (hv:=fun _=>rU ((((p+((l2).getD (i+j) 0):Nat):Int)+((((lim a).getD i 0)*((lim b).getD j 0):Nat):Int))) kR (dj (p+((l2).getD (i+j) 0):Nat) (((lim a).getD i 0)*((lim b).getD j 0):Nat) oM));refine cG e (fun _ zf e=>tV 21 7 (mV ((p+((l2).getD (i+j) 0):Nat)+(((lim a).getD i 0)*((lim b).getD j 0):Nat))) (As (lL e dx (bg 51 ((i:Nat)+(j:Nat)) (i+j) ?_))));refine lL e ac (lV 53 (mW (((p+((l2).getD (i+j) 0):Nat)+(((lim a).getD i 0)*((lim b).getD j 0):Nat):Nat)%4294967296)) ?_ (hr:=rT ((((p+((l2).getD (i+j) 0):Nat)+(((lim a).getD i 0)*((lim b).getD j 0):Nat):Nat):Int)) kR (fY _)));refine lX 54 (sB u) (((lim a).length)+((lim b).length):Nat) (((lim a).length)+((lim b).length):Nat) 1 (i+j:Nat) (i+j) rfl (lW 0 l2 aW 1 (i+j) (((p+((l2).getD (i+j) 0):Nat)+(((lim a).getD i 0)*((lim b).getD j 0):Nat):Nat)%4294967296:Nat) e oM (fun _ e=>?_));have zd:((l2).set (i+j) (((p+((l2).getD (i+j) 0):Nat)+(((lim a).getD i 0)*((lim b).getD j 0):Nat):Nat)%4294967296:Nat)).length=(((lim a).length)+((lim b).length):Nat):=by rw[Jr];exact y
 replace e:=e.to [⟨u,158,((l2).set (i+j) (((p+((l2).getD (i+j) 0):Nat)+(((lim a).getD i 0)*((lim b).getD j 0):Nat):Nat)%4294967296:Nat)).flatMap aW⟩] [];refine lN (kQ (lL e ac (lV 56 (mV (((p+((l2).getD (i+j) 0):Nat)+(((lim a).getD i 0)*((lim b).getD j 0):Nat):Nat)/4294967296)) ?_ (hr:=aN (n:=JD (((p+((l2).getD (i+j) 0):Nat)+(((lim a).getD i 0)*((lim b).getD j 0):Nat):Nat):Int) 4294967296) kR (dI _ 4294967296)))));refine lL e ac (lN (bG [(0,qS A ((lim a).length) c),(1,qS D ((lim b).length) d),(4,sZ),(5,qS (sB u) (((lim a).length)+((lim b).length):Nat) (((lim a).length)+((lim b).length):Nat)),(6,nV i),(8,nV j),(7,mV (((p+((l2).getD (i+j) 0):Nat)+(((lim a).getD i 0)*((lim b).getD j 0):Nat):Nat)/4294967296))] ?_));refine kQ (lL e ac (bg 26 ((j:Nat)+1) (j+1) ?_));refine lL e ac (lD ?_);intro a_ S;refine ⟨_,_,?_,⟨j+1,(l2).set (i+j) (((p+((l2).getD (i+j) 0):Nat)+(((lim a).getD i 0)*((lim b).getD j 0):Nat):Nat)%4294967296:Nat),(((p+((l2).getD (i+j) 0):Nat)+(((lim a).getD i 0)*((lim b).getD j 0):Nat):Nat)/4294967296:Nat),zf,rfl,rfl,e.to _ _,oM,zd,(z.set _ oM),oM,(lm oM B oM),(mL oM F oM)⟩,S.to _ kR⟩
 omega
theorem Gm (a:Nat)(A:Z9)(c:Nat)(hc:(lim a).length<=c)(X:(lim a).length<=4000000000)(d:Nat)(H:0<d)(Z:d<4294967296)(w:World)(h:Hp)(g:G w h)(hA:S3 A (lim a) h):CR 199 #[.slice A ((lim a).length) c,mW d] w h (fun v h1=>∃ W,∃ r:Nat,v=.tuple #[W,mW r]/\RN h1 W (a/d)/\r=a%d):=by
 have e:=((sS g).aS hA);refine go Tryz.func199 [(0,qS A ((lim a).length) c),(1,mW d)] rfl (aa e aF (aE (lL e [.c,.v (nV ((lim a).length))] (lK 11 158 ((lim a).length) 1 4 (uW 0) aW 0 e (fun j w2 h3 e=>?_)))));have K:(um ((lim a).length) 0).length=((lim a).length):=by simp
 refine lL e ac (aE (lL e ac (ai (aa e [.c,.v (nV ((lim a).length))] (lV 14 (iV ((((lim a).length:Nat):Int)-1)) ?_ (hr:=rS ((((lim a).length:Nat)-1)) kR ((dQ oM oM).trans oM)))))));refine lL e ac (bx ?_);refine bG _ (CG.loop (fun Q Γ w_=>∃ (m:Nat)(z:List Nat)(r:Nat)(h_:Hp),Q=m/\Γ=[(0,qS A ((lim a).length) c),(1,mW d),(4,sZ),(5,uW 0),(6,qS (sB j) ((lim a).length) ((lim a).length)),(8,iV ((m:Int)-1)),(7,mV r)]/\SS w h w_ h_ [⟨j,158,(z).flatMap aW⟩] [] [S3 A (lim a)]/\m<=(lim a).length/\z.length=(lim a).length/\Ld z/\a=d*am 4294967296 z+(4294967296^m*r+am 4294967296 ((lim a).take m))/\r<d/\(∀ k,k<m->z.getD k 0=0)) _ ⟨(lim a).length,um ((lim a).length) 0,0,h3,rfl,rfl,e.to _ _,nR _,K,Ld.rep _,(by rw[di,s1,cu];simp),H,fun k _=>dG⟩ ?_);rintro _ _ w5 ⟨m,z,r,h6,hm7,rfl,e,hm,p,U,B,hr,hz⟩;have I:=(Ld.lim a).get (m-1);refine cQ (aa e ac ?_);cases i:(decide ((0:Int)<=((m:Int)-1:Int)))
 .
  have F:=oF i;refine lB 16 i (ah (CG.exit ?_))
  show CG _ _ _ _ _ _ _ _
  refine aa e ac ?_;have M:m=0:=by omega
  rw[M,JG,I6,List.take_zero] at B
  have J:a=d*am 4294967296 z+r:=by simpa [am] using B
  obtain ⟨L,O⟩:=oy J hr;have hE:am 4294967296 z=a/d:=L;obtain ⟨h9,e,D,V,S⟩:=e.pub 0;replace e:=(e.to [] []).aS (SlO.of_flat (sz:=1) (f:=aW) (d:=0) (b:=j) (o:=0) (l:=z) (fun _=>rfl) D);refine aq 40 e (iI (sB j) ((lim a).length) z ((lim a).length) p oM oM _ _ e.g e.f.1) (fun _ _ e=>lL e ac (lV 42 (mW r) ?_ (hr:=aN (aN (n:=IntKind.wrap .u32 (r:Int)) kR (fY _)) oM)));exact lL e aF (af e [] (.tuple #[qS (sB j) (tl z ((lim a).length)) ((lim a).length),mW r]) (⟨_,r,rfl,RN.trim U hE p (nR _) e.f.1,O⟩))
 have F:=oT i;refine lB 16 i (ak (cK (cQ (kZ (aa e ac (lV 20 (mV (r*4294967296%18446744073709551616)) ?_ (hr:=rU (((r:Int)*4294967296)) kR (jg r 4294967296))))))));refine lL e aF (lX 23 A ((lim a).length) c 1 ((m:Int)-1) (m-1) ((e.f.1).ok oM) ?_);refine lH 24 (mW ((lim a).getD (m-1) 0)) e ((e.f.1).el (m-1) oM) (lV 25 (mV ((lim a).getD (m-1) 0)) ?_ (hr:=rU ((((lim a).getD (m-1) 0:Nat):Int)) kR (ay oM oM)));refine lV 26 (mV (r*4294967296+(lim a).getD (m-1) 0)) ?_ (hr:=aN (gc (t:=22) (u:=22) (x:=.tmp 20) (y:=.tmp 25) (a:=(r*4294967296%18446744073709551616)) (b:=((lim a).getD (m-1) 0)) kR kR kR oM oM _) (by rw[u9 (show r*4294967296<18446744073709551616 by omega),qu I]));refine lL e ac (aE (lL e m4 (lV 31 (mV d) ?_ (hr:=rU ((d:Int)) kR (ay oM oM)))));have C:=tG (r:=r) (x:=(lim a).getD (m-1) 0) H hr I Z;refine lV 32 (mV ((r*4294967296+(lim a).getD (m-1) 0)/d)) ?_ (hr:=aN (db (t:=22) (u:=22) (x:=.tmp 29) (y:=.tmp 31) (k:=.u64) (a:=((r*4294967296+(lim a).getD (m-1) 0:Nat):Int)) (b:=(d:Int)) kR kR kR oM _) (jD (r*4294967296+(lim a).getD (m-1) 0) d oM));refine lV 33 (mW (((r*4294967296+(lim a).getD (m-1) 0)/d:Nat)%4294967296)) ?_ (hr:=rT ((((r*4294967296+(lim a).getD (m-1) 0)/d:Nat):Int)) kR (fY _));refine lX 34 (sB j) ((lim a).length) ((lim a).length) 1 ((m:Int)-1) (m-1) rfl (lW 0 z aW 1 (m-1) (((r*4294967296+(lim a).getD (m-1) 0)/d:Nat)%4294967296:Nat) e oM (fun _ e=>?_));have Y:((z).set (m-1) (((r*4294967296+(lim a).getD (m-1) 0)/d:Nat)%4294967296:Nat)).length=((lim a).length):=by rw[Jr];exact p
 replace e:=e.to [⟨j,158,((z).set (m-1) (((r*4294967296+(lim a).getD (m-1) 0)/d:Nat)%4294967296:Nat)).flatMap aW⟩] [];refine lN (kQ (lL e aF (lV 37 (mV d) ?_ (hr:=rU ((d:Int)) kR (ay oM oM)))));refine lV 38 (mV ((r*4294967296+(lim a).getD (m-1) 0)%d)) ?_ (hr:=aN (d4 (t:=22) (u:=22) (x:=.tmp 35) (y:=.tmp 37) (k:=.u64) (a:=((r*4294967296+(lim a).getD (m-1) 0:Nat):Int)) (b:=(d:Int)) kR kR kR oM _) (cM (r*4294967296+(lim a).getD (m-1) 0) d));refine lL e ac (lN (kQ (lL e ac (lV 18 (iV (((m-1:Nat):Int)-1)) ?_ (hr:=rS ((((m:Int)-1)-1)) kR ((dQ oM oM).trans oM))))));refine lL e ac (lD ?_);intro a_ ka;refine ⟨_,_,?_,⟨m-1,(z).set (m-1) (((r*4294967296+(lim a).getD (m-1) 0)/d:Nat)%4294967296:Nat),((r*4294967296+(lim a).getD (m-1) 0)%d:Nat),h6,rfl,rfl,e.to _ _,oM,Y,(U.set _ (va _ kD)),(by rw[C.1];exact x9 oM oM (hz _ oM) B C.2.1),C.2.2,(fun k hk=>by rw[bB oM,if_neg oM];exact hz k oM)⟩,ka.to _ kR⟩
 omega
theorem qI {B:List Bx}:∀ (ps:List (Nat × Nat × Nat)) (q:Nat) (a:Addr),(bO B ps)[q]?=some a->∃ p∈ps,a.block=(aD B p.1).b:=by
  intro ps
  induction ps with
  | nil=>intro q a h;simp[bO] at h
  | cons p ps ih =>
    intro q a h
    unfold bO at h
    rcases co q (kA (aD B p.1).b p.2.1 p.2.2).length with hl|hl
    . rw[rc hl] at h
      exact ⟨p,by simp,by rw[d9 _ _ _ _ _ h]⟩
    . rw[rk hl] at h
      obtain ⟨d,c,e⟩:=ih _ _ h;exact ⟨d,by simp[c],e⟩
section
variable {M:Ms}{P:Program}{n:Nat}{N R:Po}{X:Nat->Po}{ops:Array Oper}{k k0:Nat}{L:Array Bool}{Γ:ck}{w:World}{h:Hp}{w0:World}{h0:Hp}{B:List Bx}{Rs:List Rw}{F:List (Hp->Prop)}
theorem F6 {α:Type}(j:Nat)(l:List α)(f:α->List Value)(sz e:Nat)(x:α)(s:SS w0 h0 w h B Rs F)(i:e<l.length)(H:∀ w',Put (aD B j).b w w'->SS w0 h0 w' h (gG B j ((l.set e x).flatMap f)) Rs F->LG P n N R X ops (k+1) Γ w')(c:cS ops Γ k=true:=by kernel_rfl)
  (a:decide (j<B.length)=true:=by kernel_rfl)(hB:(aD B j).vs=l.flatMap f:=by kernel_rfl)(hf:∀ x,(f x).length=sz:=by intro _;rfl)
  (o:dw P (execOp (ev Γ) (av ops k))=some (.skip,ml (aD B j).b (0+e*sz) (f x)):=by kernel_rfl):LG P n N R X ops k Γ w :=
 LG.putA j l f sz e x s.st s.g0 (kj c).1 (kj c).2 a hB hf i o (fun w' p d=>H w' p (s.put0 (oT a) p d (jy (oT a))))
theorem IK {α:Type}(i j:Nat)(l:List α)(f:α->List Value)(sz e:Nat)(x:α)(s:SS w0 h0 w h B Rs F)(d:e<l.length)(H:∀ w',Put (aD B j).b w w'->SS w0 h0 w' h (gG B j ((l.set e x).flatMap f)) Rs F->AG M P n N R X ops k0 (L.setIfInBounds i true) Γ w')(c:FI ops k0 L Γ i=true:=by kernel_rfl)
  (a:decide (j<B.length)=true:=by kernel_rfl)(hB:(aD B j).vs=l.flatMap f:=by kernel_rfl)(hf:∀ x,(f x).length=sz:=by intro _;rfl)
  (k:dw P (execOp (ev Γ) (av ops i))=some (.skip,ml (aD B j).b (0+e*sz) (f x)):=by kernel_rfl)(hz:∀ K bs,M.z=some (K,bs)->K<=(aD B j).b\/(aD B j).b∈bs:=by intro _ _ e;cases e):AG M P n N R X ops k0 L Γ w :=
 T.putA i j l f sz e x s.st s.g0 (j4 c).1 (j4 c).2 a hB hf d k (fun w' p o=>H w' p (s.put0 (oT a) p o (jy (oT a)))) hz
theorem aQ {α:Type}(i t j:Nat)(l:List α)(f:α->List Value)(sz:Nat)(d:α)(e:Nat)(v:Value)(s:SS w0 h0 w h B Rs F)(o:e<l.length)(H:AG M P n N R X ops k0 (L.setIfInBounds i true) ((t,v)::Γ) w)(hM:(aD B j).b ∉ M.l:=by exact List.not_mem_nil)(k:Ap n ops k0 [] L Γ i t=true:=by kernel_rfl)
  (p:decide (j<B.length)=true:=by kernel_rfl)(hB:(aD B j).vs=l.flatMap f:=by kernel_rfl)(hf:∀ x,(f x).length=sz:=by intro _;rfl)
  (y:bP P (execOp (ev Γ) (av ops i)) (f (l.getD e d))=some (.value v,kA (aD B j).b (0+e*sz) (f (l.getD e d)).length):=by kernel_rfl):AG M P n N R X ops k0 L Γ w :=
 aL i t v (fun w' z=>bH _ _ _ _ y (fun q a u ha hu=>by
  rw[d9 _ _ _ _ _ ha,((s.st.own _ (bC (oT p))).mo z hM).cell,hB];rw[<-eW hf d l e o] at hu
  have c:q<sz:=by
   rcases co q sz with hl|hl
   ·exact hl
   ·rw[pk (by simp;omega)] at hu;cases hu
  rw[rh c,ri] at hu
  rw[tv];exact hu)) H k
theorem vC (t j:Nat){f:FuncId}{args:Array Value}{Φ:Value->Prop}(s:SS w0 h0 w h B Rs F)(c:∀ hp,G w hp->AllF F hp->Seg hp (aD B j).b 0 (aD B j).vs->Calls P f args w (Ret w hp (fun v _=>Φ v)))(H:∀ v w' a,Up w h w' a->SS w0 h0 w' a B Rs F->Φ v->LG P n N R X ops (k+1) ((t,v)::Γ) w')(e:decide (j<B.length)=true:=by kernel_rfl)(i:cL ops Γ k t n=true:=by kernel_rfl)(hr:(execOp (ev Γ) (av ops k)).run P w=.ok (.enter f args) w:=by kernel_rfl):LG P n N R X ops k Γ w :=
 ec t (s.lends (oT e) c) (fun v w' a u d=>H v w' a u (s.step u) d) i hr
theorem SS.lends2 (s:SS w0 h0 w h B Rs F){i j:Nat}(hi:i<B.length)(D:j<B.length)(x:i≠j){f:FuncId}{args:Array Value}{Φ:Value->Prop}(c:∀ a,G w a->AllF F a->Seg a (aD B i).b 0 (aD B i).vs->Seg a (aD B j).b 0 (aD B j).vs->Calls P f args w (Ret w a (fun v _=>Φ v))):Calls P f args w (Ret w h (fun v _=>Φ v)):=by
 have C:=bC hi;have d:=bC D;have K:(aD B j).b≠(aD B i).b:=cB s.st (decide_eq_true D) (decide_eq_true hi) (by simpa using x.symm);obtain ⟨a,g,gw,M,H⟩:=Bv s.g (s.st.jk _ C) (s.st.own _ C);have l:a[(aD B j).b]?=some junk:=by rw[H _ K];exact s.st.jk _ d
 obtain ⟨z,I,k,y,p⟩:=Bv g l (s.st.own _ d);refine (c z I ((s.f.gw s.mo gw).gw s.mo k) (M.gw k) y).mono ?_;rintro e w' ⟨v,Q,L,u,o⟩;obtain ⟨h1,u1⟩:=qM l p (g.sz I) u;obtain ⟨O,J⟩:=qM (s.st.jk _ C) H (s.g.sz g) u1;exact ⟨v,O,L,J,o⟩
theorem HR (t i j:Nat){f:FuncId}{args:Array Value}{Φ:Value->Prop}(s:SS w0 h0 w h B Rs F)(c:∀ hp,G w hp->AllF F hp->Seg hp (aD B i).b 0 (aD B i).vs->Seg hp (aD B j).b 0 (aD B j).vs->Calls P f args w (Ret w hp (fun v _=>Φ v)))(H:∀ v w' h',SS w0 h0 w' h' B Rs F->Φ v->LG P n N R X ops (k+1) ((t,v)::Γ) w')(a:(decide (i<B.length) && decide (j<B.length) && (i != j))=true:=by kernel_rfl)(d:cL ops Γ k t n=true:=by kernel_rfl)(hr:(execOp (ev Γ) (av ops k)).run P w=.ok (.enter f args) w:=by kernel_rfl):LG P n N R X ops k Γ w:=by
 simp only[hN,decide_eq_true_eq,bne_iff_ne,ne_eq] at a
 exact lC t s (s.lends2 a.1.1 a.1.2 a.2 c) H d hr
theorem AI {w w':World}{h i f:Hp}{b:Nat}{M:List Nat}(k:h[b]?=some junk)(o:∀ c,c≠b->i[c]?=h[c]?)(j:i.size=h.size)(u:UpM M w i w' f):∃ d,UpM M w h w' d/\(∀ c,c≠b->d[c]?=f[c]?):=by
 have p:=aI k;have a:b<f.size:=ep oM u.gr.size;refine ⟨f.setIfInBounds b junk,⟨u.mo,⟨by simp;rw[<-j];exact u.gr.size,fun c l=>?_⟩,⟨by simp;exact u.g.size,fun c=>?_⟩⟩,fun c l=>g6 (Ne.symm l)⟩
 ·by_cases e:b=c
  ·subst e;rw[yy a,k]
  ·rw[g6 e,u.gr.blk c oM,o c (Ne.symm e)]
 ·by_cases e:b=c
  ·subst e;right;rw[yy a]
  ·rw[g6 e];exact u.g.blk c
theorem GD (t i j:Nat){f:FuncId}{args:Array Value}{Φ:Value->World->Prop}(s:SS w0 h0 w h B Rs F)(c:∀ l,G w l->AllF F l->l[(aD B i).b]?=some junk->Seg l (aD B j).b 0 (aD B j).vs->Calls P f args w (bV (aD B i).b w l (fun v w' _=>Φ v w')))(H:∀ v w' o,UpM [(aD B i).b] w h w' o->Φ v w'->LG P n N R X ops (k+1) ((t,v)::Γ) w')(a:(decide (i<B.length) && decide (j<B.length) && (i != j))=true:=by kernel_rfl)(z:cL ops Γ k t n=true:=by kernel_rfl)(hr:(execOp (ev Γ) (av ops k)).run P w=.ok (.enter f args) w:=by kernel_rfl):LG P n N R X ops k Γ w:=by
 simp only[hN,decide_eq_true_eq,bne_iff_ne,ne_eq] at a
 have x:=bC a.1.2;have C:(aD B i).b≠(aD B j).b:=cB s.st (decide_eq_true a.1.1) (decide_eq_true a.1.2) (by simpa using a.2);obtain ⟨l,g,gw,I,y⟩:=Bv s.g (s.st.jk _ x) (s.st.own _ x);refine bn (rb:=(aD B i).b) (Φ:=fun v w' _=>Φ v w') (h:=h) t ((c l g (s.f.gw s.mo gw) (by rw[y _ C];exact s.st.jk _ (bC a.1.1)) I).mono ?_) (fun v w' o u d=>H v w' o u d) z hr;rintro e w' ⟨v,o,D,u,d⟩;obtain ⟨p,J,_⟩:=AI (s.st.jk _ x) y (s.g.sz g) u;exact ⟨v,p,D,J,d⟩
theorem Iz {α:Type}(t j:Nat)(x y:Operand)(D e:TypeId)(f:α->List Value)(d:α)(A:Z9)(l2:List α)(m m2 c V:Nat)(s:SS w0 h0 w h B Rs F)(so:SlO 1 f d h A l2)(J:l2.length=m2)(O:m2=m)(Q:0<m)(i:(aD B j).vs.length=m)
  (H:∀ w',SS w0 h0 w' h (gG B j (l2.flatMap f)) Rs F->LG P n N R X ops (k+1) ((t,.int .i64 (m:Nat))::Γ) w')(S:m<=1099511627776:=by omega)(I:cL ops Γ k t n=true:=by kernel_rfl)(W:decide (j<B.length)=true:=by kernel_rfl)
  (hf:∀ x,(f x).length=1:=by intro _;rfl)(h1:∀ x,(f x).all (·.oneCell')=true:=by intro _;kernel_rfl)(ho:(av ops k).op=.call { callee:=.builtin .copy,args:=#[x,y],argTypes:=#[D,D] }:=by kernel_rfl)(hx:ev Γ x=.slice (some ⟨(aD B j).b,0,none⟩) m V:=by kernel_rfl)(U:ev Γ y=.slice A m2 c:=by kernel_rfl)
  (hu:P.underlying D=some (.slice e):=by kernel_rfl)(hi:(P.info? e).map (·.size)=some 1:=by kernel_rfl):LG P n N R X ops k Γ w:=by
 subst O;have hm:=J;have o:=oT W;have z:=s.st.own _ (bC o);have C:(l2.flatMap f).length=m2:=by rw[da hf,hm];omega
 rw[so.ok oM] at U
 have l:=run_copy_row (P:=P) w D D (av ops k).type e (aD B j).b 0 m2 V ⟨aB A,aO A,none⟩ m2 c (aD B j).vs.toArray (aD B j).t (l2.flatMap f) hu hi z (by rw[C];exact (Nat.min_self m2).symm) (f5 s.g (so.flat hf)) (by rw[C];simp[i]) (fun u hu=>by
  obtain ⟨a,_,ha⟩:=Jx.1 hu;exact (i3.1 (h1 a)) u ha)
 have Y:((aD B j).vs.toArray.toList.take 0++l2.flatMap f++(aD B j).vs.toArray.toList.drop (0+(l2.flatMap f).length)).toArray=(l2.flatMap f).toArray:=by
  rw[C];simp[Jy,i]
 rw[Y,C] at l
 have p:Put (aD B j).b w (w.setRow (aD B j).b (l2.flatMap f).toArray):=⟨rfl,rfl,rfl,by simp,fun c I=>setRow_other _ _ _ _ I⟩
 have L:Own (w.setRow (aD B j).b (l2.flatMap f).toArray) (aD B j).b (aD B j).t (cj (aD B j).vs 0 (l2.flatMap f)):=by
  have M:cj (aD B j).vs 0 (l2.flatMap f)=l2.flatMap f:=by
   have:=j3 (l2.flatMap f) (aD B j).vs [] (by rw[i,C])
   simpa using this
  rw[M];exact setRow_heap _ _ _ _ _ _ z
 have K:=s.st.put s.g0 o p L
 have M:cj (aD B j).vs 0 (l2.flatMap f)=l2.flatMap f:=by
  have:=j3 (l2.flatMap f) (aD B j).vs [] (by rw[i,C])
  simpa using this
 unfold fU at K
 rw[M] at K
 refine LG.val t _ _ (bS I).1 (bS I).2 ?_ (H _ (s.put0 o p K (jy o)))
 unfold execOp
 have Z:goInt m2=.int .i64 (m2:Nat):=rfl;rw[Z] at l
 simp only[ho,resolve,invoke,builtin,Sem.run_bind,Sem.run_pure,Result.andThen_ok,JB,yh,JC,hx,U,l]
theorem pE {Q:Exit->Act->World->Prop}{i:Nat}{u:Oper}{v:Value}{S:World->Prop}(hi:ops[i]?=some u)(p:∀ (j:Nat) (o:Oper) cs b,ops[j]?=some o->o.op≠.select cs b)
    (Z:∀ c a w,Q (.panic c) (a.put u.dst v) w->Q (.panic c) a w)(W:∀ w w',S w->Tl M w w'->S w') :
    ∀ (n:Nat) (L:Array Bool) (a:Act) (w:World),
      (∀ j x,ops[j]?=some x->j≠i->L.getD j true=false->(∀ e∈x.after,Region.binds .any e=true->e.on≠i)->u.apart ops x=true) ->
      i∈Region.ready .any ops L->YieldsIf P ops S u v a->S w->ot M P ops Q 0 n (L.setIfInBounds i true) (a.put u.dst v) w->ot M P ops Q 0 (n+1) L a w:=by
  intro n
  induction n with
  | zero =>
    intro L a w _ hr F I H;refine ⟨fun h=>(by rw[h] at hr;cases hr),fun j D=>?_⟩
    by_cases hji:j=i
    . subst hji;exact F.wpOp hi I ⟨Rl.refl _ _ _ _,H⟩
    . have:=ready_mono D hji
      rw[H.1] at this
      cases this
  | succ n ih =>
    intro L a w d hr F I H;refine ⟨fun h=>(by rw[h] at hr;cases hr),fun j D=>?_⟩
    by_cases hji:j=i
    . subst hji;exact F.wpOp hi I ⟨Rl.refl _ _ _ _,H⟩
    . have h1:=H.2 j (ready_mono D hji)
      obtain ⟨l,x,y,z⟩:=mem_ready.1 D
      have B:∀ e∈x.after,Region.binds .any e=true->e.on≠i:=fun e he hb U=>by
        have h1:=z e he hb;have h0:=(mem_ready.1 hr).1;rw[U] at h1
        obtain ⟨hl,V⟩:=Ew h0
        simp[Array.getD,hl,V] at h1
      have h2:=wpOp_putIf y (d j x y hji l B) (fun cs b=>p i u cs b hi) (fun cs b=>p j x cs b y) Z F h1
      have f:∀ k ok,ops[k]?=some ok->k≠i->(L.setIfInBounds j true).getD k true=false ->
          (∀ e∈ok.after,Region.binds .any e=true->e.on≠i)->u.apart ops ok=true:=fun k ok X K C O=>by
        refine d k ok X K ?_ O
        by_cases hjk:j=k
        . subst hjk;exact l
        . rw[getD_set_ne true hjk] at C;exact C
      refine wpOp_mono (fun Y w' J=>⟨J.2.1,ih (L.setIfInBounds j true) Y w' f (ready_mono hr (Ne.symm hji)) J.1 (W _ _ I (J.2.1.2 (JF _))) ?_⟩) h2;rw[Array.setIfInBounds_comm _ _ hji];exact J.2.2
def Cm (n:Nat)(ops:Array Oper)(L:Array Bool)(Γ:ck)(i t:Nat):Bool :=
  decide (i<ops.size) && Region.noSelect ops && Region.free .any ops L i && (Region.ready .any ops L).contains i && ((av ops i).dst == some t) && decide (t<n) && ba Γ (av ops i) && (bu ops Γ (av ops i) == some true)
theorem Dq (i t:Nat)(v:Value){S:World->Prop}(e:∀ w w',S w->Tl M w w'->S w')(B:S w)(hv:∀ w',S w'->(execOp (ev Γ) (av ops i)).run P w'=.ok (.value v) w')(H:AG M P n N R X ops 0 (L.setIfInBounds i true) ((t,v)::Γ) w)(b:Cm n ops L Γ i t=true):AG M P n N R X ops 0 L Γ w:=by
 unfold Cm at b
 simp only[hN,decide_eq_true_eq,beq_iff_eq] at b
 obtain ⟨⟨⟨⟨⟨⟨⟨h1,o⟩,I⟩,x⟩,J⟩,D⟩,p⟩,K⟩:=b;have hr:i∈Region.ready .any ops L:=by simpa using x
 have h:=bN (ops:=ops) h1;intro a f;have z:=f.exec (Region.noSelect_spec o i _ · · h) p;have F:=H _ (f.put D v)
 unfold A at *
 rw[d6 hr];refine pE (S:=S) h (Region.noSelect_spec o) (fun c a w u=>u.elim) e _ _ _ _ (fun j C y k l=>Region.free_spec h I j C y k l) hr (.inl ⟨f.want K,fun w' d=>by rw[z];exact hv w' d⟩) B ?_;rw[J];exact F
theorem zV (i t:Nat)(v:Value)(H:AG M P n N R X ops 0 (L.setIfInBounds i true) ((t,v)::Γ) w)(a:Cm n ops L Γ i t=true:=by kernel_rfl)(hv:∀ w,(execOp (ev Γ) (av ops i)).run P w=.ok (.value v) w:=by intro _;kernel_rfl):AG M P n N R X ops 0 L Γ w :=
 Dq i t v (S:=fun _=>True) (fun _ _ _ _=>trivial) trivial (fun w' _=>hv w') H a
theorem zO {K:Nat}(i t:Nat)(ps:List (Nat × Nat × Nat))(v:Value)(hz:M.z=some (K,[]))(k:K<=w.heap.size)(s:SS w0 h0 w h B Rs F)(f:∀ p∈ps,(aD B p.1).b<K)(H:AG M P n N R X ops 0 (L.setIfInBounds i true) ((t,v)::Γ) w)(l:Cm n ops L Γ i t=true:=by kernel_rfl)(I:bR B ps=true:=by kernel_rfl)(y:bP P (execOp (ev Γ) (av ops i)) (cf B ps)=some (.value v,bO B ps):=by kernel_rfl):AG M P n N R X ops 0 L Γ w :=
 Dq i t v (S:=fun w'=>K<=w'.heap.size/\∀ b,b<K->w'.heap[b]?=w.heap[b]?) (fun w1 w2 c o=>by
  obtain ⟨h1,C⟩:=o K [] hz;exact ⟨ed c.1 h1,fun b j=>(C b j List.not_mem_nil).trans (c.2 b j)⟩) ⟨k,fun _ _=>rfl⟩ (fun w' c=>bH _ _ _ _ y (fun q a u ha hu=>by
  obtain ⟨p,d,e⟩:=qI ps q a ha;have:=bQ (fun x D=>s.st.own x D) ps I q a u ha hu;rw[<-this]
  unfold World.cell?
  rw[c.2 _ (e▸f p d)])) H l
theorem zC (i t:Nat){f:FuncId}{args:Array Value}(c:Calls P f args w fun e w'=>∃ v,e=.returned v/\Tl M w w'/\AG M P n N R X ops 0 (L.setIfInBounds i true) ((t,v)::Γ) w')(h:(gY ops 0 L i && ba Γ (av ops i) && ((av ops i).dst == some t) && decide (t<n))=true:=by kernel_rfl)(k:bu ops Γ (av ops i)=some true:=by kernel_rfl)
  (hr:(execOp (ev Γ) (av ops i)).run P w=.ok (.enter f args) w:=by kernel_rfl):AG M P n N R X ops 0 L Γ w:=by
 simp only[hN,decide_eq_true_eq,beq_iff_eq] at h
 obtain ⟨⟨⟨h1,o⟩,p⟩,l⟩:=h;obtain ⟨j,u⟩:=js h1;intro a d;refine A.one h1 j (R':=fun v w'=>Tl M w w'/\AG M P n N R X ops 0 (L.setIfInBounds i true) ((t,v)::Γ) w') ⟨d.want k,.inr (.inr ⟨f,args,?_,c⟩)⟩ (fun v w' b=>b.1) (fun v w' b=>?_)
 ·rw[d.exec (Region.noSelect_spec u i _ · · j) o];exact hr
 ·rw[p];exact b.2 _ (d.put l v)
theorem Em {K:Nat}{w':World}(hz:M.z=some (K,[]))(a:K<=w.heap.size)(x:Ext w w'):Tl M w w':=fun d bs e=>by
 rw[hz] at e
 injection e with e;injection e with e1 e2
 subst e1 e2;exact ⟨x.size,fun b c _=>Below.block x b oM⟩
theorem Gy {K b:Nat}{w':World}(hz:M.z=some (K,[]))(a:K<=w.heap.size)(f:K<=b)(x:Mo [b] w w'):Tl M w w':=fun h bs e=>by
 rw[hz] at e
 injection e with e;injection e with e1 e2
 subst e1 e2;exact ⟨x.size,fun c d _=>x.blk c oM (by simp;omega)⟩
theorem xo {K:Nat}(i t:Nat){f:FuncId}{args:Array Value}{Φ:Value->Hp->Prop}(c:Calls P f args w (Ret w h Φ))(hz:M.z=some (K,[]))(d:K<=w.heap.size)(H:∀ v w' a,Up w h w' a->K<=w'.heap.size->Φ v a->AG M P n N R X ops 0 (L.setIfInBounds i true) ((t,v)::Γ) w')(j:(gY ops 0 L i && ba Γ (av ops i) && ((av ops i).dst == some t) && decide (t<n))=true:=by kernel_rfl)(k:bu ops Γ (av ops i)=some true:=by kernel_rfl)
  (hr:(execOp (ev Γ) (av ops i)).run P w=.ok (.enter f args) w:=by kernel_rfl):AG M P n N R X ops 0 L Γ w :=
 zC i t (c.mono fun e w' ⟨v,a,l,u,b⟩=>⟨v,l,Em hz d u.ext,H v w' a u (ed d u.ext.size) b⟩) j k hr
theorem IS {K rb:Nat}(i t:Nat){f:FuncId}{args:Array Value}{Φ:Value->World->Hp->Prop}(c:Calls P f args w (bV rb w h Φ))(hz:M.z=some (K,[]))(j:K<=w.heap.size)(b:K<=rb)(H:∀ v w' a,UpM [rb] w h w' a->K<=w'.heap.size->Φ v w' a->AG M P n N R X ops 0 (L.setIfInBounds i true) ((t,v)::Γ) w')(k:(gY ops 0 L i && ba Γ (av ops i) && ((av ops i).dst == some t) && decide (t<n))=true:=by kernel_rfl)(l:bu ops Γ (av ops i)=some true:=by kernel_rfl)
  (hr:(execOp (ev Γ) (av ops i)).run P w=.ok (.enter f args) w:=by kernel_rfl):AG M P n N R X ops 0 L Γ w :=
 zC i t (c.mono fun e w' ⟨v,a,o,u,d⟩=>⟨v,o,Gy hz j b u.mo,H v w' a u (ed j u.mo.size) d⟩) k l hr
theorem gm (s:SS w0 h0 w h B Rs F)(j:Nat)(a:decide (j<B.length)=true:=by kernel_rfl):(aD B j).b<w.heap.size:=by rw[s.g.size];exact aI (s.jk j a)
theorem FK (t b o len cap sz:Nat)(i:Int)(j e:Nat)(H:LG P n N R X ops (k+1) ((t,.pointer (some ⟨b,0+e*sz,none⟩))::Γ) w)(d:cL ops Γ k t n=true:=by kernel_rfl)(h:CB P (ev Γ) (av ops k)=some (.slice (some ⟨b,o,none⟩) len cap,.int .i64 i,sz):=by kernel_rfl)(f:i=j:=by omega)(c:j<len:=by omega)(a:o+j*sz=0+e*sz:=by omega):LG P n N R X ops k Γ w :=
 LG.val t _ w (bS d).1 (bS d).2 (a▸gi h rfl f c w) H
theorem Iw (i t b o len cap sz:Nat)(x:Int)(j e:Nat)(H:AG M P n N R X ops k0 (L.setIfInBounds i true) ((t,.pointer (some ⟨b,0+e*sz,none⟩))::Γ) w)(d:cE n ops k0 [] L Γ i t=true:=by kernel_rfl)(h:CB P (ev Γ) (av ops i)=some (.slice (some ⟨b,o,none⟩) len cap,.int .i64 x,sz):=by kernel_rfl)(f:x=j:=by omega)(c:j<len:=by omega)(a:o+j*sz=0+e*sz:=by omega):AG M P n N R X ops k0 L Γ w :=
 aV i t _ H d (fun w=>a▸gi h rfl f c w)
theorem IV (i t b o len cap sz:Nat)(x:Int)(j e:Nat)(H:AG M P n N R X ops k0 (L.setIfInBounds i true) ((t,.pointer (some ⟨b,0+e*sz,none⟩))::Γ) w)(d:cT n ops k0 L Γ i t=true:=by kernel_rfl)(h:CB P (ev Γ) (av ops i)=some (.slice (some ⟨b,o,none⟩) len cap,.int .i64 x,sz):=by kernel_rfl)(f:x=j:=by omega)(c:j<len:=by omega)(a:o+j*sz=0+e*sz:=by omega):AG M P n N R X ops k0 L Γ w :=
 T.val i t _ w (oH d).1 (oH d).2 (a▸gi h rfl f c w) H
theorem IM (t b o len cap sz:Nat)(i:Int)(j d:Nat)(H:LG P n N R X ops (k+1) ((t,.slice (some ⟨b,d,none⟩) (len-j) (cap-j))::Γ) w)(l:cL ops Γ k t n=true:=by kernel_rfl)(u:EV P (ev Γ) (av ops k)=some (.slice (some ⟨b,o,none⟩) len cap,some (.int .i64 i),none,sz):=by kernel_rfl)(p:i=j:=by omega)(f:j<=len:=by omega)(c:cap≠j:=by omega)(a:d=o+j*sz:=by omega):LG P n N R X ops k Γ w:=by
 have h:=pJ j u p f w;rw[if_neg c] at h
 have e:(some (⟨b,o,none⟩:Addr)).map (·.add (j*sz))=some ⟨b,d,none⟩:=by subst a;simp[Addr.add]
 rw[e] at h
 exact LG.val t _ w (bS l).1 (bS l).2 h H
theorem SS.torow {α:Type}(s:SS w0 h0 w h B Rs F)(j:Nat)(f:α->List Value)(l:List α)(sz m:Nat)(z:l.length=m)(C:m<=1099511627776)(hB:(aD B j).vs=l.flatMap f:=by kernel_rfl)(hf:∀ x,(f x).length=sz:=by intro _;rfl)(u:decide (j<B.length)=true:=by kernel_rfl) :
    SS w0 h0 w h (B.eraseIdx j) (⟨(aD B j).t,sz,some ⟨(aD B j).b,0,none⟩,m,m,l.flatMap f⟩::Rs) F:=by
  have o:=oT u;have d:=bC o;have D:=s.st.own _ d
  have y:∀ x∈B.eraseIdx j,x.b≠(aD B j).b:=by
    intro x a c;obtain ⟨i,hi,p⟩:=p2.1 a;rw[List.getElem_eraseIdx] at p
    rw[List.length_eraseIdx_of_lt o] at hi
    split at p
    . rename_i H
      refine cB s.st (i:=i) (j:=j) (decide_eq_true oM) u (by simp;omega) ?_;rw[<-c,<-p];simp[aD,show i<B.length by omega]
    . rename_i H
      refine cB s.st (i:=i+1) (j:=j) (decide_eq_true oM) u (by simp;omega) ?_;rw[<-c,<-p];simp[aD,show i+1<B.length by omega]
  refine ⟨s.g0,⟨s.st.up,fun x a=>s.st.own x (y3 a),fun x a=>s.st.jk x (y3 a),fun x a=>s.st.lo x (y3 a),s.st.nd.sublist ((List.eraseIdx_sublist B j).map (·.b))⟩,?_,?_,s.mo,s.f⟩
  . intro r hr
    rcases List.mem_cons.1 hr with rfl|hr
    . refine ⟨⟨by rw[da hf,z],.inr ⟨(aD B j).b,m,(aD B j).vs.toArray,rfl,s.st.lo _ d,D,eb _,by unfold maxLen;omega,by rw[hB];simp[da hf,z],by rw[hB];simp[I5,da hf,z]⟩⟩,?_,?_⟩
      . intro b c
        have:(aD B j).b=b:=by simpa [Rw.v,Value.ownBlock] using c
        rw[<-this];exact s.st.jk _ d
      . intro b c k
        have:(aD B j).b=b:=by simpa [Rw.v,Value.ownBlock] using c
        obtain ⟨x,a,e⟩:=ga.1 k;exact y x a (e.trans this.symm)
    . exact (s.ro r hr).sub _ (fun b c=>by
        obtain ⟨x,a,e⟩:=ga.1 c;exact ga.2 ⟨x,y3 a,e⟩)
  . refine List.pairwise_cons.2 ⟨fun r hr b c hv=>?_,s.ap⟩
    have:(aD B j).b=b:=by simpa [Rw.v,Value.ownBlock] using c
    exact (s.ro r hr).ap b hv (this▸ga.2 ⟨_,d,rfl⟩)
theorem Hs {α:Type}(t j m C:Nat)(l:List α)(f:α->List Value)(d x:α)(p:Nat)(z:Value)(s:SS w0 h0 w h B Rs F)(U:Seg h C 0 (f x))(K:l.length=m)(I:m<=1000000000)
  (H:∀ a c' w' c,SS w0 h0 w' c (B.eraseIdx j) Rs ((fun h=>SlO 1 f d h a (l++[x]))::F)->m+1<=c'->LG P n N R X ops (k+1) ((t,.slice a (m+1) c')::Γ) w')(M:cL ops Γ k t n=true:=by kernel_rfl)(O:decide (j<B.length)=true:=by kernel_rfl)(hB:(aD B j).vs=l.flatMap f:=by kernel_rfl)
  (S:Ae P (ev Γ) (av ops k)=some (.slice (some ⟨(aD B j).b,0,none⟩) m m,.slice (some ⟨C,0,none⟩) 1 1,(aD B j).t,z,1,p):=by kernel_rfl)(y:z.cells.size=1:=by kernel_rfl)(hf:∀ x,(f x).length=1:=by intro _;rfl)(h1:(f x).all (·.oneCell')=true:=by kernel_rfl)(e:p<=100:=by decide):LG P n N R X ops k Γ w:=by
 have L:=s.torow j f l 1 m K oM hB hf O
 refine Ie t 0 (f x) L (ma L.g U) (hf x) (fun u hu=>(i3.1 h1) u hu) (by simp) rfl M S y kD oM (by
  have:(m+1)*p<=(m+1)*100:=A8 _ e
  omega) (fun a c' w' c J=>?_)
 have D:m+1=(l++[x]).length:=by simp[K]
 have V:l.flatMap f++f x=(l++[x]).flatMap f:=by simp
 rw[V,Jz] at J
 have W:SS w0 h0 w' c (B.eraseIdx j) (⟨(aD B j).t,1,a,c',(l++[x]).length,(l++[x]).flatMap f⟩::Rs) F:=by rw[<-D];exact J
 obtain ⟨i,Q,o⟩:=W.pubr 0 d hf rfl (by simp);exact H a c' w' i Q (by rw[D];exact o)
theorem SS.perm (s:SS w0 h0 w h B Rs F){B':List Bx}(p:B.Perm B'):SS w0 h0 w h B' Rs F :=
 ⟨s.g0,⟨s.st.up,fun x a=>s.st.own x (p.mem_iff.2 a),fun x a=>s.st.jk x (p.mem_iff.2 a),fun x a=>s.st.lo x (p.mem_iff.2 a),(p.map (·.b)).nodup_iff.1 s.st.nd⟩,
  fun r hr=>(s.ro r hr).sub _ (fun b c=>(p.map (·.b)).mem_iff.2 c),s.ap,s.mo,s.f⟩
end
theorem jO (a:Nat)(A:Z9)(c:Nat)(hc:(lim a).length<=c)(W:(lim a).length<=4000000000)(k:Nat)(hk:k<=4000000000)(w:World)(h:Hp)(g:G w h)(hA:S3 A (lim a) h):CR 226 #[.slice A ((lim a).length) c,nV k] w h (fun v h1=>RN h1 v (a*2^k)):=by
 have d:=((sS g).aS hA);obtain ⟨L,hL⟩:∃ L:List Nat,L=um (k/32) 0:=⟨_,rfl⟩;have F:L.length=k/32:=by rw[hL,List.length_replicate]
 refine go Tryz.func226 [(0,qS A ((lim a).length) c),(1,nV k)] rfl (aa d ac (ai (aa d ac ?_)));have ⟨I,U⟩:=dT (p:=(0:Int)<=(k:Int)) oM;refine lB 12 I (ak (aa d ac (lV 14 (nV L.length) ?_ (hr:=aN (aN (db (t:=3) (u:=3) (x:=.tmp 13) (y:=.const (iV 32)) (k:=.i64) (a:=(k:Int)) (b:=(32:Int)) kR kR kR oM _) (de k 32 oM)) oM))));refine lK 15 158 L.length 1 4 (uW 0) aW 0 d (fun Q w3 h4 d=>?_);have hl5:(um L.length 0).length=L.length:=by simp
 refine lL d ac (aE (lL d ac (ai (aG ?_))));rw[show um L.length 0=L by rw[F];exact hL.symm] at d
 replace d:=d.torow 0 aW L 1 L.length rfl oM;replace d:=d.to [] [⟨158,1,sB Q,L.length,(L).length,(L).flatMap aW⟩];refine lL d ac (bx ?_);refine bG _ (CG.loop (fun K Γ w_=>∃ (i:Nat)(C:Z9)(z:Nat)(l:List Nat)(e:Nat)(h_:Hp),K=(lim a).length+1-i/\Γ=[(0,qS A ((lim a).length) c),(1,nV k),(4,sZ),(7,nV i),(6,mV e),(5,qS C ((l).length) z)]/\SS w h w_ h_ [] [⟨158,1,C,z,(l).length,(l).flatMap aW⟩] [S3 A (lim a)]/\i<=(lim a).length+1/\l.length=L.length+i/\Ld l/\e<2^(k%32)/\am 4294967296 l+4294967296^l.length*e=4294967296^L.length*(2^(k%32)*am 4294967296 ((lim a).take i))) _ ⟨0,sB Q,L.length,L,0,h4,rfl,rfl,d.to _ _,JF _,rfl,(by rw[hL];exact Ld.rep _),A0 _,(by rw[hL,di];simp[am])⟩ ?_);rintro _ _ w6 ⟨i,C,z,l,e,h7,X,rfl,d,hi,j,V,J,B⟩;have M:=(Ld.lim a).get i;refine cQ (aa d [.c,.c,.v (nV ((lim a).length))] ?_);cases o:(decide ((i:Int)<=(((lim a).length:Nat):Int)))
 .
  have D:=oF o;refine lB 19 o (ah (CG.exit ?_))
  show CG _ _ _ _ _ _ _ _
  refine aa d ac ?_;have hin:i=(lim a).length+1:=by omega
  rw[I5 (show (lim a).length<=i by omega),cu,j] at B
  have hE:am 4294967296 l=a*2^k:=tf (c:=e) (by rw[j,B,wo k,F];ac_rfl) (by rw[j,wo k];exact t7 (cI a) oM oM);obtain ⟨_,d,S⟩:=d.pubr 0 (A:=C) (c:=z) (l:=l) (f:=aW) (ty:=158) (sz:=1) 0 (fun _=>rfl);exact aq 39 d (iI C z l ((l).length) rfl oM S _ _ d.g d.f.1) (fun _ _ d=>lL d ac (af d [] (qS C (tl l ((l).length)) z) (RN.trim V hE rfl S d.f.1)))
 have D:=oT o;refine lB 19 o (ak (cK (cQ (kZ (aa d dx (aq 25 d (FG A c (lim a) ((lim a).length) rfl i oM (Ld.lim _) _ _ d.g d.f.1) (fun _ _ d=>lL d ac (lV 27 (nV (k%32)) ?_ (hr:=aN (d4 (t:=3) (u:=3) (x:=.tmp 26) (y:=.const (iV 32)) (k:=.i64) (a:=(k:Int)) (b:=(32:Int)) kR kR kR oM _) (cM k 32))))))))));refine lV 28 (mV (k%32)) ?_ (hr:=rU (((k%32:Nat):Int)) kR (ay oM oM));refine lV 29 (mV (((lim a).getD i 0)*2^(k%32)%18446744073709551616)) ?_ (hr:=gA (t:=22) (u:=159) (x:=.tmp 25) (y:=.tmp 28) (ky:=.u64) (a:=((lim a).getD i 0)) (n:=(k%32)) kR kR kR _);obtain ⟨O,Y,H⟩:=G0 (x:=(lim a).getD i 0) (p:=k%32) (c:=e) oM M J;refine lV 30 (mV (e+(lim a).getD i 0*2^(k%32))) ?_ (hr:=aN (gc (t:=22) (u:=22) (x:=.tmp 22) (y:=.tmp 29) (a:=e) (b:=(((lim a).getD i 0)*2^(k%32)%18446744073709551616:Nat)) kR kR kR oM oM _) (by rw[O]));refine lL d ac (aE (lL d aF (lV 33 (mW ((e+(lim a).getD i 0*2^(k%32))%4294967296)) ?_ (hr:=rT (((e+(lim a).getD i 0*2^(k%32):Nat):Int)) kR (fY _)))));refine lR 34 158 1 ([mW ((e+(lim a).getD i 0*2^(k%32))%4294967296)]) d (fun Z _ _ d=>lY 35 0 158 1 z C l aW ((e+(lim a).getD i 0*2^(k%32))%4294967296:Nat) 4 Z (uW 0) d d.f.1 (fun zc zd _ ze d=>lL d ac (lN (kQ (lL d ac (lV 37 (mV ((e+(lim a).getD i 0*2^(k%32))/4294967296)) ?_ (hr:=aN (n:=JD ((e+(lim a).getD i 0*2^(k%32):Nat):Int) 4294967296) kR (dI _ 4294967296))))))));refine lL d ac (lN (kQ (lL d ac (bg 21 ((i:Nat)+1) (i+1) ?_))));refine lL d ac (lD ?_);intro a_ ka;replace d:=d.tl;refine ⟨_,_,?_,⟨i+1,zc,zd,l++[((e+(lim a).getD i 0*2^(k%32))%4294967296:Nat)],((e+(lim a).getD i 0*2^(k%32))/4294967296:Nat),ze,rfl,rfl,d.to _ _,oM,(by rw[s6,j];rfl),(V.app (va _ kD)),H,(xJ kD B j rfl rfl)⟩,ka.to _ kR⟩
 omega
theorem xT (a:Nat)(A:Z9)(c:Nat)(H:(lim a).length<=c)(p:(lim a).length<=4000000000)(w:World)(h:Hp)(g:G w h)(y:S3 A (lim a) h):CV 225 #[.slice A ((lim a).length) c] w h (nV (nb a)):=by
 have b:=((sS g).aS y);have z:=@bI a;have l:=(Ld.lim a).get ((lim a).length-1);refine go Tryz.func225 [(0,qS A ((lim a).length) c)] rfl (aa b ac (ai (aa b [.c,.v (nV ((lim a).length))] ?_)));cases e:((((lim a).length:Nat):Int) == (0:Int))
 .
  have j:=ao e;refine lB 7 e (ah (cK (aa b [.c,.v (nV ((lim a).length))] (bg 10 (((lim a).length:Nat)-1) (((lim a).length)-1) ?_))));refine bg 11 (32*(((lim a).length)-1:Nat)) (32*(((lim a).length)-1:Nat)) (lL b ac (ai (aa b [.c,.c,.v (nV ((lim a).length))] (lI 15 (((lim a).length:Nat)-1) ?_))));refine lX 16 A ((lim a).length) c 1 (((lim a).length:Nat)-1) (((lim a).length)-1) ((b.f.1).ok oM) (lH 17 (mW ((lim a).getD (((lim a).length)-1) 0)) b ((b.f.1).el (((lim a).length)-1) oM) (lL b ac (bx ?_)));refine bG _ (CG.loop (fun k Γ F=>∃ (n:Nat)(x:Nat)(h_:Hp),k=x/\Γ=[(2,iV 0),(3,nV n),(4,mW x)]/\SS w h F h_ [] [] [S3 A (lim a)]/\n+nb x=nb a/\x<4294967296/\nb a<=128000000000) _ ⟨32*((lim a).length-1),(lim a).getD ((lim a).length-1) 0,h,rfl,rfl,b.to _ _,(xH oM).symm,l,(by have:=Fa a;omega)⟩ ?_);rintro _ _ w2 ⟨n,x,C,D,rfl,b,o,J,u⟩;refine cQ (aa b ac ?_);cases d:(decide ((0:Int)<(x:Int)))
  .
   have i:=oF d;refine lB 19 d (ah (CG.exit ?_))
   show CG _ _ _ _ _ _ _ _
   exact aa b aF (af b [] (nV n) (by obtain rfl:x=0:=oM;rw[BM] at o;rw[<-o];rfl))
  have i:=oT d;refine lB 19 d (ak (cK (cQ (kZ (kQ (lL b ac (bg 23 ((n:Nat)+1) (n+1) ?_)))))));refine lL b ac (lN (kQ (lL b ac (lV 21 (mW (x/2)) ?_ (hr:=aN (n:=JD (x:Nat) 2) kR (dI x 2))))));refine lL b ac (lD ?_);intro I B;refine ⟨_,_,?_,⟨n+1,x/2,C,rfl,rfl,b.to _ _,(by have:=BR (n:=x) oM;omega),oM,u⟩,B.to _ kR⟩
  omega
 have j:=eq_of_beq e;exact lB 7 e (ak (aa b ac (af b [] (iV 0) (by obtain rfl:a=0:=oM;rfl))))
theorem rj (a:Nat)(A:Z9)(c:Nat)(hc:(lim a).length<=c)(V:(lim a).length<=4000000000)(k:Nat)(W:0<k)(hk:k<=4000000000)(w:World)(h:Hp)(g:G w h)(hA:S3 A (lim a) h):CR 226 #[.slice A ((lim a).length) c,iV (-(k:Int))] w h (fun v h1=>RN h1 v (a/2^k)):=by
 have d:=((sS g).aS hA);refine go Tryz.func226 [(0,qS A ((lim a).length) c),(1,iV (-(k:Int)))] rfl (aa d ac (ai (aa d ac ?_)));have ⟨H,Q⟩:=dF (p:=(0:Int)<=((-(k:Int)):Int)) oM;refine lB 12 H (ah (cK (aa d ac (lV 41 (nV k) ?_ (hr:=rS ((0-(-(k:Int)))) kR (by rw[IntKind.wrap_i64];omega))))));refine lL d ac (aE (lL d ac (ai (aa d ac (lV 43 (nV (k/32)) ?_ (hr:=aN (db (t:=3) (u:=3) (x:=.tmp 42) (y:=.const (iV 32)) (k:=.i64) (a:=(k:Int)) (b:=(32:Int)) kR kR kR oM _) (de k 32 oM)))))));refine lL d ac (bx ?_);replace d:=d.nil 158 1;refine bG _ (CG.loop (fun L Γ w_=>∃ (j:Nat)(z:Z9)(i:Nat)(l:List Nat)(h_:Hp),L=(lim a).length-(k/32+j)/\Γ=[(0,qS A ((lim a).length) c),(1,nV k),(4,sZ),(9,nV (k/32+j)),(8,qS z ((l).length) i)]/\SS w h w_ h_ [] [⟨158,1,z,i,(l).length,(l).flatMap aW⟩] [S3 A (lim a)]/\l.length=j/\Ld l/\2^(k%32)*am 4294967296 l+((lim a).drop (k/32)).getD 0 0%2^(k%32)=am 4294967296 (((lim a).drop (k/32)).take j)+4294967296^j*(((lim a).drop (k/32)).getD j 0%2^(k%32))/\l.length<=(lim a).length) _ ⟨0,none,0,[],h,rfl,rfl,d.to _ _,rfl,Dg.nil,(by simp[am]),(by simp)⟩ ?_);rintro _ _ w2 ⟨j,z,i,l,h3,hm4,rfl,d,o,S,C,X⟩;have M:=(Ld.lim a).get (k/32+j);have J:=(Ld.lim a).get (k/32+j+1);refine cQ (aa d [.c,.c,.v (nV ((lim a).length))] ?_);cases e:(decide (((k/32+j:Nat):Int)<(((lim a).length:Nat):Int)))
 .
  have D:=oF e;refine lB 47 e (ah (CG.exit ?_))
  show CG _ _ _ _ _ _ _ _
  refine aa d ac ?_;have hE:am 4294967296 l=a/2^k:=Dt oM (by rw[o];exact C);obtain ⟨h6,d,B⟩:=d.pubr 0 (A:=z) (c:=i) (l:=l) (f:=aW) (ty:=158) (sz:=1) 0 (fun _=>rfl);exact aq 69 d (iI z i l ((l).length) rfl oM B _ _ d.g d.f.1) (fun w9 _ d=>lL d ac (af d [] (qS z (tl l ((l).length)) i) (RN.trim S hE rfl B d.f.1)))
 have D:=oT e;refine lB 47 e (ak (cK (cQ (kZ (aa d aF (aq 52 d (FG A c (lim a) ((lim a).length) rfl (k/32+j) oM (Ld.lim _) _ _ d.g d.f.1) (fun _ _ d=>lL d aF (bg 55 ((k/32+j:Nat)+1) ((k/32+j)+1) ?_))))))));refine aq 56 d (FG A c (lim a) ((lim a).length) rfl ((k/32+j)+1) oM (Ld.lim _) _ _ d.g d.f.1) (fun _ _ d=>?_);obtain ⟨O,U,F⟩:=GZ (p:=k%32) oM M J;have K:=bK (l:=lim a) (k:=j) (n:=k/32);have I:=bK (l:=lim a) (k:=j+1) (n:=k/32);refine lV 57 (mV (((lim a).getD ((k/32+j)+1) 0:Nat)*4294967296%18446744073709551616)) ?_ (hr:=rU (((((lim a).getD ((k/32+j)+1) 0:Nat):Int)*4294967296)) kR (jg ((lim a).getD ((k/32+j)+1) 0:Nat) 4294967296));refine lV 58 (mV ((lim a).getD (k/32+j) 0+(lim a).getD (k/32+j+1) 0*4294967296)) ?_ (hr:=aN (gc (t:=22) (u:=22) (x:=.tmp 52) (y:=.tmp 57) (a:=((lim a).getD (k/32+j) 0)) (b:=(((lim a).getD ((k/32+j)+1) 0:Nat)*4294967296%18446744073709551616:Nat)) kR kR kR oM oM _) (by rw[O]));refine lL d ac (lN (kQ (lL d dx (lV 62 (nV (k%32)) ?_ (hr:=aN (d4 (t:=3) (u:=3) (x:=.tmp 61) (y:=.const (iV 32)) (k:=.i64) (a:=(k:Int)) (b:=(32:Int)) kR kR kR oM _) (cM k 32))))));refine lV 63 (mV (k%32)) ?_ (hr:=rU (((k%32:Nat):Int)) kR (ay oM oM));refine lV 64 (mV (((lim a).getD (k/32+j) 0+(lim a).getD (k/32+j+1) 0*4294967296)/2^(k%32))) ?_ (hr:=fO (t:=22) (u:=159) (x:=.tmp 60) (y:=.tmp 63) (ky:=.u64) (a:=((lim a).getD (k/32+j) 0+(lim a).getD (k/32+j+1) 0*4294967296)) (n:=(k%32)) kR kR kR oM _);refine lV 65 (mW ((((lim a).getD (k/32+j) 0+(lim a).getD (k/32+j+1) 0*4294967296)/2^(k%32):Nat)%4294967296)) ?_ (hr:=rT (((((lim a).getD (k/32+j) 0+(lim a).getD (k/32+j+1) 0*4294967296)/2^(k%32):Nat):Int)) kR (fY _));refine lR 66 158 1 ([mW ((((lim a).getD (k/32+j) 0+(lim a).getD (k/32+j+1) 0*4294967296)/2^(k%32):Nat)%4294967296)]) d (fun za _ _ d=>lY 67 0 158 1 i z l aW ((((lim a).getD (k/32+j) 0+(lim a).getD (k/32+j+1) 0*4294967296)/2^(k%32):Nat)%4294967296:Nat) 4 za (uW 0) d d.f.1 (fun Y zc _ Z d=>lL d ac (lN (kQ (lL d ac (bg 49 ((k/32+j:Nat)+1) ((k/32+j)+1) ?_))))));refine lL d ac (lD ?_);intro a_ ka;replace d:=d.tl;refine ⟨_,_,?_,⟨j+1,Y,zc,l++[((((lim a).getD (k/32+j) 0+(lim a).getD (k/32+j+1) 0*4294967296)/2^(k%32):Nat)%4294967296:Nat)],Z,rfl,rfl,d.to _ _,(by rw[s6,o];rfl),(S.app (va _ kD)),(DA o C (by rw[K,I];exact F)),(by rw[s6];show _+1<=_;omega)⟩,ka.to _ kR⟩
 omega
def bc (l:List Nat):Nat:=am 4294967296 l
theorem wK {a b:Nat}(ha:a<4294967296)(d:b<4294967296):a*b<=18446744065119617025:=by
 have h1:a<=4294967295:=by omega
 have c:b<=4294967295:=by omega
 exact Jo h1 c
def l3 (u2 u1 u0:Nat):Nat:=4294967296*(4294967296*u2+u1)+u0
def l2 (v1 v0:Nat):Nat:=4294967296*v1+v0
structure Hss (u2 u1 u0 v1 v0 g r o:Nat):Prop where
  e:g*v1+(r+4294967296*o)=4294967296*u2+u1
  lt:g+1=4294967296\/l3 u2 u1 u0<(g+1)*l2 v1 v0
  gb:g<4294967296
def Ay (u2 u1 u0 v1 v0 g:Nat):Prop:=g*l2 v1 v0<=l3 u2 u1 u0/\(g+1=4294967296\/l3 u2 u1 u0<(g+1)*l2 v1 v0)/\g<4294967296
theorem Ic {g a b:Nat}:g*l2 a b=4294967296*(g*a)+g*b:=by unfold l2;rw[z7,Nat.mul_left_comm]
theorem Hss.fin {c u1 b d a g r o:Nat}(h:Hss c u1 b d a g r o)(f:g*a<=4294967296*(r+4294967296*o)+b):Ay c u1 b d a g:=by
 refine ⟨?_,h.lt,h.gb⟩;rw[Ic]
 unfold l3
 rw[<-h.e,z7]
 omega
theorem E9 {u:List Nat}{k:Nat}(a:2<=k):l3 (u.getD k 0) (u.getD (k-1) 0) (u.getD (k-2) 0)=u.getD k 0*4294967296*4294967296+u.getD (k-1) 0*4294967296+u.getD (k-2) 0:=by
 unfold l3
 rw[z2 (u.getD k 0) 4294967296,z2 (4294967296*u.getD k 0) 4294967296,z2 (u.getD (k-1) 0),z7]
theorem EF {a b:Nat}:l2 a b=a*4294967296+b:=by unfold l2;rw[z2]
section
variable {n j G:Nat}{u v:List Nat}
theorem Fk (o:2<=n)(y:v.length=n)(a:Ld v)(d:Ld u)(hu:j+n<u.length)(i:bc u<4294967296^(j+1)*bc v):u.getD (j+n) 0<=v.getD (n-1) 0:=by
 rcases co (v.getD (n-1) 0) (u.getD (j+n) 0) with h|h
 ·exfalso
  have b:=aJ 4294967296 (l:=v) (k:=n-1) oM;rw[show n-1+1=v.length by omega,s1] at b
  have h1:=bW (Dg.take a (n-1));rw[Ab,Am oM] at h1
  have c:=aJ 4294967296 (l:=u) (k:=j+n) oM;have e:=bX 4294967296 (l:=u) (k:=j+n+1) oM;have p:4294967296^(j+n)*(v.getD (n-1) 0+1)<=4294967296^(j+n)*u.getD (j+n) 0:=A8 _ h
  have f:4294967296^(j+1)*bc v<4294967296^(j+1)*(4294967296^(n-1)*(v.getD (n-1) 0+1)):=by
   refine I0 ?_ (F2 kD)
   show am _ v<_
   rw[b,z7,Nat.mul_one];omega
  rw[<-z8,<-A7,show j+1+(n-1)=j+n by omega] at f
  have z:bc u=am 4294967296 (u.take (j+n))+4294967296^(j+n)*u.getD (j+n) 0+4294967296^(j+n+1)*am 4294967296 (u.drop (j+n+1)):=by
   show am _ u=_
   rw[e,c]
  have x:=JF (4294967296^(j+n+1)*am 4294967296 (u.drop (j+n+1)))
  omega
 ·exact h
theorem vV (f:2<=n)(i:v.length=n)(c:Ld v)(b:Ld u)(hu:j+n<u.length)(a:v.getD (n-1) 0≠0)(e:bc u<4294967296^(j+1)*bc v)(h:Ay (u.getD (j+n) 0) (u.getD (j+n-1) 0) (u.getD (j+n-2) 0) (v.getD (n-1) 0) (v.getD (n-2) 0) G) :
  bc u/(4294967296^j*bc v)<=G/\G<=bc u/(4294967296^j*bc v)+1:=by
 obtain ⟨h1,d,k⟩:=h;rw[E9 oM,EF] at h1 d
 exact mQ kD f i c b hu a e h1 d k
theorem wk (f:2<=n)(e:v.length=n)(a:Ld v)(b:v.getD (n-1) 0≠0):4294967296^(n-1)<=bc v/\bc v<4294967296^n:=by
 have c:=bW a;rw[e] at c
 refine ⟨?_,c⟩;have d:=aJ 4294967296 (l:=v) (k:=n-1) oM;rw[show n-1+1=v.length by omega,s1] at d
 have h:4294967296^(n-1)*1<=4294967296^(n-1)*v.getD (n-1) 0:=A8 _ oM
 show _<=am _ v
 omega
theorem vF (d:2<=n)(c:v.length=n)(a:Ld v)(e:bc u<4294967296^(j+1)*bc v):bc u<4294967296^(j+n+1):=by
 have b:=bW a;rw[c] at b
 have h1:4294967296^(j+1)*bc v<4294967296^(j+1)*4294967296^n:=I0 b (F2 kD);rw[<-A7,show j+1+n=j+n+1 by omega] at h1
 omega
theorem Cs {u1:List Nat}(f:2<=n)(l:v.length=n)(c:Ld v)(i:Ld u)(h:Ld u1)(hu:j+n<u.length)(a:v.getD (n-1) 0≠0)(k:bc u<4294967296^(j+1)*bc v)
  (p:bc u/(4294967296^j*bc v)<=G/\G<=bc u/(4294967296^j*bc v)+1)(d:Above u1 u (j+n+1))(e:bc u1+4294967296^j*(G*bc v)=bc u+4294967296^(j+n+1)*0) :
  bc u1<4294967296^j*bc v/\bc u1+4294967296^j*(G*bc v)=bc u:=by
 obtain ⟨x,o⟩:=wk f l c a;have y:=ei (b:=4294967296) kD d h i (by rw[d.1];omega) (vF f l c k);have:=(fa (b:=4294967296) kD f x o k y e (JF 1) p).1 rfl;rw[Ao,sw] at e
 exact ⟨this.2.2.1,e⟩
theorem G4 {b a W K T c:Nat}(e:a+T*c=b+W)(i:b+W=K+T)(k:a<T)(f:K<W)(l:W<=T):a=K:=by
 have d:c=1:=by
  rcases Nat.lt_trichotomy c 1 with h|h|h
  ·have:c=0:=by omega
   subst this;omega
  ·exact h
  ·have j:T*2<=T*c:=A8 _ h
   omega
 subst d
 omega
theorem En {u1 d:List Nat}{c:Nat}(z:2<=n)(H:v.length=n)(o:Ld v)(h:Ld u)(p:Ld u1)(x:Ld d)(hu:j+n<u.length)(l:v.getD (n-1) 0≠0)(F:bc u<4294967296^(j+1)*bc v)
  (I:bc u/(4294967296^j*bc v)<=G/\G<=bc u/(4294967296^j*bc v)+1)(i:Above u1 u (j+n+1))(a:Above d u (j+n+1))(e:bc u1+4294967296^j*(G*bc v)=bc u+4294967296^(j+n+1)*1)
  (M:bc d+4294967296^(j+n+1)*c=bc u1+4294967296^j*bc v) :
  bc d<4294967296^j*bc v/\bc d+4294967296^j*((G-1)*bc v)=bc u/\0<G:=by
 obtain ⟨Q,C⟩:=wk z H o l;have k:=vF z H o F;have J:=ei (b:=4294967296) kD i p h (by rw[i.1];omega) k;have y:=ei (b:=4294967296) kD a x h (by rw[a.1];omega) k;obtain ⟨L,O,B,S⟩:=(fa (b:=4294967296) kD z Q C F J e oM I).2 rfl
 have f:4294967296^j*bc v<=4294967296^(j+n+1):=by
  have h1:4294967296^j*bc v<=4294967296^j*4294967296^n:=A8 _ (Nat.le_of_lt C);rw[<-A7] at h1
  have K:(4294967296:Nat)^(j+n)<=4294967296^(j+n+1):=A4 kD oM;exact ed h1 K
 have D:bc d=bc u-4294967296^j*((G-1)*bc v):=G4 M O y B f;exact ⟨by rw[D];exact B,by rw[D];exact Nat.sub_add_cancel S,by rw[L];exact JH _⟩
theorem Du {u1:List Nat}(f:2<=n)(l:v.length=n)(c:Ld v)(i:Ld u)(h:Ld u1)(hu:j+n<u.length)(a:v.getD (n-1) 0≠0)(k:bc u<4294967296^(j+1)*bc v)
  (p:bc u/(4294967296^j*bc v)<=G/\G<=bc u/(4294967296^j*bc v)+1)(d:Above u1 u (j+n+1))(e:bc u1+4294967296^j*(G*bc v)=bc u+4294967296^(j+n+1)*1):0<G:=by
 obtain ⟨x,o⟩:=wk f l c a;have y:=ei (b:=4294967296) kD d h i (by rw[d.1];omega) (vF f l c k);obtain ⟨z,_⟩:=(fa (b:=4294967296) kD f x o k y e (eb 1) p).2 rfl;rw[z];exact JH _
end
theorem EJ {q:List Nat}{j Q X V R R':Nat}(c:j<q.length)(h0:q.getD j 0=0)(a:X=bc q*V+R)(e:R'+4294967296^j*(Q*V)=R):X=bc (q.set j Q)*V+R':=by
 have b:=ct 4294967296 (l:=q) (k:=j) Q c;rw[h0,Ao,sw] at b
 have d:bc (q.set j Q)=bc q+4294967296^j*Q:=b;rw[d,I4,a,<-e,z8];omega
theorem DG {X V R q a b s:Nat}(d:V=b*2^s)(k:X=a*2^s)(c:X=q*V+R)(i:R<V):q=a/b/\R/2^s=a%b:=by
 have p:=A0 s;have j:0<V:=by omega
 have o:0<b:=by
  rcases yz b with h|h
  ·rw[h,s9] at d;omega
  ·exact h
 have l:a*2^s=V*q+R:=by rw[<-k,c,z2]
 obtain ⟨h1,e⟩:=jI (A:=a) (y:=b) (Q:=q) d l i;have f:a=R/2^s+b*q:=by omega
 constructor
 ·rw[f,I3 _ _ o,zY e,tv]
 ·rw[f,Ju,u9 e]
structure Gk (u2 u1 u0 v1 v0 g r:Nat):Prop where
  e:g*v1+r=4294967296*u2+u1
  lt:4294967296<=g+1\/l3 u2 u1 u0<(g+1)*l2 v1 v0
theorem Gk.start {b u1 c a d:Nat}(hv:0<a)(h0:c<4294967296):Gk b u1 c a d ((b*4294967296+u1)/a) ((b*4294967296+u1)%a):=by
 have e:=I7 (b*4294967296+u1) a;have hr:=va (b*4294967296+u1) hv
 generalize (b*4294967296+u1)/a=q at *
 generalize (b*4294967296+u1)%a=r at *
 rw[z2 b] at e
 refine ⟨by rw[z2 q];exact e,.inr ?_⟩;rw[Ic,I4 q 1 a,I6,z2 q a]
 unfold l3
 rw[<-e]
 have h1:4294967296*(a*q+r)+4294967296<=4294967296*(a*q+a):=by
  rw[<-Jd];exact A8 _ oM
 have f:0<=(q+1)*d:=JF _
 omega
theorem Gk.step {b u1 d a c g r:Nat}(h:Gk b u1 d a c g r)(i:0<g):(g-1)*a+(r+a)=4294967296*b+u1:=by
 obtain ⟨p,rfl⟩:∃ p,g=p+1:=⟨g-1,by omega⟩;have f:=h.e;rw[I4,I6] at f
 rw[Jj]
 omega
theorem Gk.decB {d u1 c a b g r:Nat}(h:Gk d u1 c a b g r)(e:4294967296<=g):Gk d u1 c a b (g-1) (r+a):=⟨h.step oM,.inl oM⟩
theorem Gk.decT {f u1 b c a g r:Nat}(h:Gk f u1 b c a g r)(i:4294967296*r+b<g*a):0<g/\Gk f u1 b c a (g-1) (r+c):=by
 have d:0<g:=dr i;refine ⟨d,h.step d,.inr ?_⟩;rw[show g-1+1=g by omega,Ic]
 unfold l3
 rw[<-h.e,z7]
 omega
theorem Gk.big {c u1 i a f g r:Nat}(h:Gk c u1 i a f g r)(d:4294967296<=g)(b:c<=a)(h1:u1<4294967296):r<4294967296:=by
 have e:=h.e;have k:4294967296*a<=g*a:=ua _ d;have j:4294967296*c<=4294967296*a:=A8 _ b
 omega
theorem Gk.fin {c u1 b d a g r:Nat}(h:Gk c u1 b d a g r)(f:g<4294967296)(h0:a<4294967296)(i:4294967296<=r\/g*a<=4294967296*r+b):Ay c u1 b d a g:=by
 have j:Hss c u1 b d a g r 0:=⟨by rw[Ao,sw];exact h.e,by rcases h.lt with h1|h1;exact .inl oM;exact .inr h1,f⟩;refine j.fin ?_;rw[Ao,sw]
 rcases i with h1|h1
 ·have k:=wK f h0
  have l:4294967296*4294967296<=4294967296*r:=A8 _ h1
  omega
 ·exact h1
theorem kN (n:Nat):(lim n).length=(nb n+31)/32:=by
 rcases yz n with h|h
 ·subst h;rfl
 ·have h1:=xH h
  have a:=l5 n h;have b:=(Ld.lim n).get ((lim n).length-1);have e:=bI.2 h
  generalize (lim n).getD ((lim n).length-1) 0=t at *
  have d:=(cl (Jf a)).2.2;have c:nb t<=32:=jr (k:=32) b
  omega
theorem xv {b:Nat}(a:0<b)(s:Nat):nb (b*2^s)=nb b+s:=by
 obtain ⟨d,c,e⟩:=cl a;rw[show nb b+s=(nb b-1+s)+1 by omega]
 apply jV
 ·rw[A7];exact ua _ d
 ·rw[show nb b-1+s+1=nb b+s by omega,A7];exact Jm c (A0 s)
section joi
variable {P:Program}{n:Nat}{N R:Po}{X:Nat->Po}{Γ:ck}{w:World}
theorem CG.join {x y:Code}(I:ck->World->Prop)(h1:CG P n (fun a w'=>∃ b,I b w'/\Kn n a b) R X x Γ w)(i:∀ Γ w,I Γ w->CG P n N R X y Γ w):CG P n N R X (.seq x y) Γ w:=by
 intro a f;refine wp_seq (wp_mono (h1 a f) ?_);intro e a w d;cases e with
 | normal=>obtain ⟨b,h,c⟩:=d;exact i b w h a c
 | _=>exact d
end joi
section fin
variable {M:Ms}{P:Program}{n:Nat}{N R:Po}{X:Nat->Po}{ops:Array Oper}{k0:Nat}{hr:Hp}{L:Array Bool}{Γ:ck}{w:World}{h:Hp}{w0:World}{h0:Hp}{B:List Bx}{Rs:List Rw}{F:List (Hp->Prop)}
theorem bL (s:SS w0 h0 w h B Rs F)(H:∀ w' a,Up w h w' a->SS w0 h0 w' a B Rs F->AG M P n N R X ops k0 L Γ w')(b:fq ops [] L=true:=by kernel_rfl):EG M P n N R X ops k0 hr [] L Γ w h:=Rg.fin0 b (fun w' a u=>H w' a u (s.step u))
end fin
theorem Bg (x:Nat)(A:Z9)(c m:Nat)(e:(lim x).length=m)(b:m<=c)(d:m<=4000000000)(s:Nat)(f:s<=4000000000)(w:World)(h:Hp)(g:G w h)(a:S3 A (lim x) h):CR 226 #[.slice A m c,iV (-(s:Int))] w h (fun v h1=>RN h1 v (x/2^s)):=by
 subst e
 rcases yz s with h0|h0
 ·subst h0
  have:=jO x A c b d 0 oM w h g a;rw[JG,Nat.mul_one] at this
  rw[JG,Nat.div_one];exact this
 ·exact rj x A c b d s h0 f w h g a
theorem uy {a b s k:Nat}(e:(lim (b*2^s)).length=k)(l:2<=k)(c:k<=(lim (a*2^s)).length+1)(i:0<b*2^s):bc (lim (a*2^s)++[0,0])<4294967296^((lim (a*2^s)).length+2-(lim (b*2^s)).length)*bc (lim (b*2^s)):=by
 have h:bc (lim (a*2^s)++[0,0])=a*2^s:=by
  unfold bc;rw[cA,cu];simp[am]
 have d:bc (lim (b*2^s))=b*2^s:=cu _;rw[h,d];have h1:=cI (a*2^s);have f:4294967296^((lim (b*2^s)).length-1)<=b*2^s:=by rw[sj];exact qw kD i
 have j:4294967296^((lim (a*2^s)).length+2-(lim (b*2^s)).length)*4294967296^((lim (b*2^s)).length-1)<=4294967296^((lim (a*2^s)).length+2-(lim (b*2^s)).length)*(b*2^s):=A8 _ f;rw[<-A7] at j
 have o:4294967296^(lim (a*2^s)).length<=4294967296^((lim (a*2^s)).length+2-(lim (b*2^s)).length+((lim (b*2^s)).length-1)):=A4 kD oM
 omega
theorem DK {a s V n:Nat}:a*2^s=bc (um n 0)*V+bc (lim (a*2^s)++[0,0]):=by
 unfold bc;rw[di,s9,tv,cA,cu];simp[am]
theorem tZ (a:Nat)(A:Z9)(c:Nat)(k:(lim a).length<=c)(b:Nat)(D:Z9)(d:Nat)(B:(lim b).length<=d)(x:(lim a).length<=3000000000)(y:(lim b).length<=3000000000)(i:a<b)(w:World)(h:Hp)(g:G w h)(C:S3 A (lim a) h)(z:S3 D (lim b) h):CR 197 #[.slice A ((lim a).length) c,.slice D ((lim b).length) d] w h (fun v h1=>∃ u l,v=.tuple #[u,l]/\RN h1 u (a/b)/\RN h1 l (a%b)):=by
 have e:=(((sS g).aS C).aS z);have F:=dJ i;refine go Tryz.func197 [(0,qS A ((lim a).length) c),(1,qS D ((lim b).length) d)] rfl (aa e aF (ai (aa e aF (aq 27 e (iT a A c k b D d B oM oM _ _ e.g e.f.2.1 e.f.1) (fun w1 H e=>?_)))));have ⟨j,o⟩:=dT (p:=(cX a b:Int)<(0:Int)) oM;exact lB 28 j (ak (aa e dx (af e [] (.tuple #[sZ,qS A ((lim a).length) c]) (⟨_,_,rfl,by rw[zY i];exact ⟨none,0,rfl,nR _,SlO.nil⟩,by rw[u9 i];exact ⟨A,c,rfl,k,e.f.2.1⟩⟩))))
theorem qO {b:Nat}(h:(lim b).length=1):b<4294967296/\(lim b).getD 0 0=b/\0<b:=by
 have h1:=cI b;rw[h] at h1
 have a:0<b:=bI.1 oM;refine ⟨by omega,?_,a⟩;rw[AF a oM];rfl
theorem qf (a:Nat)(A:Z9)(c:Nat)(y:(lim a).length<=c)(b:Nat)(D:Z9)(d:Nat)(V:(lim b).length<=d)(J:(lim a).length<=3000000000)(L:(lim b).length<=3000000000)(x:b<=a)(h1:(lim b).length=1)(w:World)(h:Hp)(g:G w h)(W:S3 A (lim a) h)(M:S3 D (lim b) h):CR 197 #[.slice A ((lim a).length) c,.slice D ((lim b).length) d] w h (fun v h1=>∃ H z,v=.tuple #[H,z]/\RN h1 H (a/b)/\RN h1 z (a%b)):=by
 have e:=(((sS g).aS W).aS M);have X:=il x;obtain ⟨S,j,k⟩:=qO h1;refine go Tryz.func197 [(0,qS A ((lim a).length) c),(1,qS D ((lim b).length) d)] rfl (aa e aF (ai (aa e aF (aq 27 e (iT a A c y b D d V oM oM _ _ e.g e.f.2.1 e.f.1) (fun w1 h2 e=>?_)))));have ⟨k,C⟩:=dF (p:=(cX a b:Int)<(0:Int)) oM;refine lB 28 k (ah (cK (cQ (aa e [.c,.v (nV ((lim b).length))] ?_))));have i:((((lim b).length:Nat):Int) == (1:Int))=true:=gE oM;have I:=eq_of_beq i;refine lB 32 i (ak (aa e aF (lX 36 D ((lim b).length) d 1 0 0 ((e.f.1).ok oM) ?_)));refine lH 37 (mW ((lim b).getD 0 0)) e ((e.f.1).el 0 oM) (lC 38 e (Gm a A c y oM ((lim b).getD 0 0) oM oM _ _ e.g e.f.2.1) ?_);rintro _ Z h6 e ⟨_,r,rfl,⟨F,B,rfl,u,K⟩,o⟩;replace e:=e.aS K;refine lL e [.c,.v (qS F ((lim (a/((lim b).getD 0 0))).length) B),.v (mW r),.c,.c] (aE (lL e aF ?_));have Q:=va a (show 0<(lim b).getD 0 0 by omega);refine lV 43 (mV r) ?_ (hr:=rU ((r:Int)) kR (ay oM oM));refine lC 44 e (ew r oM _ _ e.g) ?_;rintro _ _ _ e ⟨O,Y,rfl,l,U⟩;replace e:=e.aS U;exact lL e aF (af e [] (.tuple #[qS F ((lim (a/((lim b).getD 0 0))).length) B,qS O ((lim r).length) Y]) (⟨_,_,rfl,by rw[j] at *;exact ⟨_,_,rfl,u,e.f.2.1⟩,by rw[<-j,<-o];exact ⟨_,_,rfl,l,e.f.1⟩⟩))
theorem oK (a:Nat)(A:Z9)(c:Nat)(hc:(lim a).length<=c)(b:Nat)(D:Z9)(d:Nat)(hd:(lim b).length<=d)(hLa:(lim a).length<=3000000000)(hLb:(lim b).length<=3000000000)(hab:b<=a)(hb2:2<=(lim b).length)(s:Nat)(hs_:s=32*(lim b).length-nb b)(H e:List Nat)(hva:lim (a*2^s)=H)(hvb:lim (b*2^s)=e)(w:World)(h:Hp)(g:G w h)(hA:S3 A (lim a) h)(hD:S3 D (lim b) h):CR 197 #[.slice A ((lim a).length) c,.slice D ((lim b).length) d] w h (fun v h1=>∃ v1 v2,v=.tuple #[v1,v2]/\RN h1 v1 (a/b)/\RN h1 v2 (a%b)):=by
 have z:=(((sS g).aS hA).aS hD);have hcl:=il hab;have hbp:0<b:=bI.1 oM;have hln:=kN b;have b2:s<32:=by omega
 have hvn:e.length=(lim b).length:=by rw[<-hvb,kN,xv hbp];omega
 have hlm:=dh hab;have has:=dh (show a<=a*2^s from Nat.le_mul_of_pos_right _ (A0 s));have bt:(lim (a*2^s)).length<=(lim a).length+1:=dt (by rw[z1];exact ep (Jm (cI a) (A0 s)) (A8 _ (ed (A4 kD (show s<=32 by omega)) (nR (2^32)))));have _:([0,0]:List Nat).length=2:=rfl;rw[hva] at has bt
 have br:(H++[0,0]).length=(H.length+2):=by simp
 have Z:=Ld.lim (b*2^s);have bb:=l5 (b*2^s) (Jl hbp (A0 s));rw[hvb] at Z bb
 have hv1:=Z.get (e.length-1);have hv0:=Z.get (e.length-2);refine go Tryz.func197 [(0,qS A ((lim a).length) c),(1,qS D ((lim b).length) d)] rfl (aa z aF (ai (aa z aF (aq 27 z (iT a A c hc b D d hd oM oM _ _ z.g z.f.2.1 z.f.1) (fun w1 h2 z=>?_)))));have ⟨hb3,cx⟩:=dF (p:=(cX a b:Int)<(0:Int)) oM;refine lB 28 hb3 (ah (cK (cQ (aa z [.c,.v (nV ((lim b).length))] ?_))));have hb4:((((lim b).length:Nat):Int) == (1:Int))=false:=hC oM;have cz:=ao hb4;refine lB 32 hb4 (ah (cK (aa z [.c,.v (nV ((lim b).length))] (bg 47 (32*((lim b).length:Nat)) (32*(lim b).length) ?_))));refine lL z ac (aq 49 z (xT b D d hd oM _ _ z.g z.f.1) (fun w5 h6 z=>bg 50 ((32*(lim b).length:Nat)-(nb b:Nat)) s (lL z ac (aE (lL z aF (lC 53 z (jO b D d hd oM s oM _ _ z.g z.f.1) ?_))))));rintro _ _ _ z ⟨V,c8,rfl,hc9,zu⟩;rw[hvb] at hc9 zu ⊢
 replace z:=z.aS zu;refine lL z ac (aE (lR 54 158 0 ([]) z (fun zj _ _ z=>lL z aF (lC 57 z (jO a A c hc oM s oM _ _ z.g z.f.r.2.1) ?_))));rintro _ _ _ z ⟨zk,yf,rfl,zU,zv⟩;rw[hva] at zU zv ⊢
 replace z:=z.aS zv;refine IT 58 158 1 aW 0 zj zk H yf 4 (uW 0) z z.f.1 oM (fun _ _=>by kernel_rfl) (fun yg yi _ _ z=>lR 59 158 2 ([uW 0,uW 0]) z (fun ze _ _ z=>?_));replace z:=z.aS (SlO.of_flat (sz:=1) (f:=aW) (d:=0) (l:=[0,0]) (fun _=>rfl) z.f.1);refine IQ 60 0 158 1 yi yg H aW 0 (sB ze) ([0,0]) 2 4 (uW 0) z z.f.1 oM (fun zR zS _ _ z=>lL z ac (aE (lL z [.c,.v (nV e.length),.c] (aE (lL z aF (bg 65 ((e.length:Nat)-1) (e.length-1) ?_))))));refine lX 66 V e.length c8 1 (e.length-1:Nat) (e.length-1) ((z.f.q.1).ok oM) (lH 67 (mW (e.getD (e.length-1) 0)) z ((z.f.q.1).el (e.length-1) oM) (lV 68 (mV (e.getD (e.length-1) 0)) ?_ (hr:=rU (((e.getD (e.length-1) 0:Nat):Int)) kR (ay oM oM))));refine lL z ac (aE (lL z aF (bg 71 ((e.length:Nat)-2) (e.length-2) ?_)));refine lX 72 V e.length c8 1 (e.length-2:Nat) (e.length-2) ((z.f.q.1).ok oM) (lH 73 (mW (e.getD (e.length-2) 0)) z ((z.f.q.1).el (e.length-2) oM) (lV 74 (mV (e.getD (e.length-2) 0)) ?_ (hr:=rU (((e.getD (e.length-2) 0:Nat):Int)) kR (ay oM oM))));refine lL z ac (lN (bG [(4,sZ),(5,sZ),(8,nV s),(9,qS V e.length c8),(10,qS zR ((H++([0,0])).length) zS),(11,nV e.length),(12,mV (e.getD (e.length-1) 0)),(13,mV (e.getD (e.length-2) 0))] ?_));refine aa z [.c,.v (nV ((H++([0,0])).length)),.c] (bg 78 (((H++([0,0])).length:Nat)-(e.length:Nat)) ((H.length+2)-e.length) ?_);refine lK 79 158 ((H.length+2)-e.length) 1 4 (uW 0) aW 0 z (fun O _ yj z=>?_);have zW:(um ((H.length+2)-e.length) 0).length=((H.length+2)-e.length):=by simp
 refine lL z ac (ai (aa z [.c,.v (nV ((H++([0,0])).length)),.c] (bg 83 (((H++([0,0])).length:Nat)-(e.length:Nat)) (((H++([0,0])).length:Nat)-e.length) ?_)));refine lV 84 (iV ((((H.length+2)-e.length:Nat):Int)-1)) ?_ (hr:=rS (((((H++([0,0])).length:Nat)-e.length:Nat)-1)) kR ((dQ oM oM).trans oM));refine lL z ac (bx ?_);refine bG _ (CG.loop (fun μ_ Γ w_=>∃ (m:Nat)(rA:Z9)(U:Nat)(u:List Nat)(X:List Nat)(M:Hp),μ_=m/\Γ=[(4,sZ),(5,sZ),(8,nV s),(9,qS V e.length c8),(10,qS rA ((u).length) U),(11,nV e.length),(12,mV (e.getD (e.length-1) 0)),(13,mV (e.getD (e.length-2) 0)),(14,qS (sB O) ((H.length+2)-e.length) ((H.length+2)-e.length)),(15,iV ((m:Int)-1))]/\SS w h w_ M [⟨O,158,(X).flatMap aW⟩] [⟨158,1,rA,U,(u).length,(u).flatMap aW⟩] [S3 (sB ze) ([0,0]),fun M=>Seg M ze 0 ([uW 0,uW 0]),S3 zk (H),fun M=>Seg M zj 0 ([]),S3 V (e),S3 D (lim b),S3 A (lim a)]/\m<=(H.length+2)-e.length/\u.length=(H.length+2)/\Ld u/\X.length=(H.length+2)-e.length/\Ld X/\bc u<4294967296^m*bc e/\a*2^s=bc X*bc e+bc u/\(∀ k,k<m->X.getD k 0=0)) _ ⟨(H.length+2)-e.length,zR,zS,H++[0,0],um ((H.length+2)-e.length) 0,yj,rfl,rfl,z.to _ _,nR _,br,(Dg.append (hva▸Ld.lim _) (Dg.cons kD (Dg.one kD))),zW,Ld.rep _,(by rw[<-hva,<-hvb];exact uy (hvb▸hvn) hb2 (by rw[hva];omega) (Jl hbp (A0 s))),(by rw[<-hva];exact DK),fun k _=>dG⟩ ?_);rintro _ _ _ ⟨m,rA,U,u,X,_,b5,rfl,z,hm,hul,W,hql,hWq,hR,inv,hq0⟩;refine cQ (aa z ac ?_);cases zm:(decide ((0:Int)<=((m:Int)-1:Int)))
 .
  have zE:=oF zm;refine lB 86 zm (ah (CG.exit ?_))
  show CG _ _ _ _ _ _ _ _
  refine aa z ac ?_;have hm0:m=0:=by omega
  rw[hm0,JG,I6] at hR
  obtain ⟨hQ,hRm⟩:=DG (show bc e=b*2^s by rw[<-hvb];exact cu _) rfl inv hR;obtain ⟨_,z,bw,b1,cr⟩:=z.pub 0;replace z:=(z.to [] [⟨158,1,rA,U,(u).length,(u).flatMap aW⟩]).aS (SlO.of_flat (sz:=1) (f:=aW) (d:=0) (b:=O) (o:=0) (l:=X) (fun _=>rfl) bw);refine aq 252 z (iI (sB O) ((H.length+2)-e.length) X ((H.length+2)-e.length) hql oM oM _ _ z.g z.f.1) (fun _ _ z=>lL z ac ?_);obtain ⟨_,z,zX⟩:=z.pubr 0 (A:=rA) (c:=U) (l:=u) (f:=aW) (ty:=158) (sz:=1) 0 (fun _=>rfl);refine aq 254 z (iI rA U u ((u).length) rfl oM zX _ _ z.g z.f.1) (fun _ _ z=>lL z ac (lV 256 (iV (-(s:Int))) ?_ (hr:=rS ((0-(s:Int))) kR (by rw[IntKind.wrap_i64];omega))));refine lC 257 z (Bg (bc u) rA U (tl u ((u).length)) (lZ W rfl) (by have:=fX u u.length;omega) (by have:=fX u u.length;omega) s oM _ _ z.g (by rw[qE (n:=bc u) W rfl];exact (z.f.1).take _)) ?_;rintro _ _ _ z ⟨yk,yl,rfl,ya,yb⟩;replace z:=z.aS yb;exact lL z aF (af z [] (.tuple #[qS (sB O) (tl X ((H.length+2)-e.length)) ((H.length+2)-e.length),qS yk ((lim (bc u/2^s)).length) yl]) (⟨_,_,rfl,RN.trim hWq hQ hql (nR _) z.f.r.1,by rw[<-hRm];exact ⟨_,_,rfl,ya,z.f.1⟩⟩))
 have zE:=oT zm;refine lB 86 zm (ak (cK (cQ (kZ (cQ (cR 17 [] mixed z aw ?_))))));have hm1:0<m:=by omega
 have hn2:2<=e.length:=by omega
 have hjn:m-1+e.length<u.length:=by omega
 have hR1:bc u<4294967296^(m-1+1)*bc e:=by rw[show m-1+1=m by omega];exact hR
 have hle:=Fk hn2 rfl Z W hjn hR1;have hu2:=W.get (m-1+e.length);have hu1:=W.get (m-1+e.length-1);have hu0:=W.get (m-1+e.length-2);refine eV 0 89 (qS rA ((u).length) U) (eV 1 90 (iV ((m:Int)-1)) (eV 2 91 (nV e.length) (iR 3 92 (((m:Int)-1)+(e.length:Nat)) (m-1+e.length) ?_)));obtain ⟨zb,zG⟩:=z.rowA 0 (A:=rA) (c:=U) (m:=(u).length) (ty:=158) (sz:=1) (cs:=(u).flatMap aW) oM;subst zG;refine eX 4 93 (sB zb) ((u).length) U 1 (m-1+e.length:Nat) (m-1+e.length) rfl (Io (ty:=158) (sz:=1) (c:=U) (m:=(u).length) (b:=zb) (cs:=(u).flatMap aW) 5 94 0 (mW (u.getD (m-1+e.length) 0)) (aW (u.getD (m-1+e.length) 0)) z (hJ (f:=aW) (sz:=1) (fun _=>rfl) 0 u (m-1+e.length) oM) (eV 6 95 (mV (u.getD (m-1+e.length) 0)) ?_ (hv:=fun _=>rU (((u.getD (m-1+e.length) 0:Nat):Int)) kR (ay oM oM))));refine eV 7 96 (mV ((u.getD (m-1+e.length) 0)*4294967296%18446744073709551616)) ?_ (hv:=fun _=>rU ((((u.getD (m-1+e.length) 0:Nat):Int)*4294967296)) kR (jg (u.getD (m-1+e.length) 0) 4294967296));refine eV 8 97 (qS (sB zb) ((u).length) U) (eV 9 98 (iV ((m:Int)-1)) (eV 10 99 (nV e.length) (iR 11 100 (((m:Int)-1)+(e.length:Nat)) (m-1+e.length) (iR 12 101 ((m-1+e.length:Nat)-1) (m-1+e.length-1) (eX 13 102 (sB zb) ((u).length) U 1 (m-1+e.length-1:Nat) (m-1+e.length-1) rfl (Io (ty:=158) (sz:=1) (c:=U) (m:=(u).length) (b:=zb) (cs:=(u).flatMap aW) 14 103 0 (mW (u.getD (m-1+e.length-1) 0)) (aW (u.getD (m-1+e.length-1) 0)) z (hJ (f:=aW) (sz:=1) (fun _=>rfl) 0 u (m-1+e.length-1) oM) (eV 15 104 (mV (u.getD (m-1+e.length-1) 0)) ?_ (hv:=fun _=>rU (((u.getD (m-1+e.length-1) 0:Nat):Int)) kR (ay oM oM)))))))));refine eV 16 105 (mV ((u.getD (m-1+e.length) 0)*4294967296+u.getD (m-1+e.length-1) 0)) ?_ (hv:=fun _=>aN (gc (t:=22) (u:=22) (x:=.tmp 96) (y:=.tmp 104) (a:=((u.getD (m-1+e.length) 0)*4294967296%18446744073709551616:Nat)) (b:=(u.getD (m-1+e.length-1) 0)) kR kR kR oM oM _) (by rw[u9 (show (u.getD (m-1+e.length) 0)*4294967296<18446744073709551616 by omega),qu hu1]));refine cG z (fun _ ym z=>tV 17 16 (mV ((u.getD (m-1+e.length) 0)*4294967296+u.getD (m-1+e.length-1) 0)) (As (lL z aF (lV 108 (mV (((u.getD (m-1+e.length) 0)*4294967296+u.getD (m-1+e.length-1) 0:Nat)/(e.getD (e.length-1) 0))) ?_ (hr:=aN (db (t:=22) (u:=22) (x:=.tmp 106) (y:=.tmp 107) (k:=.u64) (a:=(((u.getD (m-1+e.length) 0)*4294967296+u.getD (m-1+e.length-1) 0:Nat):Int)) (b:=((e.getD (e.length-1) 0:Nat):Int)) kR kR kR oM _) (jD ((u.getD (m-1+e.length) 0)*4294967296+u.getD (m-1+e.length-1) 0:Nat) (e.getD (e.length-1) 0) oM))))));refine lL z ac (aE (lL z aF (lV 111 (mV (((u.getD (m-1+e.length) 0)*4294967296+u.getD (m-1+e.length-1) 0:Nat)%(e.getD (e.length-1) 0))) ?_ (hr:=aN (d4 (t:=22) (u:=22) (x:=.tmp 109) (y:=.tmp 110) (k:=.u64) (a:=(((u.getD (m-1+e.length) 0)*4294967296+u.getD (m-1+e.length-1) 0:Nat):Int)) (b:=((e.getD (e.length-1) 0:Nat):Int)) kR kR kR oM _) (cM ((u.getD (m-1+e.length) 0)*4294967296+u.getD (m-1+e.length-1) 0:Nat) (e.getD (e.length-1) 0))))));refine lL z ac (lN (CG.join (fun Γ w_=>∃ (J:Nat)(M:Hp),Γ=[(4,sZ),(5,sZ),(8,nV s),(9,qS V e.length c8),(10,qS (sB zb) ((u).length) U),(11,nV e.length),(12,mV (e.getD (e.length-1) 0)),(13,mV (e.getD (e.length-2) 0)),(14,qS (sB O) ((H.length+2)-e.length) ((H.length+2)-e.length)),(15,iV ((m:Int)-1)),(17,mV J)]/\SS w h w_ M [⟨O,158,(X).flatMap aW⟩] [⟨158,1,sB zb,U,(u).length,(u).flatMap aW⟩] [S3 (sB ze) ([0,0]),fun M=>Seg M ze 0 ([uW 0,uW 0]),S3 zk (H),fun M=>Seg M zj 0 ([]),S3 V (e),S3 D (lim b),S3 A (lim a)]/\Ay (u.getD (m-1+e.length) 0) (u.getD (m-1+e.length-1) 0) (u.getD (m-1+e.length-2) 0) (e.getD (e.length-1) 0) (e.getD (e.length-2) 0) J) ?_ ?_))
 .
  refine kZ ?_;refine bG _ (CG.loop (fun μ_ Γ w_=>∃ (g:Nat)(Q:Nat)(M:Hp),μ_=g/\Γ=[(4,sZ),(5,sZ),(8,nV s),(9,qS V e.length c8),(10,qS (sB zb) ((u).length) U),(11,nV e.length),(12,mV (e.getD (e.length-1) 0)),(13,mV (e.getD (e.length-2) 0)),(14,qS (sB O) ((H.length+2)-e.length) ((H.length+2)-e.length)),(15,iV ((m:Int)-1)),(17,mV g),(18,mV Q)]/\SS w h w_ M [⟨O,158,(X).flatMap aW⟩] [⟨158,1,sB zb,U,(u).length,(u).flatMap aW⟩] [S3 (sB ze) ([0,0]),fun M=>Seg M ze 0 ([uW 0,uW 0]),S3 zk (H),fun M=>Seg M zj 0 ([]),S3 V (e),S3 D (lim b),S3 A (lim a)]/\Gk (u.getD (m-1+e.length) 0) (u.getD (m-1+e.length-1) 0) (u.getD (m-1+e.length-2) 0) (e.getD (e.length-1) 0) (e.getD (e.length-2) 0) g Q/\Q<4294967296/\g<18446744073709551616) _ ⟨(((u.getD (m-1+e.length) 0)*4294967296+u.getD (m-1+e.length-1) 0:Nat)/(e.getD (e.length-1) 0):Nat),(((u.getD (m-1+e.length) 0)*4294967296+u.getD (m-1+e.length-1) 0:Nat)%(e.getD (e.length-1) 0):Nat),ym,rfl,rfl,z.to _ _,(Gk.start oM hu0),(by have:=va (u.getD (m-1+e.length) 0*4294967296+u.getD (m-1+e.length-1) 0) (show 0<e.getD (e.length-1) 0 by omega);omega),(by have:=Nat.div_le_self ((u.getD (m-1+e.length) 0)*4294967296+u.getD (m-1+e.length-1) 0) (e.getD (e.length-1) 0);omega)⟩ ?_);rintro _ _ _ ⟨g,Q,zl,ch,rfl,z,hG,hrh,hgb⟩;have b9:=fun hg=>hG.big hg hle hu1
  refine cQ (aa z ac ?_);cases zn:(decide ((4294967296:Int)<=(g:Int)))
  .
   have zH:=oF zn;refine lB 113 zn (lL z aF ?_);cases zo:(decide ((Q:Int)<(4294967296:Int)))
   .
    have zI:=oF zo;refine lB 116 zo (lL z ac (lG 118 ?_));refine lG 119 (lG 120 (lG 121 (lG 122 (lG 123 (lG 124 (lG 125 (lG 126 (lG 127 (lG 128 (lG 129 (lG 130 (lG 131 (lG 132 (lL z [.v qF,.v qF] (ah (CG.exit ?_))))))))))))))));intro a_ Y;exact ⟨_,⟨g,zl,rfl,z.to _ _,(hG.fin oM hv0 (by first|exact .inr oM|exact .inl oM))⟩,Y.to _ kR⟩
   have zI:=oT zo;refine lB 116 zo (lL z dx (lV 120 (mV (g*(e.getD (e.length-2) 0))) ?_ (hr:=rU (((g:Int)*((e.getD (e.length-2) 0:Nat):Int))) kR (d5 g (e.getD (e.length-2) 0) (by have:=wK (show g<4294967296 by omega) hv0;omega)))));refine lL z ac (lV 122 (mV (Q*4294967296)) ?_ (hr:=rU (((Q:Int)*4294967296)) kR ((ay oM oM).trans oM)));refine lL z dx (bg 126 (((m:Int)-1)+(e.length:Nat)) (m-1+e.length) ?_);refine bg 127 ((m-1+e.length:Nat)-2) (m-1+e.length-2) (lX 128 (sB zb) ((u).length) U 1 (m-1+e.length-2:Nat) (m-1+e.length-2) rfl (F5 (ty:=158) (sz:=1) (c:=U) (m:=(u).length) (b:=zb) (cs:=(u).flatMap aW) 129 0 (mW (u.getD (m-1+e.length-2) 0)) (aW (u.getD (m-1+e.length-2) 0)) z (hJ (f:=aW) (sz:=1) (fun _=>rfl) 0 u (m-1+e.length-2) oM) (lV 130 (mV (u.getD (m-1+e.length-2) 0)) ?_ (hr:=rU (((u.getD (m-1+e.length-2) 0:Nat):Int)) kR (ay oM oM)))));refine lV 131 (mV (Q*4294967296+u.getD (m-1+e.length-2) 0)) ?_ (hr:=aN (gc (t:=22) (u:=22) (x:=.tmp 122) (y:=.tmp 130) (a:=(Q*4294967296)) (b:=(u.getD (m-1+e.length-2) 0)) kR kR kR oM oM _) (by rw[qu hu0]));cases zp:(decide (((Q*4294967296+u.getD (m-1+e.length-2) 0:Nat):Int)<((g*(e.getD (e.length-2) 0):Nat):Int)))
   .
    have zJ:=oF zp;refine lB 132 zp (lL z [.v qF,.v qF] (ah (CG.exit ?_)));intro a_ Y;exact ⟨_,⟨g,zl,rfl,z.to _ _,(hG.fin oM hv0 (by first|exact .inr oM|exact .inl oM))⟩,Y.to _ kR⟩
   have zJ:=oT zp;refine lB 132 zp (lL z [.v qT,.v qT] (ak (cK (kZ (aG ?_)))));have hG2:Gk (u.getD (m-1+e.length) 0) (u.getD (m-1+e.length-1) 0) (u.getD (m-1+e.length-2) 0) (e.getD (e.length-1) 0) (e.getD (e.length-2) 0) (g-1) (Q+e.getD (e.length-1) 0):=by first|exact hG.decB oM|exact (hG.decT oM).2
   have hg0:0<g:=by first|omega|exact (hG.decT oM).1
   refine lL z ac (lV 136 (mV (g-1)) ?_ (hr:=rU (((g:Int)-(1:Int))) kR (fh g 1 oM oM)));refine lL z ac (aE (lL z aF (lV 139 (mV (Q+(e.getD (e.length-1) 0))) ?_ (hr:=rU (((Q:Int)+((e.getD (e.length-1) 0:Nat):Int))) kR (dj Q (e.getD (e.length-1) 0) oM)))));refine lL z ac (aE (lL z ac ?_));cases zq:(decide ((4294967296:Int)<=((Q+(e.getD (e.length-1) 0):Nat):Int)))
   .
    have zK:=oF zq;refine lB 141 zq (lN (bG [(4,sZ),(5,sZ),(8,nV s),(9,qS V e.length c8),(10,qS (sB zb) ((u).length) U),(11,nV e.length),(12,mV (e.getD (e.length-1) 0)),(13,mV (e.getD (e.length-2) 0)),(14,qS (sB O) ((H.length+2)-e.length) ((H.length+2)-e.length)),(15,iV ((m:Int)-1)),(17,mV (g-1)),(18,mV (Q+(e.getD (e.length-1) 0))),(141,qF)] ?_));refine cV (CG.skip ?_);intro a_ Y;refine ⟨_,_,?_,⟨g-1,(Q+(e.getD (e.length-1) 0):Nat),zl,rfl,rfl,z.to _ _,hG2,oM,oM⟩,Y.to _ kR⟩
    omega
   have zK:=oT zq;refine lB 141 zq (lN (bG [(4,sZ),(5,sZ),(8,nV s),(9,qS V e.length c8),(10,qS (sB zb) ((u).length) U),(11,nV e.length),(12,mV (e.getD (e.length-1) 0)),(13,mV (e.getD (e.length-2) 0)),(14,qS (sB O) ((H.length+2)-e.length) ((H.length+2)-e.length)),(15,iV ((m:Int)-1)),(17,mV (g-1)),(18,mV (Q+(e.getD (e.length-1) 0))),(141,qT)] ?_));refine ci (CG.exit ?_);have bq:=fun hg=>hG2.big hg hle hu1
   intro a_ Y;exact ⟨_,⟨(g-1),zl,rfl,z.to _ _,(hG2.fin oM hv0 (.inl oM))⟩,Y.to _ kR⟩
  have zH:=oT zn;refine lB 113 zn (lL z ac (lG 115 ?_));refine lG 116 (lG 117 (lG 118 (lG 119 (lG 120 (lG 121 (lG 122 (lG 123 (lG 124 (lG 125 (lG 126 (lG 127 (lG 128 (lG 129 (lG 130 (lG 131 (lG 132 (lG 133 (lL z [.v qT] (ak (cK (kZ (aG ?_))))))))))))))))))))));have hG2:Gk (u.getD (m-1+e.length) 0) (u.getD (m-1+e.length-1) 0) (u.getD (m-1+e.length-2) 0) (e.getD (e.length-1) 0) (e.getD (e.length-2) 0) (g-1) (Q+e.getD (e.length-1) 0):=by first|exact hG.decB oM|exact (hG.decT oM).2
  have hg0:0<g:=by first|omega|exact (hG.decT oM).1
  refine lL z ac (lV 136 (mV (g-1)) ?_ (hr:=rU (((g:Int)-(1:Int))) kR (fh g 1 oM oM)));refine lL z ac (aE (lL z aF (lV 139 (mV (Q+(e.getD (e.length-1) 0))) ?_ (hr:=rU (((Q:Int)+((e.getD (e.length-1) 0:Nat):Int))) kR (dj Q (e.getD (e.length-1) 0) oM)))));refine lL z ac (aE (lL z ac ?_));cases zr:(decide ((4294967296:Int)<=((Q+(e.getD (e.length-1) 0):Nat):Int)))
  .
   have zL:=oF zr;refine lB 141 zr (lN (bG [(4,sZ),(5,sZ),(8,nV s),(9,qS V e.length c8),(10,qS (sB zb) ((u).length) U),(11,nV e.length),(12,mV (e.getD (e.length-1) 0)),(13,mV (e.getD (e.length-2) 0)),(14,qS (sB O) ((H.length+2)-e.length) ((H.length+2)-e.length)),(15,iV ((m:Int)-1)),(17,mV (g-1)),(18,mV (Q+(e.getD (e.length-1) 0))),(141,qF)] ?_));refine cV (CG.skip ?_);intro a_ Y;refine ⟨_,_,?_,⟨g-1,(Q+(e.getD (e.length-1) 0):Nat),zl,rfl,rfl,z.to _ _,hG2,oM,oM⟩,Y.to _ kR⟩
   omega
  have zL:=oT zr;refine lB 141 zr (lN (bG [(4,sZ),(5,sZ),(8,nV s),(9,qS V e.length c8),(10,qS (sB zb) ((u).length) U),(11,nV e.length),(12,mV (e.getD (e.length-1) 0)),(13,mV (e.getD (e.length-2) 0)),(14,qS (sB O) ((H.length+2)-e.length) ((H.length+2)-e.length)),(15,iV ((m:Int)-1)),(17,mV (g-1)),(18,mV (Q+(e.getD (e.length-1) 0))),(141,qT)] ?_));refine ci (CG.exit ?_);have bq:=fun hg=>hG2.big hg hle hu1
  intro a_ Y;exact ⟨_,⟨(g-1),zl,rfl,z.to _ _,(hG2.fin oM hv0 (.inl oM))⟩,Y.to _ kR⟩
 rintro _ _ ⟨J,yn,rfl,z,hH⟩;refine aG ?_;have hgl:=hH.2.2;have hGd:=vV (n:=e.length) (j:=m-1) hn2 rfl Z W hjn bb hR1 hH;refine lL z ac (aE (lL z ac (ai (aa z ac (bx ?_)))));refine bG _ (CG.loop (fun μ_ Γ w_=>∃ (i:Nat)(raA:Z9)(I:Nat)(C:List Nat)(K:Nat)(S:Nat)(M:Hp),μ_=e.length-i/\Γ=[(4,sZ),(5,sZ),(8,nV s),(9,qS V e.length c8),(10,qS raA ((C).length) I),(11,nV e.length),(12,mV (e.getD (e.length-1) 0)),(13,mV (e.getD (e.length-2) 0)),(14,qS (sB O) ((H.length+2)-e.length) ((H.length+2)-e.length)),(15,iV ((m:Int)-1)),(17,mV J),(21,nV i),(19,mV K),(20,mV S)]/\SS w h w_ M [⟨O,158,(X).flatMap aW⟩] [⟨158,1,raA,I,(C).length,(C).flatMap aW⟩] [S3 (sB ze) ([0,0]),fun M=>Seg M ze 0 ([uW 0,uW 0]),S3 zk (H),fun M=>Seg M zj 0 ([]),S3 V (e),S3 D (lim b),S3 A (lim a)]/\i<=e.length/\C.length=(H.length+2)/\Ld C/\K<4294967296/\S<=1/\am 4294967296 C+4294967296^(m-1)*(J*am 4294967296 (e.take i))=bc u+4294967296^(m-1+i)*(K+S)/\Above C u (m-1+e.length+1)) _ ⟨0,sB zb,U,u,0,0,yn,rfl,rfl,z.to _ _,JF _,hul,W,oM,oM,(by show am _ u+_=am _ u+_;simp[am]),Above.refl _ _⟩ ?_);rintro _ _ _ ⟨i,raA,I,C,K,S,zw,b4,rfl,z,hi,hua,hWa,hcy,hbo,bl,bp⟩;have cq:=hWa.get (m-1+i);have hvi:=Z.get i;refine cQ (aa z aF ?_);cases zs:(decide ((i:Int)<(e.length:Int)))
 .
  have zM:=oF zs;refine lB 144 zs (ah (CG.exit ?_))
  show CG _ _ _ _ _ _ _ _
  refine aG ?_;have b3:=hWa.get (m-1+e.length);refine lL z dx (bg 182 (((m:Int)-1)+(e.length:Nat)) (m-1+e.length) ?_);obtain ⟨zd,zN⟩:=z.rowA 0 (A:=raA) (c:=I) (m:=(C).length) (ty:=158) (sz:=1) (cs:=(C).flatMap aW) oM;subst zN;refine lX 183 (sB zd) ((C).length) I 1 (m-1+e.length:Nat) (m-1+e.length) rfl (F5 (ty:=158) (sz:=1) (c:=I) (m:=(C).length) (b:=zd) (cs:=(C).flatMap aW) 184 0 (mW (C.getD (m-1+e.length) 0)) (aW (C.getD (m-1+e.length) 0)) z (hJ (f:=aW) (sz:=1) (fun _=>rfl) 0 C (m-1+e.length) oM) (lV 185 (mV (C.getD (m-1+e.length) 0)) ?_ (hr:=rU (((C.getD (m-1+e.length) 0:Nat):Int)) kR (ay oM oM))));refine lL z ac (lV 187 (mV (((C.getD (m-1+e.length) 0)+(18446744073709551616-K))%18446744073709551616)) ?_ (hr:=rU ((((C.getD (m-1+e.length) 0:Nat):Int)-(K:Int))) kR (kb (C.getD (m-1+e.length) 0) K oM)));refine lL z ac (lV 189 (mV (((((C.getD (m-1+e.length) 0)+(18446744073709551616-K))%18446744073709551616:Nat)+(18446744073709551616-S))%18446744073709551616)) ?_ (hr:=rU ((((((C.getD (m-1+e.length) 0)+(18446744073709551616-K))%18446744073709551616:Nat):Int)-(S:Int))) kR (kb (((C.getD (m-1+e.length) 0)+(18446744073709551616-K))%18446744073709551616:Nat) S oM)));refine lL z ac (aE ?_);obtain ⟨t3_,ht3_⟩:∃ x:Nat,x=(((((C.getD (m-1+e.length) 0)+(18446744073709551616-K))%18446744073709551616:Nat)+(18446744073709551616-S))%18446744073709551616:Nat):=⟨_,rfl⟩;rw[<-ht3_];rw[show i=e.length by omega] at bl
  obtain ⟨hT1,hT2⟩:=wU (t:=t3_) (hWa.get (m-1+e.length)) hcy hbo ht3_;have hE:=vN oM bl (s:=(t3_%4294967296)) (bo':=t3_/9223372036854775808) oM;refine lL z dx (bg 193 (((m:Int)-1)+(e.length:Nat)) (m-1+e.length) ?_);refine lL z ac (lV 195 (mW (t3_%4294967296)) ?_ (hr:=rT ((t3_:Int)) kR (fY _)));refine lX 196 (sB zd) ((C).length) I 1 (m-1+e.length:Nat) (m-1+e.length) rfl (Hk (ty:=158) (c:=I) (b:=zd) 0 (m-1+e.length) 0 ([mW (t3_%4294967296)]) C aW 1 0 (t3_%4294967296) z oM (fun _ z=>?_));replace z:=z.to [⟨O,158,(X).flatMap aW⟩] [⟨158,1,sB zd,I,(C).length,(C.set (m-1+e.length) (t3_%4294967296)).flatMap aW⟩];refine lN (CG.join (fun Γ w_=>∃ (gz:Nat)(rzA:Z9)(rzc:Nat)(uz:List Nat)(M:Hp),Γ=[(4,sZ),(5,sZ),(8,nV s),(9,qS V e.length c8),(11,nV e.length),(12,mV (e.getD (e.length-1) 0)),(13,mV (e.getD (e.length-2) 0)),(14,qS (sB O) ((H.length+2)-e.length) ((H.length+2)-e.length)),(15,iV ((m:Int)-1)),(17,mV gz),(10,qS rzA ((uz).length) rzc)]/\SS w h w_ M [⟨O,158,(X).flatMap aW⟩] [⟨158,1,rzA,rzc,(uz).length,(uz).flatMap aW⟩] [S3 (sB ze) ([0,0]),fun M=>Seg M ze 0 ([uW 0,uW 0]),S3 zk (H),fun M=>Seg M zj 0 ([]),S3 V (e),S3 D (lim b),S3 A (lim a)]/\uz.length=(H.length+2)/\Ld uz/\gz<4294967296/\bc uz<4294967296^(m-1)*bc e/\bc uz+4294967296^(m-1)*(gz*bc e)=bc u) ?_ ?_)
  .
   refine aG ?_;have hW4:Ld (C.set (m-1+e.length) (t3_%4294967296)):=hWa.set _ (va _ kD);have bd:Above (C.set (m-1+e.length) (t3_%4294967296)) u (m-1+e.length+1):=bp.set oM oM;have hl4:(C.set (m-1+e.length) (t3_%4294967296)).length=(H.length+2):=by rw[Jr];exact hua
   refine lL z ac (lV 198 (mV (t3_/9223372036854775808)) ?_ (hr:=aN (n:=JD (t3_:Int) 9223372036854775808) kR (dI _ 9223372036854775808)));cases zt:(((t3_/9223372036854775808:Nat):Int) == (1:Int))
   .
    have zP:=ao zt;refine lB 199 zt (ah (CG.skip ?_));have hD_:=Cs hn2 rfl Z W hW4 hjn bb hR1 hGd bd (by rw[show t3_/9223372036854775808=0 by omega] at hE;exact hE);have hDw:=hW4;have hDg:=hgl;have hDu:=hD_.1;have hDe:=hD_.2;have hDl:=hl4;intro a_ Y;replace z:=z.rown [⟨158,1,sB zd,I,(C.set (m-1+e.length) (t3_%4294967296)).length,(C.set (m-1+e.length) (t3_%4294967296)).flatMap aW⟩] (by simp only[Jr]);exact ⟨_,⟨J,sB zd,I,C.set (m-1+e.length) (t3_%4294967296),zw,rfl,z.to _ _,hDl,hDw,hDg,hDu,hDe⟩,Y.to _ (by simp only[Jr];kernel_rfl)⟩
   have zP:=eq_of_beq zt;refine lB 199 zt (ak (aa z ac ?_));have hE1:=hE;rw[show t3_/9223372036854775808=1 by omega] at hE1
   have hgp:=Du hn2 rfl Z W hW4 hjn bb hR1 hGd bd hE1;refine lV 201 (mV (J-1)) ?_ (hr:=rU (((J:Int)-(1:Int))) kR (fh J 1 oM oM));refine lL z ac (lN (bG [(4,sZ),(5,sZ),(8,nV s),(9,qS V e.length c8),(10,qS (sB zd) ((C).length) I),(11,nV e.length),(12,mV (e.getD (e.length-1) 0)),(13,mV (e.getD (e.length-2) 0)),(14,qS (sB O) ((H.length+2)-e.length) ((H.length+2)-e.length)),(15,iV ((m:Int)-1)),(17,mV (J-1)),(19,mV K)] ?_));refine aa z ac (ai (aa z ac (bx ?_)));replace z:=z.rown [⟨158,1,sB zd,I,(C.set (m-1+e.length) (t3_%4294967296)).length,(C.set (m-1+e.length) (t3_%4294967296)).flatMap aW⟩] (by simp only[Jr]);refine bG _ (CG.loop (fun μ_ Γ w_=>∃ (F:Nat)(rbA:Z9)(L:Nat)(B:List Nat)(c2:Nat)(M:Hp),μ_=e.length-F/\Γ=[(4,sZ),(5,sZ),(8,nV s),(9,qS V e.length c8),(10,qS rbA ((B).length) L),(11,nV e.length),(12,mV (e.getD (e.length-1) 0)),(13,mV (e.getD (e.length-2) 0)),(14,qS (sB O) ((H.length+2)-e.length) ((H.length+2)-e.length)),(15,iV ((m:Int)-1)),(17,mV (J-1)),(24,nV F),(19,mV c2)]/\SS w h w_ M [⟨O,158,(X).flatMap aW⟩] [⟨158,1,rbA,L,(B).length,(B).flatMap aW⟩] [S3 (sB ze) ([0,0]),fun M=>Seg M ze 0 ([uW 0,uW 0]),S3 zk (H),fun M=>Seg M zj 0 ([]),S3 V (e),S3 D (lim b),S3 A (lim a)]/\F<=e.length/\B.length=(H.length+2)/\Ld B/\c2<=1/\am 4294967296 B+4294967296^(m-1+F)*c2=am 4294967296 (C.set (m-1+e.length) (t3_%4294967296))+4294967296^(m-1)*am 4294967296 (e.take F)/\Above B u (m-1+e.length+1)) _ ⟨0,sB zd,I,C.set (m-1+e.length) (t3_%4294967296),0,zw,rfl,(by simp only[Jr]<;>rfl),z.to _ _,JF _,hl4,hW4,oM,(by simp[am]),bd⟩ ?_);rintro _ _ _ ⟨F,rbA,L,B,c2,yc,b0,rfl,z,hi2,hub,hWb,hc2,bk,bm⟩;refine cQ (aa z aF ?_);cases zi:(decide ((F:Int)<(e.length:Int)))
   .
    have zx:=oF zi;refine lB 204 zi (ah (CG.exit ?_))
    show CG _ _ _ _ _ _ _ _
    refine kQ ?_;have cm:=hWb.get (m-1+e.length);refine lL z dx (bg 234 (((m:Int)-1)+(e.length:Nat)) (m-1+e.length) ?_);refine lL z dx (bg 238 (((m:Int)-1)+(e.length:Nat)) (m-1+e.length) ?_);obtain ⟨zf,zA⟩:=z.rowA 0 (A:=rbA) (c:=L) (m:=(B).length) (ty:=158) (sz:=1) (cs:=(B).flatMap aW) oM;subst zA;refine lX 239 (sB zf) ((B).length) L 1 (m-1+e.length:Nat) (m-1+e.length) rfl (F5 (ty:=158) (sz:=1) (c:=L) (m:=(B).length) (b:=zf) (cs:=(B).flatMap aW) 240 0 (mW (B.getD (m-1+e.length) 0)) (aW (B.getD (m-1+e.length) 0)) z (hJ (f:=aW) (sz:=1) (fun _=>rfl) 0 B (m-1+e.length) oM) (lV 241 (mV (B.getD (m-1+e.length) 0)) ?_ (hr:=rU (((B.getD (m-1+e.length) 0:Nat):Int)) kR (ay oM oM))));refine lL z ac (lV 243 (mV ((B.getD (m-1+e.length) 0)+c2)) ?_ (hr:=rU ((((B.getD (m-1+e.length) 0:Nat):Int)+(c2:Int))) kR (dj (B.getD (m-1+e.length) 0) c2 oM)));refine lV 244 (mW (((B.getD (m-1+e.length) 0)+c2:Nat)%4294967296)) ?_ (hr:=rT ((((B.getD (m-1+e.length) 0)+c2:Nat):Int)) kR (fY _));refine lX 245 (sB zf) ((B).length) L 1 (m-1+e.length:Nat) (m-1+e.length) rfl (Hk (ty:=158) (c:=L) (b:=zf) 0 (m-1+e.length) 0 ([mW (((B.getD (m-1+e.length) 0)+c2:Nat)%4294967296)]) B aW 1 0 (((B.getD (m-1+e.length) 0)+c2:Nat)%4294967296:Nat) z oM (fun _ z=>?_));replace z:=z.to [⟨O,158,(X).flatMap aW⟩] [⟨158,1,sB zf,L,(B).length,(B.set (m-1+e.length) (((B.getD (m-1+e.length) 0)+c2:Nat)%4294967296:Nat)).flatMap aW⟩];refine lD ?_;rw[show F=e.length by omega] at bk
    have hE3:=vP (s:=(B.getD (m-1+e.length) 0+c2)%4294967296) (c':=(B.getD (m-1+e.length) 0+c2)/4294967296) oM bk (Jq _ _);have hDw:Ld (B.set (m-1+e.length) (((B.getD (m-1+e.length) 0)+c2:Nat)%4294967296:Nat)):=hWb.set _ (va _ kD);obtain ⟨hDu,hDe,hDp⟩:=En hn2 rfl Z W hW4 hDw hjn bb hR1 hGd bd (bm.set oM oM) hE1 hE3;have hDg:J-1<4294967296:=by omega
    have hDl:(B.set (m-1+e.length) (((B.getD (m-1+e.length) 0)+c2:Nat)%4294967296:Nat)).length=(H.length+2):=by rw[Jr];exact hub
    intro a_ Y;replace z:=z.rown [⟨158,1,sB zf,L,(B.set (m-1+e.length) (((B.getD (m-1+e.length) 0)+c2:Nat)%4294967296:Nat)).length,(B.set (m-1+e.length) (((B.getD (m-1+e.length) 0)+c2:Nat)%4294967296:Nat)).flatMap aW⟩] (by simp only[Jr]);exact ⟨_,⟨(J-1),sB zf,L,B.set (m-1+e.length) (((B.getD (m-1+e.length) 0)+c2:Nat)%4294967296:Nat),yc,rfl,z.to _ _,hDl,hDw,hDg,hDu,hDe⟩,Y.to _ (by simp only[Jr];kernel_rfl)⟩
   have zx:=oT zi;refine lB 204 zi (ak (cK (cQ (kZ (cQ (cR 15 [] mixed z aw ?_))))));have b6:=Z.get F;have b7:=hWb.get (m-1+F);refine eV 0 207 (mV c2) (eV 1 208 (qS rbA ((B).length) L) (eV 2 209 (iV ((m:Int)-1)) (eV 3 210 (nV F) (iR 4 211 (((m:Int)-1)+(F:Nat)) (m-1+F) ?_))));obtain ⟨zg,zB⟩:=z.rowA 0 (A:=rbA) (c:=L) (m:=(B).length) (ty:=158) (sz:=1) (cs:=(B).flatMap aW) oM;subst zB;refine eX 5 212 (sB zg) ((B).length) L 1 (m-1+F:Nat) (m-1+F) rfl (Io (ty:=158) (sz:=1) (c:=L) (m:=(B).length) (b:=zg) (cs:=(B).flatMap aW) 6 213 0 (mW (B.getD (m-1+F) 0)) (aW (B.getD (m-1+F) 0)) z (hJ (f:=aW) (sz:=1) (fun _=>rfl) 0 B (m-1+F) oM) (eV 7 214 (mV (B.getD (m-1+F) 0)) ?_ (hv:=fun _=>rU (((B.getD (m-1+F) 0:Nat):Int)) kR (ay oM oM))));refine eV 8 215 (mV (c2+(B.getD (m-1+F) 0))) ?_ (hv:=fun _=>rU (((c2:Int)+((B.getD (m-1+F) 0:Nat):Int))) kR (dj c2 (B.getD (m-1+F) 0) oM));refine eV 9 216 (qS V e.length c8) (eV 10 217 (nV F) (eX 11 218 V e.length c8 1 (F:Nat) F ((z.f.q.1).ok oM) (eH 12 219 (mW (e.getD F 0)) z ((z.f.q.1).el F oM) (eV 13 220 (mV (e.getD F 0)) ?_ (hv:=fun _=>rU (((e.getD F 0:Nat):Int)) kR (ay oM oM))))));refine eV 14 221 (mV ((c2+(B.getD (m-1+F) 0):Nat)+(e.getD F 0))) ?_ (hv:=fun _=>rU ((((c2+(B.getD (m-1+F) 0):Nat):Int)+((e.getD F 0:Nat):Int))) kR (dj (c2+(B.getD (m-1+F) 0):Nat) (e.getD F 0) oM));refine cG z (fun _ yd z=>tV 15 19 (mV ((c2+(B.getD (m-1+F) 0):Nat)+(e.getD F 0))) (As (lL z dx (bg 225 (((m:Int)-1)+(F:Nat)) (m-1+F) ?_))));refine lL z ac (lV 227 (mW (((c2+(B.getD (m-1+F) 0):Nat)+(e.getD F 0):Nat)%4294967296)) ?_ (hr:=rT ((((c2+(B.getD (m-1+F) 0):Nat)+(e.getD F 0):Nat):Int)) kR (fY _)));refine lX 228 (sB zg) ((B).length) L 1 (m-1+F:Nat) (m-1+F) rfl (Hk (ty:=158) (c:=L) (b:=zg) 0 (m-1+F) 0 ([mW (((c2+(B.getD (m-1+F) 0):Nat)+(e.getD F 0):Nat)%4294967296)]) B aW 1 0 (((c2+(B.getD (m-1+F) 0):Nat)+(e.getD F 0):Nat)%4294967296:Nat) z oM (fun _ z=>?_));replace z:=z.to [⟨O,158,(X).flatMap aW⟩] [⟨158,1,sB zg,L,(B).length,(B.set (m-1+F) (((c2+(B.getD (m-1+F) 0):Nat)+(e.getD F 0):Nat)%4294967296:Nat)).flatMap aW⟩];refine lN (kQ (lL z ac (lV 230 (mV (((c2+(B.getD (m-1+F) 0):Nat)+(e.getD F 0):Nat)/4294967296)) ?_ (hr:=aN (n:=JD (((c2+(B.getD (m-1+F) 0):Nat)+(e.getD F 0):Nat):Int) 4294967296) kR (dI _ 4294967296)))));refine lL z ac (lN (kQ (lL z ac (bg 206 ((F:Nat)+1) (F+1) ?_))));refine lL z ac (lD ?_);intro a_ Y;replace z:=z.rown [⟨158,1,sB zg,L,(B.set (m-1+F) (((c2+(B.getD (m-1+F) 0):Nat)+(e.getD F 0):Nat)%4294967296:Nat)).length,(B.set (m-1+F) (((c2+(B.getD (m-1+F) 0):Nat)+(e.getD F 0):Nat)%4294967296:Nat)).flatMap aW⟩] (by simp only[Jr]);refine ⟨_,_,?_,⟨F+1,sB zg,L,B.set (m-1+F) (((c2+(B.getD (m-1+F) 0):Nat)+(e.getD F 0):Nat)%4294967296:Nat),(((c2+(B.getD (m-1+F) 0):Nat)+(e.getD F 0):Nat)/4294967296:Nat),yd,rfl,rfl,z.to _ _,oM,(by rw[Jr];exact hub),(hWb.set _ (va _ kD)),oM,(sl oM bk (Jq _ _ |>.trans oM)),(bm.set oM oM)⟩,Y.to _ (by simp only[Jr];kernel_rfl)⟩
   omega
  rintro _ _ ⟨gz,rzA,rzc,uz,ye,rfl,z,hDl,hDw,hDg,hDu,hDe⟩;refine kQ (lL z dx (lV 249 (mW gz) ?_ (hr:=rT ((gz:Int)) kR (m8 oM oM))));refine lX 250 (sB O) ((H.length+2)-e.length) ((H.length+2)-e.length) 1 ((m:Int)-1) (m-1) rfl (lW 0 X aW 1 (m-1) gz z oM (fun _ z=>?_));have zQ:((X).set (m-1) gz).length=((H.length+2)-e.length):=by rw[Jr];exact hql
  replace z:=z.to [⟨O,158,((X).set (m-1) gz).flatMap aW⟩] [⟨158,1,rzA,rzc,(uz).length,(uz).flatMap aW⟩];refine lN (kQ (lL z ac (lV 88 (iV (((m-1:Nat):Int)-1)) ?_ (hr:=rS ((((m:Int)-1)-1)) kR ((dQ oM oM).trans oM)))));refine lL z ac (lD ?_);intro a_ Y;refine ⟨_,_,?_,⟨m-1,rzA,rzc,uz,(X).set (m-1) gz,ye,rfl,rfl,z.to _ _,oM,hDl,hDw,zQ,(hWq.set _ hDg),hDu,(EJ oM (hq0 _ oM) inv hDe),(fun k hk=>by rw[bB oM,if_neg oM];exact hq0 k oM)⟩,Y.to _ kR⟩
  omega
 have zM:=oT zs;refine lB 144 zs (ak (cK (cQ (kZ (aG ?_)))));have hgv:=wK hgl hvi;refine lL z m4 (lX 151 V e.length c8 1 (i:Nat) i ((z.f.q.1).ok oM) ?_);refine lH 152 (mW (e.getD i 0)) z ((z.f.q.1).el i oM) (lV 153 (mV (e.getD i 0)) ?_ (hr:=rU (((e.getD i 0:Nat):Int)) kR (ay oM oM)));refine lV 154 (mV (J*(e.getD i 0))) ?_ (hr:=rU (((J:Int)*((e.getD i 0:Nat):Int))) kR (d5 J (e.getD i 0) oM));refine lV 155 (mV (K+(J*(e.getD i 0)))) ?_ (hr:=rU (((K:Int)+((J*(e.getD i 0):Nat):Int))) kR (dj K (J*(e.getD i 0)) oM));refine lL z ac (aE (lL z dx (bg 159 (((m:Int)-1)+(i:Nat)) (m-1+i) ?_)));obtain ⟨zc,zD⟩:=z.rowA 0 (A:=raA) (c:=I) (m:=(C).length) (ty:=158) (sz:=1) (cs:=(C).flatMap aW) oM;subst zD;refine lX 160 (sB zc) ((C).length) I 1 (m-1+i:Nat) (m-1+i) rfl (F5 (ty:=158) (sz:=1) (c:=I) (m:=(C).length) (b:=zc) (cs:=(C).flatMap aW) 161 0 (mW (C.getD (m-1+i) 0)) (aW (C.getD (m-1+i) 0)) z (hJ (f:=aW) (sz:=1) (fun _=>rfl) 0 C (m-1+i) oM) (lV 162 (mV (C.getD (m-1+i) 0)) ?_ (hr:=rU (((C.getD (m-1+i) 0:Nat):Int)) kR (ay oM oM))));refine lL z ac (lV 164 (mV ((K+(J*(e.getD i 0)):Nat)%4294967296)) ?_ (hr:=rg (t:=22) (u:=22) (x:=.tmp 163) (y:=.const (uV 4294967295)) (a:=(K+(J*(e.getD i 0)):Nat)) (m:=4294967295) 32 kR kR kR oM kD _));refine lV 165 (mV (((C.getD (m-1+i) 0)+(18446744073709551616-((K+(J*(e.getD i 0)):Nat)%4294967296:Nat)))%18446744073709551616)) ?_ (hr:=rU ((((C.getD (m-1+i) 0:Nat):Int)-(((K+(J*(e.getD i 0)):Nat)%4294967296:Nat):Int))) kR (kb (C.getD (m-1+i) 0) ((K+(J*(e.getD i 0)):Nat)%4294967296:Nat) oM));refine lL z ac (lV 167 (mV (((((C.getD (m-1+i) 0)+(18446744073709551616-((K+(J*(e.getD i 0)):Nat)%4294967296:Nat)))%18446744073709551616:Nat)+(18446744073709551616-S))%18446744073709551616)) ?_ (hr:=rU ((((((C.getD (m-1+i) 0)+(18446744073709551616-((K+(J*(e.getD i 0)):Nat)%4294967296:Nat)))%18446744073709551616:Nat):Int)-(S:Int))) kR (kb (((C.getD (m-1+i) 0)+(18446744073709551616-((K+(J*(e.getD i 0)):Nat)%4294967296:Nat)))%18446744073709551616:Nat) S oM)));refine lL z ac (aE ?_);obtain ⟨hS1,hS2⟩:=wU (t:=(((((C.getD (m-1+i) 0)+(18446744073709551616-((K+(J*(e.getD i 0)):Nat)%4294967296:Nat)))%18446744073709551616:Nat)+(18446744073709551616-S))%18446744073709551616:Nat)) (hWa.get (m-1+i)) (va ((K+(J*(e.getD i 0)):Nat)) (show 0<4294967296 by decide)) hbo rfl;refine lL z dx (bg 171 (((m:Int)-1)+(i:Nat)) (m-1+i) ?_);refine lL z ac (lV 173 (mW ((((((C.getD (m-1+i) 0)+(18446744073709551616-((K+(J*(e.getD i 0)):Nat)%4294967296:Nat)))%18446744073709551616:Nat)+(18446744073709551616-S))%18446744073709551616:Nat)%4294967296)) ?_ (hr:=rT (((((((C.getD (m-1+i) 0)+(18446744073709551616-((K+(J*(e.getD i 0)):Nat)%4294967296:Nat)))%18446744073709551616:Nat)+(18446744073709551616-S))%18446744073709551616:Nat):Int)) kR (fY _)));refine lX 174 (sB zc) ((C).length) I 1 (m-1+i:Nat) (m-1+i) rfl (Hk (ty:=158) (c:=I) (b:=zc) 0 (m-1+i) 0 ([mW ((((((C.getD (m-1+i) 0)+(18446744073709551616-((K+(J*(e.getD i 0)):Nat)%4294967296:Nat)))%18446744073709551616:Nat)+(18446744073709551616-S))%18446744073709551616:Nat)%4294967296)]) C aW 1 0 ((((((C.getD (m-1+i) 0)+(18446744073709551616-((K+(J*(e.getD i 0)):Nat)%4294967296:Nat)))%18446744073709551616:Nat)+(18446744073709551616-S))%18446744073709551616:Nat)%4294967296:Nat) z oM (fun _ z=>?_));replace z:=z.to [⟨O,158,(X).flatMap aW⟩] [⟨158,1,sB zc,I,(C).length,(C.set (m-1+i) ((((((C.getD (m-1+i) 0)+(18446744073709551616-((K+(J*(e.getD i 0)):Nat)%4294967296:Nat)))%18446744073709551616:Nat)+(18446744073709551616-S))%18446744073709551616:Nat)%4294967296:Nat)).flatMap aW⟩];refine lN (bG [(4,sZ),(5,sZ),(8,nV s),(9,qS V e.length c8),(10,qS (sB zc) ((C).length) I),(11,nV e.length),(12,mV (e.getD (e.length-1) 0)),(13,mV (e.getD (e.length-2) 0)),(14,qS (sB O) ((H.length+2)-e.length) ((H.length+2)-e.length)),(15,iV ((m:Int)-1)),(17,mV J),(21,nV i),(19,mV (K+(J*(e.getD i 0)))),(20,mV S),(22,mV (((((C.getD (m-1+i) 0)+(18446744073709551616-((K+(J*(e.getD i 0)):Nat)%4294967296:Nat)))%18446744073709551616:Nat)+(18446744073709551616-S))%18446744073709551616))] ?_);refine aa z ac (lV 176 (mV ((((((C.getD (m-1+i) 0)+(18446744073709551616-((K+(J*(e.getD i 0)):Nat)%4294967296:Nat)))%18446744073709551616:Nat)+(18446744073709551616-S))%18446744073709551616:Nat)/9223372036854775808)) ?_ (hr:=aN (n:=JD ((((((C.getD (m-1+i) 0)+(18446744073709551616-((K+(J*(e.getD i 0)):Nat)%4294967296:Nat)))%18446744073709551616:Nat)+(18446744073709551616-S))%18446744073709551616:Nat):Int) 9223372036854775808) kR (dI _ 9223372036854775808)));refine lL z ac (lN (kQ (lL z ac (lV 178 (mV ((K+(J*(e.getD i 0)):Nat)/4294967296)) ?_ (hr:=aN (n:=JD ((K+(J*(e.getD i 0)):Nat):Int) 4294967296) kR (dI _ 4294967296))))));refine lL z ac (lN (kQ (lL z ac (bg 146 ((i:Nat)+1) (i+1) ?_))));refine lL z ac (lD ?_);intro a_ Y;replace z:=z.rown [⟨158,1,sB zc,I,(C.set (m-1+i) ((((((C.getD (m-1+i) 0)+(18446744073709551616-((K+(J*(e.getD i 0)):Nat)%4294967296:Nat)))%18446744073709551616:Nat)+(18446744073709551616-S))%18446744073709551616:Nat)%4294967296:Nat)).length,(C.set (m-1+i) ((((((C.getD (m-1+i) 0)+(18446744073709551616-((K+(J*(e.getD i 0)):Nat)%4294967296:Nat)))%18446744073709551616:Nat)+(18446744073709551616-S))%18446744073709551616:Nat)%4294967296:Nat)).flatMap aW⟩] (by simp only[Jr]);refine ⟨_,_,?_,⟨i+1,sB zc,I,C.set (m-1+i) ((((((C.getD (m-1+i) 0)+(18446744073709551616-((K+(J*(e.getD i 0)):Nat)%4294967296:Nat)))%18446744073709551616:Nat)+(18446744073709551616-S))%18446744073709551616:Nat)%4294967296:Nat),((K+(J*(e.getD i 0)):Nat)/4294967296:Nat),((((((C.getD (m-1+i) 0)+(18446744073709551616-((K+(J*(e.getD i 0)):Nat)%4294967296:Nat)))%18446744073709551616:Nat)+(18446744073709551616-S))%18446744073709551616:Nat)/9223372036854775808:Nat),zw,rfl,rfl,z.to _ _,oM,(by rw[Jr];exact hua),(hWa.set _ (va _ kD)),oM,hS2,(si (t:=((K+(J*(e.getD i 0)):Nat))%4294967296) oM bl (Jq _ _ |>.trans oM) oM),(bp.set oM oM)⟩,Y.to _ (by simp only[Jr];kernel_rfl)⟩
 omega
theorem ns (a:Nat)(A:Z9)(c:Nat)(i:(lim a).length<=c)(b:Nat)(D:Z9)(d:Nat)(k:(lim b).length<=d)(e:(lim a).length<=3000000000)(f:(lim b).length<=3000000000)(u:0<b)(w:World)(h:Hp)(g:G w h)(l:S3 A (lim a) h)(j:S3 D (lim b) h):CR 197 #[.slice A (lim a).length c,.slice D (lim b).length d] w h (fun v h1=>∃ p o,v=.tuple #[p,o]/\RN h1 p (a/b)/\RN h1 o (a%b)):=by
 have x:=bI.2 u
 rcases co a b with h1|h1
 ·exact tZ a A c i b D d k e f h1 w h g l j
 ·rcases co (lim b).length 2 with h2|h2
  ·exact qf a A c i b D d k e f h1 oM w h g l j
  ·exact oK a A c i b D d k e f h1 h2 _ rfl _ _ rfl rfl w h g l j
theorem mh (x y:Nat):JI y (x%y)=JI x y:=by rw[JJ y,<-Nat.gcd_rec,JJ]
theorem Ct (a:Nat)(A:Z9)(c:Nat)(M:(lim a).length<=c)(b:Nat)(D:Z9)(d:Nat)(X:(lim b).length<=d)(u:(lim a).length<=3000000000)(z:(lim b).length<=3000000000)(w:World)(h:Hp)(g:G w h)(Z:S3 A (lim a) h)(O:S3 D (lim b) h):CR 196 #[.slice A ((lim a).length) c,.slice D ((lim b).length) d] w h (fun v h1=>RN h1 v (JI a b)):=by
 have e:=(((sS g).aS Z).aS O);refine go Tryz.func196 [(0,qS A ((lim a).length) c),(1,qS D ((lim b).length) d)] rfl (aa e ac (ai (kZ ?_)));replace e:=e.aS e.f.1;replace e:=e.aS e.f.r.1;refine bG _ (CG.loop (fun I Γ w_=>∃ (x:Nat)(j:Z9)(c1:Nat)(y:Nat)(l:Z9)(c2:Nat)(H:Hp),I=y/\Γ=[(4,sZ),(0,qS j ((lim x).length) c1),(1,qS l ((lim y).length) c2)]/\SS w h w_ H [] [] [S3 j (lim x),S3 l (lim y),S3 D (lim b),S3 A (lim a)]/\(lim x).length<=c1/\(lim y).length<=c2/\(lim x).length<=3000000000/\(lim y).length<=3000000000/\JI x y=JI a b) _ ⟨a,A,c,b,D,d,h,rfl,rfl,e.to _ _,M,X,u,z,rfl⟩ ?_);rintro _ _ w1 ⟨x,j,c1,y,l,c2,h2,W,rfl,e,o,k,U,B,J⟩;refine cQ (aa e [.c,.v (nV ((lim y).length))] ?_);cases i:(decide ((0:Int)<(((lim y).length:Nat):Int)))
 .
  have p:=oF i;refine lB 9 i (ah (CG.exit ?_))
  show CG _ _ _ _ _ _ _ _
  refine aa e aF (lN (kX ?_));have F:y=0:=Nat.eq_zero_of_not_pos (fun H=>by have:=bI.2 H;omega);exact e.ret [] (qS j ((lim x).length) c1) (by rw[<-J,F,Nat.gcd_zero_right];exact ⟨j,c1,rfl,o,e.f.1⟩)
 have p:=oT i;refine lB 9 i (ak (cK (kZ (aa e aF (lC 13 e (ns x j c1 o y l c2 k oM oM (bI.1 oM) _ _ e.g e.f.1 e.f.2.1) ?_)))));rintro _ w5 h6 e ⟨_,_,rfl,⟨Aq,Q,rfl,Y,hq⟩,⟨K,L,rfl,C,hr⟩⟩;replace e:=e.aS hr;have V:=va x (bI.1 (show 0<(lim y).length by omega));have S:=dh (show x%y<=y by omega);refine lL e [.c,.v (qS Aq (lim (x/y)).length Q),.v (qS K ((lim (x%y)).length) L),.c,.c] (aE (lL e aF (lN (kQ (lL e aF (lD ?_))))));intro a_ ka;replace e:=((e.tl.tl.tl.aS e.f.1).aS e.f.r.1);refine ⟨_,_,?_,⟨y,l,c2,x%y,K,L,h6,rfl,rfl,e.to _ _,k,C,B,oM,(by rw[mh];exact J)⟩,ka.to _ kR⟩
 omega
def ar (x:Nat):List Value:=[.int .u64 (x:Nat)]
theorem wV {l:List Nat}{m:Nat}(h:0<m)(h0:l.getD (m-1) 0=0):tl l m=tl l (m-1):=by
 obtain ⟨k,rfl⟩:∃ k,m=k+1:=⟨m-1,by omega⟩;rw[kF,if_pos (by simpa using h0)];rfl
theorem pe (s:ByteArray)(d:8<=s.size)(w:World)(h:Hp)(g:G w h):CV 130 #[.string s] w h (mV (wv s)):=by
 have c:=sS g;have D:=bh s 0;have l:=bh s 1;have f:=bh s 2;have p:=bh s 3;have o:=bh s 4;have z:=bh s 5;have e:=bh s 6;have C:=bh s 7;refine go Tryz.func130 [(0,.string s)] rfl (aa c ac (ai (cR 38 [] mixed c aw ?_)));refine eV 0 3 (.string s) (eV 1 4 (.int .u8 (aj s 0:Nat)) ?_ (hv:=fun _=>aR (tx:=9) (x:=.tmp 3) (i:=.const (iV 0)) (k:=.i64) (s:=s) (n:=0) (j:=(0:Int)) kR kR kR kR oM oM _));refine eV 2 5 (mV (aj s 0)) ?_ (hv:=fun _=>rU (((aj s 0:Nat):Int)) kR (ay oM oM));refine eV 3 6 (.string s) (eV 4 7 (.int .u8 (aj s 1:Nat)) ?_ (hv:=fun _=>aR (tx:=9) (x:=.tmp 6) (i:=.const (iV 1)) (k:=.i64) (s:=s) (n:=1) (j:=(1:Int)) kR kR kR kR oM oM _));refine eV 5 8 (mV (aj s 1)) ?_ (hv:=fun _=>rU (((aj s 1:Nat):Int)) kR (ay oM oM));refine eV 6 9 (mV ((aj s 1)*256)) ?_ (hv:=fun _=>rU ((((aj s 1:Nat):Int)*256)) kR ((ay oM oM).trans oM));refine eV 7 10 (mV (aj s 0+aj s 1*256)) ?_ (hv:=fun _=>aN (gc (t:=22) (u:=22) (x:=.tmp 5) (y:=.tmp 9) (a:=(aj s 0)) (b:=((aj s 1)*256)) kR kR kR oM oM _) (by rw[fQ 8 oM];first|done|omega));refine eV 8 11 (.string s) (eV 9 12 (.int .u8 (aj s 2:Nat)) ?_ (hv:=fun _=>aR (tx:=9) (x:=.tmp 11) (i:=.const (iV 2)) (k:=.i64) (s:=s) (n:=2) (j:=(2:Int)) kR kR kR kR oM oM _));refine eV 10 13 (mV (aj s 2)) ?_ (hv:=fun _=>rU (((aj s 2:Nat):Int)) kR (ay oM oM));refine eV 11 14 (mV ((aj s 2)*65536)) ?_ (hv:=fun _=>rU ((((aj s 2:Nat):Int)*65536)) kR ((ay oM oM).trans oM));refine eV 12 15 (mV (aj s 0+aj s 1*256+aj s 2*65536)) ?_ (hv:=fun _=>aN (gc (t:=22) (u:=22) (x:=.tmp 10) (y:=.tmp 14) (a:=(aj s 0+aj s 1*256)) (b:=((aj s 2)*65536)) kR kR kR oM oM _) (by rw[fQ 16 oM];first|done|omega));refine eV 13 16 (.string s) (eV 14 17 (.int .u8 (aj s 3:Nat)) ?_ (hv:=fun _=>aR (tx:=9) (x:=.tmp 16) (i:=.const (iV 3)) (k:=.i64) (s:=s) (n:=3) (j:=(3:Int)) kR kR kR kR oM oM _));refine eV 15 18 (mV (aj s 3)) ?_ (hv:=fun _=>rU (((aj s 3:Nat):Int)) kR (ay oM oM));refine eV 16 19 (mV ((aj s 3)*16777216)) ?_ (hv:=fun _=>rU ((((aj s 3:Nat):Int)*16777216)) kR ((ay oM oM).trans oM));refine eV 17 20 (mV (aj s 0+aj s 1*256+aj s 2*65536+aj s 3*16777216)) ?_ (hv:=fun _=>aN (gc (t:=22) (u:=22) (x:=.tmp 15) (y:=.tmp 19) (a:=(aj s 0+aj s 1*256+aj s 2*65536)) (b:=((aj s 3)*16777216)) kR kR kR oM oM _) (by rw[fQ 24 oM];first|done|omega));refine eV 18 21 (.string s) (eV 19 22 (.int .u8 (aj s 4:Nat)) ?_ (hv:=fun _=>aR (tx:=9) (x:=.tmp 21) (i:=.const (iV 4)) (k:=.i64) (s:=s) (n:=4) (j:=(4:Int)) kR kR kR kR oM oM _));refine eV 20 23 (mV (aj s 4)) ?_ (hv:=fun _=>rU (((aj s 4:Nat):Int)) kR (ay oM oM));refine eV 21 24 (mV ((aj s 4)*4294967296)) ?_ (hv:=fun _=>rU ((((aj s 4:Nat):Int)*4294967296)) kR ((ay oM oM).trans oM));refine eV 22 25 (mV (aj s 0+aj s 1*256+aj s 2*65536+aj s 3*16777216+aj s 4*4294967296)) ?_ (hv:=fun _=>aN (gc (t:=22) (u:=22) (x:=.tmp 20) (y:=.tmp 24) (a:=(aj s 0+aj s 1*256+aj s 2*65536+aj s 3*16777216)) (b:=((aj s 4)*4294967296)) kR kR kR oM oM _) (by rw[fQ 32 oM];first|done|omega));refine eV 23 26 (.string s) (eV 24 27 (.int .u8 (aj s 5:Nat)) ?_ (hv:=fun _=>aR (tx:=9) (x:=.tmp 26) (i:=.const (iV 5)) (k:=.i64) (s:=s) (n:=5) (j:=(5:Int)) kR kR kR kR oM oM _));refine eV 25 28 (mV (aj s 5)) ?_ (hv:=fun _=>rU (((aj s 5:Nat):Int)) kR (ay oM oM));refine eV 26 29 (mV ((aj s 5)*1099511627776)) ?_ (hv:=fun _=>rU ((((aj s 5:Nat):Int)*1099511627776)) kR ((ay oM oM).trans oM));refine eV 27 30 (mV (aj s 0+aj s 1*256+aj s 2*65536+aj s 3*16777216+aj s 4*4294967296+aj s 5*1099511627776)) ?_ (hv:=fun _=>aN (gc (t:=22) (u:=22) (x:=.tmp 25) (y:=.tmp 29) (a:=(aj s 0+aj s 1*256+aj s 2*65536+aj s 3*16777216+aj s 4*4294967296)) (b:=((aj s 5)*1099511627776)) kR kR kR oM oM _) (by rw[fQ 40 oM];first|done|omega));refine eV 28 31 (.string s) (eV 29 32 (.int .u8 (aj s 6:Nat)) ?_ (hv:=fun _=>aR (tx:=9) (x:=.tmp 31) (i:=.const (iV 6)) (k:=.i64) (s:=s) (n:=6) (j:=(6:Int)) kR kR kR kR oM oM _));refine eV 30 33 (mV (aj s 6)) ?_ (hv:=fun _=>rU (((aj s 6:Nat):Int)) kR (ay oM oM));refine eV 31 34 (mV ((aj s 6)*281474976710656)) ?_ (hv:=fun _=>rU ((((aj s 6:Nat):Int)*281474976710656)) kR ((ay oM oM).trans oM));refine eV 32 35 (mV (aj s 0+aj s 1*256+aj s 2*65536+aj s 3*16777216+aj s 4*4294967296+aj s 5*1099511627776+aj s 6*281474976710656)) ?_ (hv:=fun _=>aN (gc (t:=22) (u:=22) (x:=.tmp 30) (y:=.tmp 34) (a:=(aj s 0+aj s 1*256+aj s 2*65536+aj s 3*16777216+aj s 4*4294967296+aj s 5*1099511627776)) (b:=((aj s 6)*281474976710656)) kR kR kR oM oM _) (by rw[fQ 48 oM];first|done|omega));refine eV 33 36 (.string s) (eV 34 37 (.int .u8 (aj s 7:Nat)) ?_ (hv:=fun _=>aR (tx:=9) (x:=.tmp 36) (i:=.const (iV 7)) (k:=.i64) (s:=s) (n:=7) (j:=(7:Int)) kR kR kR kR oM oM _));refine eV 35 38 (mV (aj s 7)) ?_ (hv:=fun _=>rU (((aj s 7:Nat):Int)) kR (ay oM oM));refine eV 36 39 (mV ((aj s 7)*72057594037927936)) ?_ (hv:=fun _=>rU ((((aj s 7:Nat):Int)*72057594037927936)) kR ((ay oM oM).trans oM));refine eV 37 40 (mV (aj s 0+aj s 1*256+aj s 2*65536+aj s 3*16777216+aj s 4*4294967296+aj s 5*1099511627776+aj s 6*281474976710656+aj s 7*72057594037927936)) ?_ (hv:=fun _=>aN (gc (t:=22) (u:=22) (x:=.tmp 35) (y:=.tmp 39) (a:=(aj s 0+aj s 1*256+aj s 2*65536+aj s 3*16777216+aj s 4*4294967296+aj s 5*1099511627776+aj s 6*281474976710656)) (b:=((aj s 7)*72057594037927936)) kR kR kR oM oM _) (by rw[fQ 56 oM];first|done|omega));exact cG c (fun w1 B c=>tV 38 2 (mV (aj s 0+aj s 1*256+aj s 2*65536+aj s 3*16777216+aj s 4*4294967296+aj s 5*1099511627776+aj s 6*281474976710656+aj s 7*72057594037927936)) (tN (kX (c.ret [] (mV (aj s 0+aj s 1*256+aj s 2*65536+aj s 3*16777216+aj s 4*4294967296+aj s 5*1099511627776+aj s 6*281474976710656+aj s 7*72057594037927936)) rfl))))
theorem C9 (A:Z9)(c:Nat)(l:List Nat)(D:l.length<=1099511627776)(B:l.length<=c)(w:World)(h:Hp)(g:G w h)(u:SlO 1 ar 0 h A l):CV 140 #[.slice A l.length c] w h (.slice A (tl l l.length) c):=by
 have a:=((sS g).aS u);refine go Tryz.func140 [(0,qS A l.length c)] rfl (aa a ac (ai (kZ ?_)));refine bG _ (CG.loop (fun o Γ z=>∃ (m:Nat)(k:Hp),o=m/\Γ=[(2,sZ),(0,qS A m c)]/\SS w h z k [] [] [fun k=>SlO 1 ar 0 k A l]/\m<=l.length/\tl l l.length=tl l m) _ ⟨l.length,h,rfl,rfl,a.to _ _,nR _,rfl⟩ ?_);rintro _ _ w1 ⟨m,x,p,rfl,a,F,j⟩;refine cQ (aa a [.c,.v (nV m)] ?_);cases d:(decide ((0:Int)<(m:Int)))
 .
  have e:=oF d;refine lB 5 d (lL a ac (lG 7 ?_));refine lG 8 (lG 9 (lG 10 (lG 11 (lG 12 (lG 13 (lL a [.v qF] (ah (CG.exit ?_))))))))
  show CG _ _ _ _ _ _ _ _
  exact aa a aF (af a [] (qS A m c) (by rw[j,mD oM]))
 have e:=oT d;refine lB 5 d (lL a [.c,.c,.c,.v (nV m)] (bg 10 ((m:Nat)-1) (m-1) ?_));refine lX 11 A m c 1 (m-1:Nat) (m-1) ((a.f.1).ok oM) (lH 12 (mV (l.getD (m-1) 0)) a ((a.f.1).el (m-1) oM) ?_);cases b:(((l.getD (m-1) 0:Nat):Int) == (0:Int))
 .
  have i:=ao b;refine lB 13 b (lL a [.v qF] (ah (CG.exit ?_)))
  show CG _ _ _ _ _ _ _ _
  exact aa a aF (af a [] (qS A m c) (by rw[j,mD oM]))
 have i:=eq_of_beq b;refine lB 13 b (lL a [.v qT] (ak (cK (kZ (kQ (lL a [.c,.c,.v (nV m)] (bg 18 ((m:Nat)-1) (m-1) ?_)))))));refine lT 19 A m c 1 (m-1:Nat) (m-1) (lL a ac (lD ?_));intro C y;refine ⟨_,_,?_,⟨m-1,x,rfl,rfl,a.to _ _,oM,(by rw[j];exact wV oM oM)⟩,y.to _ kR⟩
 omega
theorem oE {l m:List Nat}(b:l.length=m.length)(h:∀ j,j<l.length->l.getD j 0=m.getD j 0):l=m:=by
 apply List.ext_getElem b
 intro i h1 a;have:=h i h1
 simpa [h1,a] using this
theorem pg {l m:List Nat}{i x:Nat}(hi:i<l.length)(h:∀ j,j<i->l.getD j 0=m.getD j 0)(a:x=m.getD i 0):∀ j,j<i+1->(l.set i x).getD j 0=m.getD j 0:=fun j b=>by
 rw[bB hi]
 split
 ·rename_i e;rw[<-e];exact a
 ·exact h j oM
def Bp (h h1:Hp)(v:Value)(l:List Nat):Prop:=∃ b,v=.slice (some ⟨b,0,none⟩) l.length l.length/\h.size<=b/\h1[b]?=some (.cells (l.flatMap ar).toArray 22 (0,0))/\SlO 1 ar 0 h1 (some ⟨b,0,none⟩) l
theorem jA  (w:World)(h:Hp)(g:G w h):CV 111 #[nv 0] w h sZ:=by
 have a:=sS g;exact go Tryz.func111 [(0,nv 0)] rfl (aG (lA 1 24 ([uV 0,eS]) a (fun b w2 d a=>lL a ac (ai (aa a [.v (qP b 1),.o (eS) 0 1 1,.v qT,.c,.v (pB b),.o (uV 0) 0 0 1,.v qT,.v qT] (ak (aa a ac (af a [] (sZ) rfl))))))))
theorem gX (s:ByteArray)(k:Nat):(s.extract k s.size).size=s.size-k:=by
 simp[ByteArray.size_extract]
theorem oO {n L:Nat}(a:0<L):∀ j,j<1->((um L 0).set 0 (n%18446744073709551616)).getD j 0=(wds n).getD j 0:=fun j b=>by
 have:j=0:=by omega
 subst this;rw[bB (by simpa using a),if_pos rfl];have:=qD n
 unfold lo at this
 exact Int.ofNat.inj this
theorem AR (n:Nat)(V:0<n)(hl:(wds n).length<=1000000000)(B:n<18446744073709551616)(w:World)(h:Hp)(g:G w h):CR 111 #[nv n] w h (fun v h1=>Bp h h1 v (wds n)):=by
 have e:=sS g;have hz:=ir n;have hp:=i5.2 V;have X:=gZ B;have M:=congrArg JA (ik V B)
 simp only[List.length_singleton] at M
 refine go Tryz.func111 [(0,nv n)] rfl (aG (lA 1 24 (nc n) e (fun p w2 h3 e=>lL e ac (ai (aa e [.v (qP p 1),.o (.string (hi n)) 0 1 1] (lV 7 qT ?_ (hr:=rb kR (iL (eA B)))))))));refine lL e [.c,.v (pB p),.o (mV (n%18446744073709551616)) 0 0 1] ?_;have H:(((n%18446744073709551616:Nat):Int) == (0:Int))=false:=hC oM;have S:=ao H;refine lB 11 H (lL e [.v qF] (ah (cK (aa e [.v (qP p 1),.o (.string (hi n)) 0 1 1,.v (nV ((hi n).size))] (lV 16 (nV (((hi n).size)/8)) ?_ (hr:=aN (db (t:=3) (u:=3) (x:=.tmp 15) (y:=.const (iV 8)) (k:=.i64) (a:=(((hi n).size:Nat):Int)) (b:=(8:Int)) kR kR kR oM _) (de ((hi n).size) 8 oM)))))));refine bg 17 (1+(((hi n).size)/8:Nat)) ((wds n).length) (lK 18 22 ((wds n).length) 1 8 (uV 0) ar 0 e (fun z w6 W e=>?_));have L:(um ((wds n).length) 0).length=((wds n).length):=by simp
 refine lL e ac (aE (lL e [.c,.v (pB p),.o (mV (n%18446744073709551616)) 1 0 1] (lX 22 (sB z) ((wds n).length) ((wds n).length) 1 0 0 rfl ?_)));refine lW 0 (um ((wds n).length) 0) ar 1 0 (n%18446744073709551616) e oM (fun w9 e=>?_);have zc:((um ((wds n).length) 0).set 0 (n%18446744073709551616)).length=((wds n).length):=by rw[Jr];exact L
 replace e:=e.to [⟨z,22,((um ((wds n).length) 0).set 0 (n%18446744073709551616)).flatMap ar⟩,⟨p,24,nc n⟩] [];refine ai (aa e ac (bx ?_));refine bG _ (CG.loop (fun K Γ w_=>∃ (i:Nat)(l:List Nat)(h_:Hp),K=(wds n).length-i/\Γ=[(1,pB p),(2,sZ),(3,qS (sB z) ((wds n).length) ((wds n).length)),(4,nV i)]/\SS w h w_ h_ [⟨z,22,(l).flatMap ar⟩,⟨p,24,nc n⟩] [] []/\1<=i/\i<=(wds n).length/\l.length=(wds n).length/\(∀ j,j<i->l.getD j 0=(wds n).getD j 0)) _ ⟨1,(um ((wds n).length) 0).set 0 (n%18446744073709551616),W,rfl,rfl,e.to _ _,nR _,by omega,zc,oO oM⟩ ?_);rintro _ _ _ ⟨i,l,_,Q,rfl,e,hi1,hi2,J,U⟩;refine cQ (aa e [.c,.c,.v (nV ((wds n).length))] ?_);cases I:(decide ((i:Int)<((((wds n).length):Nat):Int)))
 .
  have Y:=oF I;refine lB 26 I (ah (CG.exit ?_))
  show CG _ _ _ _ _ _ _ _
  refine aa e aF (lN (kX ?_));have Z:i=(wds n).length:=by omega
  have O:l=wds n:=oE oM (fun j hj=>U j oM);rw[O] at e
  obtain ⟨_,e,C,F,D⟩:=e.pub 0;replace e:=(e.to [⟨p,24,nc n⟩] []).aS (SlO.of_flat (sz:=1) (f:=ar) (d:=0) (b:=z) (o:=0) (l:=wds n) (fun _=>rfl) C);exact e.ret [] (qS (sB z) ((wds n).length) ((wds n).length)) (⟨z,rfl,F,D,e.f.1⟩)
 have Y:=oT I;refine lB 26 I (ak (cK (cQ (kZ (kQ (lL e [.c,.c,.v (qP p 1),.o (.string (hi n)) 1 1 1,.c] (lI 34 ((i:Nat)-1) ?_)))))));refine bg 35 (8*((i:Nat)-1)) (8*(i-1)) (lV 36 (.string ((hi n).extract (8*(i-1)) (hi n).size)) ?_ (hr:=fv (tx:=9) (x:=.tmp 32) (i:=.tmp 35) (k:=.i64) (s:=hi n) (n:=(8*(i-1))) (j:=((8*(i-1):Nat):Int)) kR kR kR kR oM oM _));refine aq 37 e (pe ((hi n).extract (8*(i-1)) (hi n).size) (by rw[gX];omega) _ _ e.g) (fun _ ze e=>lX 38 (sB z) ((wds n).length) ((wds n).length) 1 (i:Nat) i rfl (lW 0 l ar 1 i (wv ((hi n).extract (8*(i-1)) (hi n).size):Nat) e oM (fun _ e=>?_)));have zd:((l).set i (wv ((hi n).extract (8*(i-1)) (hi n).size):Nat)).length=((wds n).length):=by rw[Jr];exact J
 replace e:=e.to [⟨z,22,((l).set i (wv ((hi n).extract (8*(i-1)) (hi n).size):Nat)).flatMap ar⟩,⟨p,24,nc n⟩] [];refine lN (kQ (lL e ac (bg 28 ((i:Nat)+1) (i+1) ?_)));refine lL e ac (lD ?_);intro a_ ka;refine ⟨_,_,?_,⟨i+1,(l).set i (wv ((hi n).extract (8*(i-1)) (hi n).size):Nat),ze,rfl,rfl,e.to _ _,oM,oM,zd,(pg oM U (by rw[iN n (i-1) oM,show i-1+1=i by omega]))⟩,ka.to _ kR⟩
 omega
theorem B5 (n:Nat)(hn:0<n)(hl:(wds n).length<=1000000000)(I:18446744073709551616<=n)(w:World)(h:Hp)(g:G w h):CR 111 #[nv n] w h (fun v h1=>Bp h h1 v (wds n)):=by
 have e:=sS g;have hz:=ir n;have hp:=i5.2 hn;refine go Tryz.func111 [(0,nv n)] rfl (aG (lA 1 24 (nc n) e (fun p w2 h3 e=>lL e ac (ai (aa e [.v (qP p 1),.o (.string (hi n)) 0 1 1] (lV 7 qF ?_ (hr:=rb kR (gK (fC I)))))))));refine lL e ac (lG 9 ?_);refine lG 10 (lG 11 (lL e [.v qF] (ah (cK (aa e [.v (qP p 1),.o (.string (hi n)) 0 1 1,.v (nV ((hi n).size))] (lV 16 (nV (((hi n).size)/8)) ?_ (hr:=aN (db (t:=3) (u:=3) (x:=.tmp 15) (y:=.const (iV 8)) (k:=.i64) (a:=(((hi n).size:Nat):Int)) (b:=(8:Int)) kR kR kR oM _) (de ((hi n).size) 8 oM))))))));refine bg 17 (1+(((hi n).size)/8:Nat)) ((wds n).length) (lK 18 22 ((wds n).length) 1 8 (uV 0) ar 0 e (fun z w5 Z e=>?_));have L:(um ((wds n).length) 0).length=((wds n).length):=by simp
 refine lL e ac (aE (lL e [.c,.v (pB p),.o (mV (n%18446744073709551616)) 1 0 1] (lX 22 (sB z) ((wds n).length) ((wds n).length) 1 0 0 rfl ?_)));refine lW 0 (um ((wds n).length) 0) ar 1 0 (n%18446744073709551616) e oM (fun w8 e=>?_);have J:((um ((wds n).length) 0).set 0 (n%18446744073709551616)).length=((wds n).length):=by rw[Jr];exact L
 replace e:=e.to [⟨z,22,((um ((wds n).length) 0).set 0 (n%18446744073709551616)).flatMap ar⟩,⟨p,24,nc n⟩] [];refine ai (aa e ac (bx ?_));refine bG _ (CG.loop (fun M Γ w_=>∃ (i:Nat)(l:List Nat)(h_:Hp),M=(wds n).length-i/\Γ=[(1,pB p),(2,sZ),(3,qS (sB z) ((wds n).length) ((wds n).length)),(4,nV i)]/\SS w h w_ h_ [⟨z,22,(l).flatMap ar⟩,⟨p,24,nc n⟩] [] []/\1<=i/\i<=(wds n).length/\l.length=(wds n).length/\(∀ j,j<i->l.getD j 0=(wds n).getD j 0)) _ ⟨1,(um ((wds n).length) 0).set 0 (n%18446744073709551616),Z,rfl,rfl,e.to _ _,nR _,by omega,J,oO oM⟩ ?_);rintro _ _ _ ⟨i,l,_,O,rfl,e,W,Y,K,Q⟩;refine cQ (aa e [.c,.c,.v (nV ((wds n).length))] ?_);cases F:(decide ((i:Int)<((((wds n).length):Nat):Int)))
 .
  have S:=oF F;refine lB 26 F (ah (CG.exit ?_))
  show CG _ _ _ _ _ _ _ _
  refine aa e aF (lN (kX ?_));have U:i=(wds n).length:=by omega
  have H:l=wds n:=oE oM (fun j hj=>Q j oM);rw[H] at e
  obtain ⟨_,e,B,D,C⟩:=e.pub 0;replace e:=(e.to [⟨p,24,nc n⟩] []).aS (SlO.of_flat (sz:=1) (f:=ar) (d:=0) (b:=z) (o:=0) (l:=wds n) (fun _=>rfl) B);exact e.ret [] (qS (sB z) ((wds n).length) ((wds n).length)) (⟨z,rfl,D,C,e.f.1⟩)
 have S:=oT F;refine lB 26 F (ak (cK (cQ (kZ (kQ (lL e [.c,.c,.v (qP p 1),.o (.string (hi n)) 1 1 1,.c] (lI 34 ((i:Nat)-1) ?_)))))));refine bg 35 (8*((i:Nat)-1)) (8*(i-1)) (lV 36 (.string ((hi n).extract (8*(i-1)) (hi n).size)) ?_ (hr:=fv (tx:=9) (x:=.tmp 32) (i:=.tmp 35) (k:=.i64) (s:=hi n) (n:=(8*(i-1))) (j:=((8*(i-1):Nat):Int)) kR kR kR kR oM oM _));refine aq 37 e (pe ((hi n).extract (8*(i-1)) (hi n).size) (by rw[gX];omega) _ _ e.g) (fun _ V e=>lX 38 (sB z) ((wds n).length) ((wds n).length) 1 (i:Nat) i rfl (lW 0 l ar 1 i (wv ((hi n).extract (8*(i-1)) (hi n).size):Nat) e oM (fun _ e=>?_)));have X:((l).set i (wv ((hi n).extract (8*(i-1)) (hi n).size):Nat)).length=((wds n).length):=by rw[Jr];exact K
 replace e:=e.to [⟨z,22,((l).set i (wv ((hi n).extract (8*(i-1)) (hi n).size):Nat)).flatMap ar⟩,⟨p,24,nc n⟩] [];refine lN (kQ (lL e ac (bg 28 ((i:Nat)+1) (i+1) ?_)));refine lL e ac (lD ?_);intro a_ ka;refine ⟨_,_,?_,⟨i+1,(l).set i (wv ((hi n).extract (8*(i-1)) (hi n).size):Nat),V,rfl,rfl,e.to _ _,oM,oM,X,(pg oM Q (by rw[iN n (i-1) oM,show i-1+1=i by omega]))⟩,ka.to _ kR⟩
 omega
theorem fe (n:Nat)(a:0<n)(b:(wds n).length<=1000000000)(w:World)(h:Hp)(g:G w h):CR 111 #[nv n] w h (fun v h1=>Bp h h1 v (wds n)):=by
 rcases co n 18446744073709551616 with hs|hs
 ·exact AR n a b hs w h g
 ·exact B5 n a b hs w h g
open Go.RowKit Go.Shelf
def vM:Go.Shelf.Ren:=⟨fun|167=>165|240=>82|276=>110|n=>n,fun|0=>0|4=>4|5=>5|9=>9|20=>20|37=>82|70=>81|72=>84|75=>99|164=>144|80=>86|n=>n,fun n=>n⟩
theorem BI:Go.Proofs.Lays.n167 Tryz.prog vM:={
 mixed:=by kernel_rfl
 f167:=Tryz.func165.trans (congrArg some kR)
 f240:=Tryz.func82.trans (congrArg some kR)
 f276:=Tryz.func110.trans (congrArg some kR)
 t0:=Tryz.underlying0
 a0:=Tryz.isAgg0
 z0:=Tryz.sizeOf0
 v0:=Tryz.zeroValue0
 t4:=Tryz.underlying4
 a4:=Tryz.isAgg4
 z4:=Tryz.sizeOf4
 v4:=Tryz.zeroValue4
 t5:=Tryz.underlying5
 a5:=Tryz.isAgg5
 z5:=Tryz.sizeOf5
 v5:=Tryz.zeroValue5
 t9:=Tryz.underlying9
 a9:=Tryz.isAgg9
 z9:=Tryz.sizeOf9
 v9:=Tryz.zeroValue9
 t20:=Tryz.underlying20
 a20:=Tryz.isAgg20
 z20:=Tryz.sizeOf20
 v20:=Tryz.zeroValue20
 t37:=Tryz.underlying82
 a37:=Tryz.isAgg82
 z37:=Tryz.sizeOf82
 v37:=Tryz.zeroValue82
 t70:=Tryz.underlying81
 a70:=Tryz.isAgg81
 z70:=Tryz.sizeOf81
 v70:=Tryz.zeroValue81
 t72:=Tryz.underlying84
 a72:=Tryz.isAgg84
 z72:=Tryz.sizeOf84
 v72:=Tryz.zeroValue84
 t75:=Tryz.underlying99
 a75:=Tryz.isAgg99
 z75:=Tryz.sizeOf99
 v75:=Tryz.zeroValue99
 t164:=Tryz.underlying144
 a164:=Tryz.isAgg144
 z164:=Tryz.sizeOf144
 v164:=Tryz.zeroValue144 }
theorem vA:Builder.Extra Tryz.prog vM:={
 sizeBuilder:=by kernel_rfl
 liesBuilder:=by kernel_rfl
 t5:=Tryz.underlying5
 a5:=Tryz.isAgg5
 z5:=Tryz.sizeOf5
 v5:=Tryz.zeroValue5
 infoByte:=by kernel_rfl
 cellsByte:=by kernel_rfl
 sizeByte:=by kernel_rfl
 neB5:=by decide }
theorem oD (A:Z9)(c:Nat)(l:List Nat)(V:Wd l)(hl:l.length<=1099511627776)(U:l.length<=c)(w:World)(h:Hp)(g:G w h)(hA:SlO 1 ar 0 h A l):CV 128 #[.slice A l.length c] w h (nv (aA l)):=by
 have d:=((sS g).aS hA);have htl:=fX l l.length;have hdl:(l.drop 1).length=l.length-1:=I9;refine go Tryz.func128 [(0,qS A l.length c)] rfl (aG (lA 2 24 ([uV 0,eS]) d (fun Q w2 h3 d=>aE (lL d ac (aq 8 d (C9 A c l hl U _ _ d.g d.f.1) (fun e h5 d=>lL d ac (ai (aa d [.c,.v (nV (tl l l.length))] (bx (aG ?_))))))))));cases F:((((tl l l.length):Nat):Int) == (0:Int))
 .
  have K:=ao F;refine lB 12 F (lL d ac (ah (aG ?_)));cases C:((((tl l l.length):Nat):Int) == (1:Int))
  .
   have M:=ao C;refine lB 15 C (lL d ac (ah (cK (aG ?_))));have j:=d;refine HH 3 84 [.pointer none,sZ] d (fun w8 i hxs Z=>?_);obtain ⟨h9,d,-⟩:=j.liftJ i;refine aE (lL d [.c,.v (nV (tl l l.length))] (bg 22 (((tl l l.length):Nat)-1) ((tl l l.length)-1) ?_));refine bg 23 (8*((tl l l.length)-1:Nat)) (8*((tl l l.length)-1)) (Au 24 j i (Tryz.Builder_Grow_fresh e.heap.size e.heap.size (8*((tl l l.length)-1):Nat) _ (nR _) Z hxs oM) (fun _ ze d p D=>?_))
   clear i
   have i:=p;clear p;have B:Lib.IsBuilder 84 5 e.heap.size e.heap.size (Lib.byteCells (((l.drop 1).take 0).flatMap b8)) _:=.inr D;refine ai (aa d ac (lF 26 A (tl l l.length) c 1 1 1 ?_));replace d:=d.aS (d.f.1.drop 1 c U);replace j:=j.aS (j.f.1.drop 1 c U);refine lL d [.v (nV ((tl l l.length)-1)),.c] (bx ?_);refine bG _ (CG.loop (fun H Γ I=>∃ (k:Nat)(z:Hp),H=(tl l l.length)-k/\Γ=[(0,qS A (tl l l.length) c),(2,pB Q),(3,.pointer (some ⟨e.heap.size,0,none⟩)),(26,qS (if c=1 then A else A.map (·.add (1*1))) ((tl l l.length)-1) (c-1)),(27,nV ((tl l l.length)-1)),(28,nV k)]/\SS w h I z [⟨Q,24,[uV 0,eS]⟩] [] [fun z=>SlO 1 ar 0 z (if c=1 then A else A.map (·.add (1*1))) (l.drop 1),fun z=>SlO 1 ar 0 z A l]/\k<=(tl l l.length)-1/\Ext e I/\Lib.IsBuilder 84 5 e.heap.size e.heap.size (Lib.byteCells (((l.drop 1).take k).flatMap b8)) I) _ ⟨0,ze,rfl,rfl,d.to _ _,JF _,i,B⟩ ?_);rintro _ _ zf ⟨k,zg,bb,rfl,d,hk,i,B⟩;have hxk:(l.drop 1).getD k 0<18446744073709551616:=Dg.getD (Dg.drop V 1) kD k;refine aG ?_;cases S:(decide ((k:Int)<(((tl l l.length)-1:Nat):Int)))
   .
    have zc:=oF S;refine lB 29 S (ai (cV (CG.exit ?_)))
    show CG _ _ _ _ _ _ _ _
    refine cQ (AU ⟨Ck e.heap.size zf.heap.size,none⟩ 5 mixed ?_);obtain ⟨_,d,hj⟩:=j.liftJ i.drew;refine aV 0 43 (qS A (tl l l.length) c) (aX 1 44 A (tl l l.length) c 1 0 0 ((d.f.2.1).ok oM) (aH 2 45 (mV (l.getD 0 0)) d ((d.f.2.1).el 0 oM) ?_ (fun b hb=>hj b (kU.1 hb).1 (kU.1 hb).2)));refine aC 3 46 ((Tryz.Builder_String_any e.heap.size e.heap.size (((l.drop 1).take k).flatMap b8) _ (rq B ((Ext.refl _).drew)) i.size).mono fun e_ _ ⟨X,J⟩=>⟨_,X,vG J,?_⟩);obtain ⟨_,d,-⟩:=j.liftJ (Below.trans i.drew J);refine aV 4 47 (.agg #[mV (l.getD 0 0),.string (⟨(((l.drop 1).take k).flatMap b8).toArray⟩)]) (tP 5 0 0 ([mV (l.getD 0 0),.string (⟨(((l.drop 1).take k).flatMap b8).toArray⟩)]) d (fun _ d=>tN (kX ?_)));have W:k=(tl l l.length)-1:=by omega
    exact d.ret [(0,0,2)] (.agg #[mV (l.getD 0 0),.string (⟨(((l.drop 1).take k).flatMap b8).toArray⟩)]) (by rw[W];exact Bq V oM)
   have zc:=oT S;refine lB 29 S (ai (ci (cK (cQ (kZ (aG (lX 30 (if c=1 then A else A.map (·.add (1*1))) ((tl l l.length)-1) (c-1) 1 (k:Nat) k ((d.f.1).ok oM) ?_)))))));refine lH 31 (mV ((l.drop 1).getD k 0)) d ((d.f.1).el k oM) (lL d ac (aE (lL d ac (bx ?_))));refine bG _ (CG.loop (fun H Γ I=>∃ (m:Nat)(z:Hp),H=8-m/\Γ=[(0,qS A (tl l l.length) c),(2,pB Q),(3,.pointer (some ⟨e.heap.size,0,none⟩)),(26,qS (if c=1 then A else A.map (·.add (1*1))) ((tl l l.length)-1) (c-1)),(27,nV ((tl l l.length)-1)),(28,nV k),(5,mV ((l.drop 1).getD k 0)),(32,nV m)]/\SS w h I z [⟨Q,24,[uV 0,eS]⟩] [] [fun z=>SlO 1 ar 0 z (if c=1 then A else A.map (·.add (1*1))) (l.drop 1),fun z=>SlO 1 ar 0 z A l]/\m<=8/\Ext e I/\Lib.IsBuilder 84 5 e.heap.size e.heap.size (Lib.byteCells (((l.drop 1).take k).flatMap b8++(b8 ((l.drop 1).getD k 0)).take m)) I) _ ⟨0,zg,rfl,rfl,d.to _ _,JF _,i,(by simpa using B)⟩ ?_);rintro _ _ _ ⟨m,zi,bd,rfl,d,hm,i,o⟩;refine aG ?_;cases O:(decide ((m:Int)<(8:Int)))
   .
    have zd:=oF O;refine lB 33 O (ai (cV (CG.exit ?_)))
    show CG _ _ _ _ _ _ _ _
    refine kQ (bg 42 ((k:Nat)+1) (k+1) ?_);refine lL d ac (lD ?_);intro a_ Y;refine ⟨_,_,?_,⟨k+1,zi,rfl,rfl,d.to _ _,oM,i,(by rw[show m=8 by omega,uf oM] at o;exact o)⟩,Y.to _ kR⟩
    omega
   have zd:=oT O;refine lB 33 O (ai (ci (cK (cQ (kZ (aa d aF (lN (kQ (lL d aF (bg 37 (8*(m:Nat)) (8*m) ?_))))))))));refine lV 38 (mV (((l.drop 1).getD k 0)/2^(8*m))) ?_ (hr:=fO (t:=22) (u:=3) (x:=.tmp 35) (y:=.tmp 37) (ky:=.i64) (a:=((l.drop 1).getD k 0)) (n:=(8*m)) kR kR kR oM _);refine lV 39 (.int .u8 ((((l.drop 1).getD k 0)/2^(8*m):Nat)%256:Nat)) ?_ (hr:=aN (n:=IntKind.wrap .u8 ((((l.drop 1).getD k 0)/2^(8*m):Nat):Int)) kR (wR _));refine Au 40 j i (Any.Builder_WriteByte BI vA e.heap.size e.heap.size _ ((((l.drop 1).getD k 0)/2^(8*m)%256:Nat):Int) _ o (tY oM oM oM) i.size) (fun _ zj d p D=>?_)
   clear i
   have i:=p;clear p;rw[re oM] at D
   have L:Lib.IsBuilder 84 5 e.heap.size e.heap.size _ _:=.inr D;refine lN (kQ (bg 41 ((m:Nat)+1) (m+1) ?_));refine lL d ac (lD ?_);intro a_ Y;refine ⟨_,_,?_,⟨m+1,zj,rfl,rfl,d.to _ _,oM,i,L⟩,Y.to _ kR⟩
   omega
  have M:=eq_of_beq C;refine lB 15 C (lL d ac (ak (aa d ac (lX 17 A (tl l l.length) c 1 0 0 ((d.f.1).ok oM) ?_))));exact lH 18 (mV (l.getD 0 0)) d ((d.f.1).el 0 oM) (lL d [.v (.agg #[mV (l.getD 0 0),eS])] (lP 0 0 ([mV (l.getD 0 0),eS]) d (fun _ d=>af d [(0,0,2)] (.agg #[mV (l.getD 0 0),eS]) (DT V oM))))
 have K:=eq_of_beq F;exact lB 12 F (lL d ac (ak (aa d [.v (.agg #[uV 0,eS])] (lP 0 0 ([uV 0,eS]) d (fun _ d=>af d [(0,0,2)] (.agg #[uV 0,eS]) (Bj oM))))))
end Go.Proofs.YtbbhdbhkaacnnaaGreatDoor
