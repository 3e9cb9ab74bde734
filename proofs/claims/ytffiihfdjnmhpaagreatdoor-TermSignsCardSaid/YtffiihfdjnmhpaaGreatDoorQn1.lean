/- Laws of this claim, part 2. -/
import Derived.Test.YtffiihfdjnmhpaaGreatDoorQn0
set_option maxRecDepth 100000
set_option maxHeartbeats 4000000
namespace Go.Proofs.YtffiihfdjnmhpaaGreatDoor
open _root_.Array renaming getElem?_append_left -> et, getElem?_append_right -> ey, getElem?_eq_none -> ea, getElem?_replicate -> um, getElem?_setIfInBounds_ne -> g6, getElem?_setIfInBounds_self_of_lt -> u9, replicate -> ow
open Bool renaming and_eq_true -> hI, true_and -> JG
open Int renaming fdiv -> JF, toNat_natCast -> ub
open List renaming all_eq_true -> hS, drop_eq_getElem_cons -> Jg, drop_eq_nil_of_le -> JA, eq_nil_of_length_eq_zero -> s1, flatMap_cons -> rh, getD_cons_succ -> sc, getD_eq_getElem?_getD -> A6, getElem?_append_left -> p0, getElem?_append_right -> ql, getElem?_drop -> p2, getElem?_eq_none -> o1, getElem?_eq_some_iff -> Jy, getElem?_map -> Jc, getElem?_range -> Jd, getElem?_take_of_lt -> p1, getElem_mem -> e5, getElem_set_ne -> yz, getElem_set_self -> yY, length -> JC, length_append -> sy, length_drop -> Jb, length_set -> Jt, length_take -> z1, map_cons -> un, map_nil -> JE, map_toArray -> JD, mem_flatMap -> Jz, mem_iff_getElem -> pt, mem_map -> ga, mem_of_mem_eraseIdx -> wl, mem_range -> i1, pairwise_iff_getElem -> yy, replicate -> ta, set_cons_zero -> JB, take_length -> r9, take_of_length_le -> I7
open Nat renaming add_assoc -> rc, add_mul -> I6, add_mul_div_left -> I5, add_mul_mod_self_left -> Jw, add_sub_cancel -> Jl, add_zero -> ri, div_add_mod -> I9, div_div_eq_div_mul -> Bs, div_eq_of_lt -> y9, div_eq_of_lt_le -> Jm, div_lt_iff_lt_mul -> Jk, div_mul_le_self -> Ji, eq_zero_or_pos -> va, gcd -> JK, gcd_comm -> JL, le_refl -> eb, le_trans -> ed, lt_div_mul_add -> Jj, lt_of_le_of_lt -> y6, lt_of_lt_of_le -> ep, lt_of_mul_lt_mul_left -> Jx, lt_or_ge -> co, min_eq_left -> z2, mod_add_div -> Js, mod_eq_of_lt -> tv, mod_lt -> ua, mul_add -> zT, mul_add_div -> Jv, mul_assoc -> zY, mul_comm -> zz, mul_div_mul_right -> Jp, mul_le_mul -> Jq, mul_le_mul_left -> Ao, mul_le_mul_right -> s5, mul_lt_mul_of_pos_left -> F2, mul_lt_mul_of_pos_right -> Jo, mul_mod_mul_right -> Jr, mul_pos -> Jn, mul_succ -> Jf, mul_zero -> z6, one_mul -> I8, pos_of_ne_zero -> Jh, pow_add -> Am, pow_le_pow_right -> Aa, pow_mul -> A4, pow_pos -> A8, pow_succ -> zy, pow_zero -> JI, succ_pos -> JJ, two_pow_add_eq_or_of_lt -> Je, two_pow_pos -> z8, zero_add -> s4, zero_le -> JH, zero_mod -> Ju, zero_mul -> sA
open Option renaming map_some -> pc
open Go.RowKit
theorem n5 (n k:Nat):(wds n).getD k 0<18446744073709551616:=(Wd.wds n).get k
def b8 (x:Nat):List UInt8:=(List.range 8).map (fun k=>UInt8.ofNat (x/256^k))
theorem jL (x:Nat):(b8 x).length=8:=rfl
theorem DJ (m:Nat):b8 (m%18446744073709551616)=b8 m:=by
 unfold b8
 apply List.map_congr_left
 intro k b;have a:k<8:=i1.1 b
 apply UInt8.toNat_inj.1
 show (m%18446744073709551616/256^k)%256=(m/256^k)%256
 have:k=0\/k=1\/k=2\/k=3\/k=4\/k=5\/k=6\/k=7:=by omega
 rcases this with rfl|rfl|rfl|rfl|rfl|rfl|rfl|rfl<;>omega
theorem x6:∀ (f m:Nat),m<=f->wb f m=(f5 18446744073709551616 m).flatMap b8
  | 0,m,h=>by
    have:m=0:=by omega
    subst this;rfl
  | f+1,m,h=>by
    unfold wb
    split
    . rename_i h0;subst h0;rfl
    . rw[d5 kD oM,rh,DJ,x6 f _ oM];rfl
theorem Cb (n:Nat):f5 18446744073709551616 (n/18446744073709551616)=(f5 18446744073709551616 n).drop 1:=by
 rcases va n with h|h
 ·subst h;rfl
 ·conv=>rhs;rw[d5 kD h]
  rfl
theorem nE (n:Nat):(hi n).data.toList=((wds n).drop 1).flatMap b8:=by
 unfold hi wds
 rw[x6 _ _ oM,Cb]
theorem mN (l:List Nat):(l.flatMap b8).length=8*l.length:=by
 induction l with
 | nil=>rfl
 | cons x l ih=>rw[rh,sy,ih,jL,List.length_cons];omega
theorem ir (n:Nat):(hi n).size=8*((wds n).length-1):=by
 have:(hi n).size=(hi n).data.toList.length:=by rw[Array.length_toList];rfl
 rw[this,nE,mN,Jb]
theorem mL:∀ (l:List Nat) (j k:Nat),j<l.length->k<8->(l.flatMap b8).getD (8*j+k) 0=(b8 (l.getD j 0)).getD k 0
  | [],j,k,hj,_=>by simp at hj
  | x::l,0,k,hj,hk=>by
    rw[rh]
    simp only[A6]
    rw[p0 (by rw[jL];omega)]
    simp
  | x::l,j+1,k,hj,hk=>by
    rw[rh,sc,<-mL l j k (by simpa using hj) hk]
    simp only[A6]
    rw[ql (by rw[jL];omega),jL]
    congr 2
    omega
theorem Ew (x k:Nat)(a:k<8):((b8 x).getD k 0).toNat=x/256^k%256:=by
 unfold b8
 simp only[A6,Jc,Jd a]
 rfl
theorem DM (n j k:Nat)(b:j+1<(wds n).length)(a:k<8):ak (hi n) (8*j+k)=(wds n).getD (j+1) 0/256^k%256:=by
 unfold ak
 rw[nE,mL _ _ _ (by rw[Jb];omega) a,Ew _ _ a,bJ,Nat.add_comm 1 j]
theorem Ho {s:ByteArray}{x:Nat}(a:x<18446744073709551616)(h:∀ k,k<8->ak s k=x/256^k%256):wv s=x:=by
 unfold wv
 rw[h 0 oM,h 1 oM,h 2 oM,h 3 oM,h 4 oM,h 5 oM,h 6 oM,h 7 oM]
 simp only[Nat.reducePow,Nat.div_one]
 omega
theorem iM (n j:Nat)(a:j+1<(wds n).length):wv ((hi n).extract (8*j) (hi n).size)=(wds n).getD (j+1) 0 :=
 Ho (n5 n _) (fun k b=>by rw[dd,DM n j k a b])
theorem eu {n:Nat}(h:n<18446744073709551616):hi n=⟨#[]⟩:=ma h
theorem cA {n:Nat}(h:18446744073709551616<=n):2<=(wds n).length:=by
 rcases co (wds n).length 2 with h1|h1
 ·have a:=iN (b:=18446744073709551616) kD n
  have:(18446744073709551616:Nat)^(f5 18446744073709551616 n).length<=18446744073709551616^1:=Aa kD (by show (wds n).length<=1;omega)
  omega
 ·exact h1
theorem fv {n:Nat}(h:18446744073709551616<=n):(hi n).size≠0:=by rw[ir];have:=cA h;omega
theorem iq {n:Nat}(h0:0<n)(h:n<18446744073709551616):wds n=[n]:=by
 unfold wds
 rw[d5 kD h0,tv h,y9 h,jt]
theorem uK:wds 0=[]:=rfl
theorem iX {n:Nat}:0<(wds n).length↔0<n:=nj kD
theorem qj (n:Nat):lo n=(((wds n).getD 0 0:Nat):Int):=by
 unfold lo wds
 rcases va n with h|h
 ·subst h;rfl
 ·rw[d5 kD h];rfl
theorem kY {l:List Nat}(h:Wd l):wds (aD l)=l.take (tl l l.length):=FC kD h
theorem kM {n:Nat}(h:0<n):(wds n).getD ((wds n).length-1) 0≠0:=kP kD n h
theorem G6 {n:Nat}{l:List UInt8}(h:l=((wds n).drop 1).flatMap b8):(⟨l.toArray⟩:ByteArray)=hi n:=by
 have:(hi n).data.toList=l:=by rw[nE,h]
 cases e:hi n with
 | mk d=>rw[e] at this;rw[<-this]
theorem fh (n:Nat):n<18446744073709551616^(wds n).length:=iN kD n
theorem dY {a b:Nat}(h:a<=b):(wds a).length<=(wds b).length:=gx kD (y6 h (fh b))
theorem fP {a b:Nat}(k:Nat)(h:a<2^k):a ||| b*2^k=a+b*2^k:=by
 have:=Je h b;rw[Nat.or_comm,zz b,<-this];omega
def cY (a b:Nat):Int:=if a<b then -1 else if b<a then 1 else 0
theorem dK {a b:Nat}(h:a<b):cY a b = -1:=by simp[cY,h]
theorem eU {a b:Nat}(h:b<a):cY a b=1:=by unfold cY;rw[if_neg oM,if_pos h]
theorem ip {a b:Nat}(h:a=b):cY a b=0:=by unfold cY;rw[if_neg oM,if_neg oM]
theorem ig {a b:Nat}(h:b<=a):cY a b=0\/cY a b=1:=by
 unfold cY
 rw[if_neg oM]
 split<;>simp
theorem fs {a b:Nat}(h:(wds a).length<(wds b).length):a<b:=by
 rcases co a b with hl|hl
 ·exact hl
 ·have:=dY hl;omega
theorem kT {a b k:Nat}(d:(wds a).length=(wds b).length)(h:k<(wds a).length)(e:(wds a).drop (k+1)=(wds b).drop (k+1))(c:(wds a).getD k 0<(wds b).getD k 0):a<b:=by
 have i:=bX 18446744073709551616 (l:=wds a) (k:=k+1) oM;have u:=bX 18446744073709551616 (l:=wds b) (k:=k+1) oM;have o:am 18446744073709551616 (wds a)=a:=aZ a;have x:am 18446744073709551616 (wds b)=b:=aZ b;have y:=aJ 18446744073709551616 (l:=wds a) (k:=k) h;have j:=aJ 18446744073709551616 (l:=wds b) (k:=k) oM;have f:=bV (Dg.take (Wd.wds a) k);rw[z1,z2 oM] at f
 have p:18446744073709551616^k*(wds a).getD k 0+18446744073709551616^k<=18446744073709551616^k*(wds b).getD k 0:=by
  rw[<-Jf];exact Ao _ c
 rw[e] at i
 omega
theorem kH {a b k:Nat}(c:(wds a).length=(wds b).length)(f:k<(wds a).length)(d:(wds a).drop (k+1)=(wds b).drop (k+1))(e:(wds a).getD k 0≠(wds b).getD k 0):cY ((wds a).getD k 0) ((wds b).getD k 0)=cY a b:=by
 rcases co ((wds a).getD k 0) ((wds b).getD k 0) with h|h
 ·rw[dK h,dK (kT c f d h)]
 ·rw[eU oM,eU (kT c.symm oM d.symm oM)]
theorem eM {l m:List Nat}{k:Nat}(d:l.length=m.length)(b:k<l.length)(c:l.drop (k+1)=m.drop (k+1))(a:l.getD k 0=m.getD k 0):l.drop k=m.drop k:=by
 rw[Jg b,Jg (l:=m) (i:=k) oM,c]
 simp[b,show k<m.length by omega] at a
 rw[a]
theorem r6 (n:Nat):n%18446744073709551616=(wds n).getD 0 0:=Int.ofNat.inj (qj n)
theorem oq {a b:Nat}(c:(wds a).length=(wds b).length)(f:(wds a).drop 1=(wds b).drop 1):cY (a%18446744073709551616) (b%18446744073709551616)=cY a b:=by
  rw[r6,r6]
  by_cases h:(wds a).getD 0 0=(wds b).getD 0 0
  . have:a=b:=by
      rcases va (wds a).length with h0|h0
      . have d:=aZ a
        have e:=aZ b;have i:wds a=[]:=s1 h0;have j:wds b=[]:=s1 oM;rw[i] at d
        rw[j] at e
        exact d.symm.trans e
      . have:=eM c h0 f h
        simp only[List.drop_zero] at this
        rw[<-aZ a,<-aZ b,this]
    rw[h,ip rfl,ip this]
  . refine kH c ?_ f h
    rcases va (wds a).length with h0|h0
    . exfalso;apply h
      have d:wds a=[]:=s1 h0;have e:wds b=[]:=s1 oM;rw[d,e]
    . exact h0
theorem rN {n:Nat}(h:(wds n).length<=1):n<18446744073709551616:=by
 rcases co n 18446744073709551616 with h1|h1
 ·exact h1
 ·have:=cA h1;omega
theorem oN {a b:Nat}(c:(wds a).length-1=(wds b).length-1)(d:(wds a).drop 1=(wds b).drop 1):cY (a%18446744073709551616) (b%18446744073709551616)=cY a b:=by
 rcases co 1 (wds a).length with h|h
 ·exact oq oM d
 ·rw[tv (rN h),tv (rN oM)]
theorem xp {n:Nat}(h:0<n):nb n=64*((wds n).length-1)+nb ((wds n).getD ((wds n).length-1) 0):=by
 have d:=iX.2 h;have e:=aJ 18446744073709551616 (l:=wds n) (k:=(wds n).length-1) oM;rw[show (wds n).length-1+1=(wds n).length by omega,r9] at e
 have c:am 18446744073709551616 (wds n)=n:=aZ n;have a:=bV (Dg.take (Wd.wds n) ((wds n).length-1));rw[z1,z2 oM] at a
 have b:(18446744073709551616:Nat)^((wds n).length-1)=2^(64*((wds n).length-1)):=by rw[A4]
 rw[c,b] at e
 rw[b] at a
 have:=x7 a (Jh (kM h));rw[<-e] at this
 exact this
theorem jS {n:Nat}(h:n<18446744073709551616):Value.agg #[.int .u64 (n:Int),.string ⟨#[]⟩]=nv n:=by unfold nv;rw[gQ h,ma h]
theorem ft {n:Nat}:(wds n).length<=1↔n<18446744073709551616:=by
 constructor
 ·intro h
  rcases co n 18446744073709551616 with h1|h1
  ·exact h1
  ·have:=cA h1;omega
 ·intro h
  rcases va n with h0|h0
  ·subst h0;simp[uK]
  ·rw[iq h0 h];simp
structure HalfQ (Y y1 y0 u u1 q r:Nat):Prop where
  e:q*y1+r=u
  lt:u*4294967296+u1<(q+1)*Y
  qb:q<=4294967297
theorem ll {Y y1 y0 u u1:Nat}(d:Y=y1*4294967296+y0)(h1:u1<4294967296)(h:2147483648<=y1)(h0:y0<4294967296)(hu:u<Y):HalfQ Y y1 y0 u u1 (u/y1) (u-u/y1*y1):=by
 have e:u/y1*y1<=u:=Ji u y1
 have c:u<(u/y1+1)*y1:=by
  have:=Jj (a:=u) (b:=y1) oM;rw[I6,I8];exact this
 refine ⟨by omega,?_,?_⟩
 ·have:(u/y1+1)*Y=(u/y1+1)*y1*4294967296+(u/y1+1)*y0:=by rw[d,zT,zY]
  omega
 ·have f:u/y1<4294967298:=by
   rw[Jk oM]
   omega
  omega
theorem mT {u y1:Nat}(h:0<y1):u-u/y1*y1<y1:=by
 have:=Jj (a:=u) (b:=y1) h;have c:u/y1*y1<=u:=Ji u y1
 omega
theorem HalfQ.dec {Y y1 y0 u u1 q r:Nat}(h:HalfQ Y y1 y0 u u1 q r)(b:Y=y1*4294967296+y0)(h1:u1<4294967296)(hu:u<Y)(a:4294967296<=q\/4294967296*r+u1<q*y0):HalfQ Y y1 y0 u u1 (q-1) (r+y1):=by
 have c:0<q:=by
  rcases a with h2|h2
  ·omega
  ·rcases va q with h3|h3
   ·subst h3;omega
   ·exact h3
 obtain ⟨p,rfl⟩:∃ p,q=p+1:=⟨q-1,by omega⟩;have e:=h.e;rw[I6,I8] at e
 refine ⟨by rw[Jl];omega,?_,by have:=h.qb;omega⟩;rw[Jl]
 rcases a with h2|h2
 ·have:4294967296*Y<=(p+1)*Y:=s5 _ h2
  omega
 ·have:(p+1)*Y=(p+1)*y1*4294967296+(p+1)*y0:=by rw[b,zT,zY]
  rw[I6 p 1 y1,I8] at this
  omega
theorem HalfQ.fin {Y y1 y0 u u1 q r:Nat}(h:HalfQ Y y1 y0 u u1 q r)(d:Y=y1*4294967296+y0)(f:¬4294967296*r+u1<q*y0):q=(u*4294967296+u1)/Y/\(u*4294967296+u1)-q*Y=(u*4294967296+u1)%Y/\q*Y<=u*4294967296+u1:=by
 have a:q*Y<=u*4294967296+u1:=by
  have:q*Y=q*y1*4294967296+q*y0:=by rw[d,zT,zY]
  have:=h.e
  omega
 have b:q=(u*4294967296+u1)/Y:=(Jm a h.lt).symm;have c:=I9 (u*4294967296+u1) Y;rw[<-b,zz] at c
 exact ⟨b,by omega,a⟩
theorem HalfQ.brk {Y y1 y0 u u1 q r:Nat}(h:HalfQ Y y1 y0 u u1 q r)(a:Y=y1*4294967296+y0)(h0:y0<4294967296)(hr:4294967296<=r)(b:q<=4294967296):q=(u*4294967296+u1)/Y/\(u*4294967296+u1)-q*Y=(u*4294967296+u1)%Y/\q*Y<=u*4294967296+u1 :=
 h.fin a (by
  have:q*y0<=4294967296*y0:=s5 _ b
  omega)
theorem jC {A y s Y Q R:Nat}(b:Y=y*2^s)(c:A*2^s=Y*Q+R)(h:R<Y):A=y*Q+R/2^s/\R/2^s<y:=by
 have d:0<2^s:=z8 s;have e:y*Q*2^s=Y*Q:=by rw[b];ac_rfl
 have f:y*Q<=A:=by
  have:y*Q*2^s<=A*2^s:=by rw[c,e];omega
  exact Nat.le_of_mul_le_mul_right this d
 have a:R=(A-y*Q)*2^s:=by rw[Nat.sub_mul,c,e];omega
 rw[a,Nat.mul_div_cancel _ d];refine ⟨by omega,?_⟩;have:(A-y*Q)*2^s<y*2^s:=by rw[<-a,<-b];exact h
 exact Nat.lt_of_mul_lt_mul_right this
theorem tQ {A y s a e Y u1 f u h o R:Nat}(b:Y=y*2^s)(x:A*2^s=a*18446744073709551616+e)(d:e=u1*4294967296+f)(z:0<y)
  (j:u=(a*4294967296+u1)/Y)(p:h=(a*4294967296+u1)%Y)(k:o=(h*4294967296+f)/Y)(i:R=(h*4294967296+f)%Y) :
  A=y*(u*4294967296+o)+R/2^s/\R/2^s<y:=by
 have c:0<Y:=by rw[b];exact Jn z (z8 s)
 have B:=I9 (a*4294967296+u1) Y;have C:=I9 (h*4294967296+f) Y;rw[<-j,<-p] at B
 rw[<-k,<-i] at C
 have l:R<Y:=by rw[i];exact ua _ c
 refine jC b ?_ l;rw[x,d,zT,<-zY]
 clear j p k i x d l b c z
 omega
theorem sK {y:Nat}(h0:0<y)(h:y<18446744073709551616):9223372036854775808<=y*2^(64-nb y)/\y*2^(64-nb y)<18446744073709551616:=by
 obtain ⟨a,c,f⟩:=cl h0;have b:nb y<=64:=jg (k:=64) h
 have d:(2:Nat)^(nb y-1)*2^(64-nb y)=9223372036854775808:=by
  rw[<-Am,show nb y-1+(64-nb y)=63 by omega]
 have e:(2:Nat)^nb y*2^(64-nb y)=18446744073709551616:=by
  rw[<-Am,show nb y+(64-nb y)=64 by omega]
 have i:=s5 (2^(64-nb y)) a;have j:=Jo c (z8 (64-nb y))
 omega
theorem BO {hi lo s:Nat}(c:s<=64)(b:lo<18446744073709551616):(hi*18446744073709551616+lo)*2^s=(hi*2^s+lo/2^(64-s))*18446744073709551616+lo*2^s%18446744073709551616/\lo/2^(64-s)<2^s:=by
 have e:(18446744073709551616:Nat)=2^(64-s)*2^s:=by rw[<-Am,show 64-s+s=64 by omega]
 have h1:lo*2^s/18446744073709551616=lo/2^(64-s):=by
  rw[e,Jp _ _ (z8 s)]
 have a:=I9 (lo*2^s) 18446744073709551616;rw[h1] at a
 constructor
 ·rw[I6,I6]
  have:hi*18446744073709551616*2^s=hi*2^s*18446744073709551616:=by ac_rfl
  omega
 ·rw[Jk (z8 _),zz,<-e];exact b
theorem mH {a b q Y r:Nat}(h:q*Y<=a*4294967296+b)(hr:a*4294967296+b-q*Y=r)(c:r<18446744073709551616):((a*4294967296%18446744073709551616+b)%18446744073709551616+(18446744073709551616-q*Y%18446744073709551616))%18446744073709551616=r:=by
 generalize q*Y=m at *
 omega
theorem CM {a b:Nat}(ha:a<4294967296)(c:b<4294967296):a*b<18446744073709551616:=by
 have:a*b<=4294967295*4294967295:=Jq oM oM
 omega
theorem dt {a b c:Nat}(h:c<a*b):0<a:=by
 rcases va a with h0|h0
 ·rw[h0,sA] at h;omega
 ·exact h0
theorem pp {u u1 Y:Nat}(h:u<Y)(h1:u1<4294967296):(u*4294967296+u1)/Y<4294967296:=by
 rw[Jk oM];have:(u+1)*4294967296<=Y*4294967296:=s5 _ h
 omega
theorem vG {p:Nat}(h:p<=64):(18446744073709551616:Nat)=2^(64-p)*2^p:=by rw[<-Am,show 64-p+p=64 by omega]
theorem vv {x p o:Nat}(d:p<=64)(f:x<18446744073709551616)(c:o<2^p) :
  o ||| (x*2^p%18446744073709551616)=o+x*2^p%18446744073709551616/\o+x*2^p%18446744073709551616<18446744073709551616/\x*2^p%18446744073709551616+18446744073709551616*(x/2^(64-p))=x*2^p/\x/2^(64-p)<2^p:=by
 have e:=vG d
 have b:x*2^p%18446744073709551616=x%2^(64-p)*2^p:=by
  conv=>lhs;rw[e]
  exact Jr _ _ _
 have a:x%2^(64-p)<2^(64-p):=ua _ (z8 _);refine ⟨by rw[b];exact fP p c,?_,?_,?_⟩
 ·rw[b]
  have:(x%2^(64-p)+1)*2^p<=2^(64-p)*2^p:=s5 _ a;rw[<-e,I6] at this
  omega
 ·have h1:x*2^p/18446744073709551616=x/2^(64-p):=by
   conv=>lhs;rw[e]
   exact Jp _ _ (z8 _)
  rw[<-h1];exact Js _ _
 ·rw[Jk (z8 _),zz,<-e];exact f
theorem Ag {l w:List Nat}{i q p x o a c:Nat}(u:i+q+1<l.length)(hv:aD l=2^p*(18446744073709551616^q*am 18446744073709551616 (w.take i)))(h0:l.getD (i+q+1) 0=0)(e:a+18446744073709551616*c=x*2^p)(j:x=w.getD i 0)(h:o=l.getD (i+q) 0) :
  aD ((l.set (i+q) (o+a)).set (i+q+1) c)=2^p*(18446744073709551616^q*am 18446744073709551616 (w.take (i+1))):=by
 have d:=ct 18446744073709551616 (l:=l) (k:=i+q) (o+a) oM;have b:=ct 18446744073709551616 (l:=l.set (i+q) (o+a)) (k:=i+q+1) c (by rw[Jt];omega);rw[bC oM,if_neg oM,h0] at b
 rw[<-h] at d
 have f:2^p*(18446744073709551616^q*am 18446744073709551616 (w.take (i+1)))=aD l+18446744073709551616^(i+q)*(x*2^p):=by
  rw[aR,hv,<-j,zT,zT,Am]
  congr 1
  ac_rfl
 rw[f,<-e];rw[zy] at b
 show am 18446744073709551616 _=am 18446744073709551616 l+_
 simp only[zT,<-zY] at d b ⊢
 omega
theorem vF (n:Nat):(2:Nat)^n=18446744073709551616^(n/64)*2^(n%64):=by
 have:n=64*(n/64)+n%64:=by omega
 conv=>lhs;rw[this,Am,A4]
theorem ph {x y p:Nat}(f:p<=64)(h:x<18446744073709551616) :
  (x/2^p) ||| (y*2^(64-p)%18446744073709551616)=x/2^p+y*2^(64-p)%18446744073709551616/\x/2^p+y*2^(64-p)%18446744073709551616<18446744073709551616/\2^p*(x/2^p+y*2^(64-p)%18446744073709551616)+x%2^p=x+18446744073709551616*(y%2^p):=by
 have e:=vG f;have c:(18446744073709551616:Nat)=2^p*2^(64-p):=by rw[zz];exact e
 have a:y*2^(64-p)%18446744073709551616=y%2^p*2^(64-p):=by
  conv=>lhs;rw[c]
  exact Jr _ _ _
 have d:x/2^p<2^(64-p):=by rw[Jk (z8 _),<-e];exact h
 have b:y%2^p<2^p:=ua _ (z8 _);refine ⟨by rw[a];exact fP (64-p) d,?_,?_⟩
 ·rw[a]
  have:(y%2^p+1)*2^(64-p)<=2^p*2^(64-p):=s5 _ b;rw[<-c,I6] at this
  omega
 ·rw[a,zT]
  have h1:=I9 x (2^p);have i:2^p*(y%2^p*2^(64-p))=18446744073709551616*(y%2^p):=by rw[c];ac_rfl
  omega
theorem o8 {l W:List Nat}{i p d c:Nat}(o:i<l.length)(a:2^p*am 18446744073709551616 l+c=am 18446744073709551616 (W.take i)+18446744073709551616^i*(W.getD i 0%2^p))(h0:l.getD i 0=0)(h:2^p*d+W.getD i 0%2^p=W.getD i 0+18446744073709551616*(W.getD (i+1) 0%2^p)) :
  2^p*am 18446744073709551616 (l.set i d)+c=am 18446744073709551616 (W.take (i+1))+18446744073709551616^(i+1)*(W.getD (i+1) 0%2^p):=by
 have f:=ct 18446744073709551616 (l:=l) (k:=i) d o;rw[h0] at f
 rw[aR,zy];have b:18446744073709551616^i*(2^p*d+W.getD i 0%2^p)=18446744073709551616^i*(W.getD i 0+18446744073709551616*(W.getD (i+1) 0%2^p)):=by rw[h]
 have j:am 18446744073709551616 (l.set i d)=am 18446744073709551616 l+18446744073709551616^i*d:=by omega
 rw[j,zT];have e:2^p*(18446744073709551616^i*d)=18446744073709551616^i*(2^p*d):=by ac_rfl
 rw[e]
 simp only[zT,<-zY] at b ⊢
 simp only[zY] at b a ⊢
 omega
theorem AI {l W:List Nat}{p m:Nat}(b:W.length<=m)(a:2^p*am 18446744073709551616 l+W.getD 0 0%2^p=am 18446744073709551616 (W.take m)+18446744073709551616^m*(W.getD m 0%2^p)):aD l=aD W/2^p:=by
 rw[I7 b] at a
 have h0:W.getD m 0=0:=by simp[o1 b]
 rw[h0,Ju,z6,ri] at a
 have c:=z8 p;have d:=ua (W.getD 0 0) c
 show am _ l=am _ W/_
 rw[<-a,Jv c,y9 d,ri]
theorem mw {w:List Nat}(b:Wd w){q:Nat}(a:q<=w.length):aD (w.drop q)=aD w/18446744073709551616^q:=by
 have e:=bX 18446744073709551616 a;have h1:=bV (Dg.take b q);rw[z1,z2 a] at h1
 show am _ _=am _ w/_
 rw[e,I5 _ _ (A8 kD),y9 h1,s4]
def p8 (x:Nat):List Value:=[.int .u8 (x:Nat)]
theorem ru {b:Nat}(a:0<b){l:List Nat}(h:Dg b l)(j:Nat):l.getD j 0=am b l/b^j%b:=by
 rcases co j l.length with hj|hj
 ·have h1:=bX b (l:=l) (k:=j) oM
  have e:=e7 b (l:=l) (k:=j) hj;have c:=bV (Dg.take h j);rw[z1,z2 oM] at c
  have d:0<b^j:=A8 a;rw[h1,I5 _ _ d,y9 c,s4,e,Jw,tv (h.getD a j)]
 ·rw[cP hj,y9,Ju]
  exact ep (bV h) (Aa a hj)
theorem wF {b:Nat}{l:List Nat}{k P:Nat}(e:k<l.length)(d:0<b)(h:am b l<b^k*P):l.getD k 0<P:=by
 have h1:=bX b (l:=l) (k:=k) oM;have c:=e7 b (l:=l) (k:=k) e;have i:0<b^k:=A8 d;refine Jx (a:=b^k) ?_;have f:b^k*l.getD k 0<=b^k*am b (l.drop k):=Ao _ (by rw[c];omega)
 omega
theorem rv (k:Nat):(256:Nat)^k=18446744073709551616^(k/8)*2^(8*(k%8)):=by
 have:k=8*(k/8)+k%8:=by omega
 conv=>lhs;rw[this,Am,A4]
 rw[A4 2 8]
theorem o9 {l:List Nat}(a:Wd l)(k:Nat):l.getD (k/8) 0/2^(8*(k%8))%256=aD l/256^k%256:=by
 rw[ru kD a (k/8),rv,<-Bs]
 show _=am 18446744073709551616 l/_/_%256
 generalize am 18446744073709551616 l/18446744073709551616^(k/8)=y
 have:k%8=0\/k%8=1\/k%8=2\/k%8=3\/k%8=4\/k%8=5\/k%8=6\/k%8=7:=by omega
 rcases this with h|h|h|h|h|h|h|h<;>rw[h]<;>omega
theorem xI (n k:Nat):(wds n).getD (k/8) 0/2^(8*(k%8))%256=n/256^k%256:=by
 rw[o9 (Wd.wds n),aZ]
theorem xQ {b k:Nat}(a:b<256):b*2^(8*(k%8))<18446744073709551616:=by
 have:k%8=0\/k%8=1\/k%8=2\/k%8=3\/k%8=4\/k%8=5\/k%8=6\/k%8=7:=by omega
 rcases this with h|h|h|h|h|h|h|h<;>rw[h]<;>omega
theorem t8 {a b k:Nat}(ha:a<2^(8*(k%8)))(c:b<256):a+b*2^(8*(k%8))<18446744073709551616:=by
 have:k%8=0\/k%8=1\/k%8=2\/k%8=3\/k%8=4\/k%8=5\/k%8=6\/k%8=7:=by omega
 rcases this with h|h|h|h|h|h|h|h<;>rw[h] at ha ⊢ <;> omega
theorem tc {l:List Nat}{n k x:Nat}(i:k/8<l.length)(a:aD l=n%256^k)(f:x=n/256^k%256) :
  (l.getD (k/8) 0 ||| x*2^(8*(k%8))%18446744073709551616)=l.getD (k/8) 0+x*2^(8*(k%8))/\l.getD (k/8) 0+x*2^(8*(k%8))<18446744073709551616 /\
  aD (l.set (k/8) (l.getD (k/8) 0+x*2^(8*(k%8))))=n%256^(k+1):=by
 have h:x<256:=by rw[f];exact ua _ oM
 have c:aD l<256^k:=by rw[a];exact ua _ (A8 oM)
 have d:l.getD (k/8) 0<2^(8*(k%8)):=wF (b:=18446744073709551616) i kD (by rw[<-rv];exact c);refine ⟨?_,t8 d h,?_⟩
 ·rw[tv (xQ h)];exact fP _ d
 ·have e:=ct 18446744073709551616 (l:=l) (k:=k/8) (l.getD (k/8) 0+x*2^(8*(k%8))) i
  rw[xU,<-f,<-a]
  show am _ _=am _ l+_
  have j:256^k*x=18446744073709551616^(k/8)*(x*2^(8*(k%8))):=by rw[rv k];ac_rfl
  rw[zT] at e
  rw[j]
  omega
theorem CX (n:Nat):n<256^((nb n+7)/8):=by
 have h:=Dn n;have e:(256:Nat)^((nb n+7)/8)=2^(8*((nb n+7)/8)):=by rw[A4]
 rw[e];exact ep h (Aa oM oM)
theorem kL (n:Nat):nb n<=64*(wds n).length:=by
 apply jg
 have:=fh n
 rwa [show (18446744073709551616:Nat)=2^64 by rfl,<-A4] at this
theorem lJ (n:Nat):(wds n).length=(nb n+63)/64:=by
 rcases va n with h|h
 ·subst h;rfl
 ·have h1:=xp h
  have b:=kM h;have a:=n5 n ((wds n).length-1);have c:=iX.2 h
  generalize (wds n).getD ((wds n).length-1) 0=t at *
  have d:=(cl (Jh b)).2.2;have e:nb t<=64:=jg (k:=64) a
  omega
theorem mf {vs cs:List Value}{o:Nat}(h:(vs.drop o).take cs.length=cs)(i:Nat)(v:Value)(hv:cs[i]?=some v):vs[o+i]?=some v:=by
 have hi:i<cs.length:=(Jy.1 hv).1;rw[<-h,p1 hi,p2] at hv
 exact hv
section laws
variable {M:Ms}{P:Program}{n:Nat}{N R:Po}{X:Nat->Po}{ops:Array Oper}{k k0:Nat}{hr:Hp}{AL:List Al}{L:Array Bool}{Γ:ck}{w:World}{h:Hp}{w0:World}{h0:Hp}{B:List Bx}{Rs:List Rw}{F:List (Hp->Prop)}
theorem jE:∀ (cs vs:List Value) (o:Nat),(cj vs o cs).length=vs.length
 | [],_,_=>rfl
 | c::cs,vs,o=>by show (cj (vs.set o c) (o+1) cs).length=_;rw[jE,Jt]
theorem SlO.flat {α:Type}{sz:Nat}{f:α->List Value}{d:α}{A:Z9}:∀ {l:List α},(∀ x,(f x).length=sz)->SlO sz f d h A l->Seg h (aB A) (aO A) (l.flatMap f)
  | l,hf,s=>fun i v hv=>by
    have hi:i<(l.flatMap f).length:=(Jy.1 hv).1;rw[db hf] at hi
    rcases va sz with h0'|hp
    . subst h0';simp at hi
    . have b:i/sz<l.length:=(Jk hp).2 hi
      have hr:i%sz<sz:=ua _ hp;have e:=s.el (i/sz) b (i%sz) v;have c:=fb hf d l (i/sz) b;have a:i/sz*sz+i%sz=i:=by rw[zz];exact I9 i sz
      have:=e (by rw[<-c,p1 hr,p2,a];exact hv)
      rwa [rc,a] at this
theorem fW {b o:Nat}{news:List Value}(g:G w h)(a:Seg h b o news):∀ j u,news[j]?=some u->w.cell? ((⟨b,o,none⟩:Addr).add j)=some u:=by
 intro j u hu;have:=i6 g (a j u hu)
 unfold Addr.add
 split
 ·rename_i h0;subst h0;exact this
 ·exact this
theorem pe {α:Type}{f:α->List Value}{l m:List α}:l.flatMap f++m.flatMap f=(l++m).flatMap f:=by simp
theorem I2 {α:Type}(t j:Nat)(ty:TypeId)(sz c:Nat)(A:Z9)(l:List α)(f:α->List Value)(d:α)(J:Z9)(m:List α)(c2 C:Nat)(z:Value)(s:SS w0 h0 w h B Rs F)(so:SlO sz f d h J m)(i:0<m.length)
  (H:∀ e c' w' p,SS w0 h0 w' p B (Rs.set j ⟨ty,sz,e,c',(l++m).length,(l++m).flatMap f⟩) F->LG P n N R X ops (k+1) ((t,.slice e (l++m).length c')::Γ) w')
  (L:cL ops Γ k t n=true:=by kernel_rfl)(D:vC P (ev Γ) (av ops k)=some (.slice A l.length c,.slice J m.length c2,ty,z,sz,C):=by kernel_rfl)(hf:∀ x,(f x).length=sz:=by intro _;rfl)(h1:∀ x,(f x).all (·.oneCell')=true:=by intro _;kernel_rfl)(o:z.cells.size=sz:=by kernel_rfl)(a:0<sz:=by decide)
  (hr:Rs.getD j default=⟨ty,sz,A,c,l.length,l.flatMap f⟩:=by kernel_rfl)(O:decide (j<Rs.length)=true:=by kernel_rfl)(K:l.length+m.length<=1099511627776:=by omega)(S:(l.length+m.length)*C<=140737488355328:=by omega):LG P n N R X ops k Γ w:=by
 have b:=oT O;have Q:=so.ok i;rw[Q] at D
 refine Ii t j (m.flatMap f) s (fW s.g (so.flat hf)) (db hf m) (fun u hu=>?_) b (gg hr b) L D o a K S (fun e c' w' p I=>?_)
 ·obtain ⟨x,_,M⟩:=Jz.1 hu
  exact (hS.1 (h1 x)) u M
 ·have y:l.length+m.length=(l++m).length:=by simp
  rw[pe,y] at I
  rw[y];exact H e c' w' p I
theorem ce (j o:Nat)(cs:List Value)(s:SS w0 h0 w h B Rs F)(H:∀ w',Put (aA B j).b w w'->SS w0 h0 w' h (fO B j o cs) Rs F->LG P n N R X ops (k+1) Γ w')(c:cS ops Γ k=true:=by kernel_rfl)
  (a:(decide (j<B.length) && decide (o+cs.length<=(aA B j).vs.length))=true:=by kernel_rfl)(e:dq P (execOp (ev Γ) (av ops k))=some (.skip,mj (aA B j).b o cs):=by kernel_rfl):LG P n N R X ops k Γ w :=
 LG.put j o cs s.st s.g0 (kl c).1 (kl c).2 a e (fun w' p d=>H w' p (s.put0 (oT (hI _ _▸a).1) p d (l9 (oT (hI _ _▸a).1))))
theorem tX (i t:Nat)(A:Z9)(len cap sz:Nat)(x:Int)(j:Nat)(c:A=some ⟨aB A,aO A,none⟩)(H:AG M P n N R X ops k0 (L.setIfInBounds i true) ((t,.pointer (some ⟨aB A,aO A+j*sz,none⟩))::Γ) w)(b:cT n ops k0 L Γ i t=true:=by kernel_rfl)(d:BL P (ev Γ) (av ops i)=some (.slice A len cap,.int .i64 x,sz):=by kernel_rfl)(e:x=j:=by omega)(a:j<len:=by omega):AG M P n N R X ops k0 L Γ w :=
 T.val i t _ w (oP b).1 (oP b).2 (gk d c e a w) H
theorem SS.blkp {F1:List (Hp->Prop)}{wr:World}{x:Al}{b:Nat}(a:List Bx)(j:SS w0 h0 wr hr B Rs F1)(s:SS w0 h0 w h (a++B) Rs F)(k:Blk hr w h (x,b))(t:TypeId)(vs:List Value)(l:x.o=.cells vs.toArray t (0,0))(z:a.all (fun y=>y.t != t)=true):SS w0 h0 w h (⟨b,t,vs⟩::(a++B)) Rs F :=
 ⟨s.g0,St.new j.st s.st (fun y d=>by
  rcases List.mem_append.1 d with d|d
  ·right
   intro e;have h1:=s.st.own y (List.mem_append_left _ d);have p:w.heap[b]?=some x.o:=k.1
   unfold Own at h1
   rw[e,p,l] at h1
   injection h1 with h1
   injection h1 with _ h3
   have:=(hS.1 z) y d
   simp only[bne_iff_ne,ne_eq] at this
   exact this h3.symm
  ·exact .inl (aI (j.st.jk y d))) k t vs l,fun r i=>(s.ro r i).new b (fun c u e=>by
  have h1:=(j.ro r i).lt u;have p:hr.size<=b:=k.2.2
  omega),s.ap,s.mo,s.f⟩
theorem Gh {F1:List (Hp->Prop)}{wr:World}{x:Al}(a:List Bx)(j:SS w0 h0 wr hr B Rs F1)(s:SS w0 h0 w h (a++B) Rs F)(t:TypeId)(vs:List Value)(H:∀ w' c b,SS w0 h0 w' c (⟨b,t,vs⟩::(a++B)) Rs F->AG M P n N R X ops k0 (L.setIfInBounds x.i true) ((x.t,.pointer (some ⟨b,0,none⟩))::Γ) w')(f:(fl ops [x] L && decide (x.t<n))=true:=by kernel_rfl)(d:x.o=.cells vs.toArray t (0,0):=by kernel_rfl)(e:a.all (fun y=>y.t != t)=true:=by kernel_rfl):EG M P n N R X ops k0 hr [x] L Γ w h :=
 Rg.fin1 f (fun w' c b u k=>H w' c b (SS.blkp a j (s.step u) k t vs d e))
end laws
theorem SS.at_ {w:World}{h:Hp}{rb:Nat}{t:TypeId}{vs:List Value}(g:G w h)(o:Own w rb t vs)(j:h[rb]?=some junk):∃ w0 h0,SS w0 h0 w h [⟨rb,t,vs⟩] [] []:=by
 obtain ⟨w0,h0,c,b⟩:=St.at_ g o j;exact ⟨w0,h0,c,b,fun _ a=>(by cases a),.nil,fun _ a=>(by cases a),trivial⟩
theorem SlO.take {α:Type}{sz:Nat}{f:α->List Value}{d:α}{h:Hp}{A:Z9}{l:List α}(s:SlO sz f d h A l)(k:Nat):SlO sz f d h A (l.take k) :=
 ⟨fun a=>s.ok (by rw[z1] at a;omega),fun i hi=>by
  rw[z1] at hi
  have:=s.el i oM
  rwa [A6,p1 oM,<-A6]⟩
theorem SlO.drop {α:Type}{sz:Nat}{f:α->List Value}{d:α}{h:Hp}{A:Z9}{l:List α}(s:SlO sz f d h A l)(k c:Nat)(j:l.length<=c):SlO sz f d h (if c=k then A else A.map (·.add (k*sz))) (l.drop k):=by
 rcases co k l.length with hk|hk
 ·rw[if_neg oM]
  have b:=s.ok oM
  have a:(⟨aB A,aO A,none⟩:Addr).add (k*sz)=⟨aB A,aO A+k*sz,none⟩:=by
   unfold Addr.add
   split
   ·rename_i h0;rw[h0];rfl
   ·rfl
  have e:A.map (·.add (k*sz))=some ⟨aB A,aO A+k*sz,none⟩:=by rw[b];simp only[pc,aB,aO] at a ⊢;rw[<-a]
  refine ⟨fun _=>by rw[e];rfl,fun i hi=>?_⟩;rw[e]
  show Seg h (aB A) (aO A+k*sz+i*sz) _
  rw[Jb] at hi
  have:=s.el (k+i) oM;rw[I6,<-rc] at this
  rwa [A6,p2,<-A6]
 ·rw[JA hk];exact SlO.nil
section ss
variable {w0:World}{h0:Hp}{w:World}{h:Hp}{B:List Bx}{R:List Rw}{F:List (Hp->Prop)}
theorem SS.rowA (s:SS w0 h0 w h B R F)(j:Nat){ty:TypeId}{sz c m:Nat}{A:Z9}{cs:List Value}(d:0<m)(hr:R.getD j default=⟨ty,sz,A,c,m,cs⟩:=by kernel_rfl)(f:decide (j<R.length)=true:=by kernel_rfl):∃ b,A=some ⟨b,0,none⟩:=by
 have a:=oT f;have r:=s.ro _ (e5 a);rw[gg hr a] at r
 rcases r.own with ⟨_,⟨_,e⟩|⟨b,cap,cur,e,_⟩⟩
 ·simp only[] at e;omega
 ·simp only[Rw.v] at e
  injection e with e
  exact ⟨b,e⟩
theorem SS.rowO (s:SS w0 h0 w h B R F)(j:Nat){ty:TypeId}{sz c m b:Nat}{cs:List Value}(hr:R.getD j default=⟨ty,sz,some ⟨b,0,none⟩,c,m,cs⟩)(a:j<R.length):∃ vs:List Value,Own w b ty vs/\vs.take (m*sz)=cs/\cs.length=m*sz/\h0.size<=b/\m<=c/\c<=maxLen/\vs.length=c*sz:=by
 have r:=s.ro _ (e5 a);rw[gg hr a] at r
 rcases r.own with ⟨h1,⟨e,_⟩|⟨g,cap,cur,e,hb,hg,hn,hm,hs,ht⟩⟩
 ·simp[Rw.v] at e
 ·simp only[Rw.v] at e
  injection e with e1 e2 e3
  injection e1 with e1
  injection e1 with e1
  subst e1 e3;exact ⟨cur.toList,by simpa [Own] using hg,ht,h1,hb,hn,hm,by simpa using hs⟩
theorem Ah {vs cs:List Value}{k i:Nat}{v:Value}(h:vs.take k=cs)(hv:cs[i]?=some v):vs[i]?=some v:=by
 have hi:i<cs.length:=(Jy.1 hv).1;rw[<-h] at hi
 rw[z1] at hi
 rw[<-h,p1 oM] at hv
 exact hv
theorem k9:∀ (cs vs:List Value) (o k:Nat),o+cs.length<=k->(cj vs o cs).take k=cj (vs.take k) o cs
  | [],_,_,_,_=>rfl
  | c::cs,vs,o,k,h=>by
    show (cj (vs.set o c) (o+1) cs).take k=cj ((vs.take k).set o c) (o+1) cs
    rw[k9 cs _ _ _ (by simp only[List.length_cons] at h;omega),List.take_set]
theorem SS.rowput (s:SS w0 h0 w h B R F)(j:Nat){ty:TypeId}{sz c m b o:Nat}{cs l:List Value}{w':World}{vs:List Value}(hr:R.getD j default=⟨ty,sz,some ⟨b,0,none⟩,c,m,cs⟩)(y:j<R.length)(p:Put b w w')(Y:Own w' b ty (cj vs o l))(hv:vs.take (m*sz)=cs)(I:vs.length=c*sz)(hl:o+l.length<=cs.length):SS w0 h0 w' h B (R.set j ⟨ty,sz,some ⟨b,0,none⟩,c,m,cj cs o l⟩) F:=by
  have D:=gg hr y;have r:=s.ro _ (e5 y);rw[D] at r
  have J:=r.jk b rfl;obtain ⟨_,_,_,M,z,V,Q,_⟩:=s.rowO j hr y;have K:∀ x∈B,x.b≠b:=fun x u e=>r.ap b rfl (ga.2 ⟨x,u,e⟩)
  have O:=yy.1 s.ap;refine ⟨s.g0,⟨s.st.up.put p J z s.g0.size,?_,s.st.jk,s.st.lo,s.st.nd⟩,?_,?_,s.mo,s.f⟩
  . intro x u
    show w'.heap[x.b]?=_
    rw[p.blk _ (K x u)];exact s.st.own x u
  . intro x u
    obtain ⟨i,hi,H⟩:=pt.1 u;have a:i<R.length:=by simpa using hi
    by_cases e:j=i
    . subst e
      simp only[yY] at H
      rw[<-H];refine ⟨⟨?_,.inr ⟨b,c,(cj vs o l).toArray,rfl,z,Y,V,Q,by simp[jE,I],?_⟩⟩,r.jk,r.ap⟩
      . show (cj cs o l).length=m*sz;rw[jE];exact M
      . show (cj vs o l).take (m*sz)=cj cs o l
        rw[k9 _ _ _ _ oM,hv]
    . rw[yz e] at H
      rw[<-H]
      have C:Apart R[i].v R[j].v:=by
        rcases Nat.lt_or_gt_of_ne e with hl'|hl'
        . exact (O j i y a hl').symm
        . exact O i j a y hl'
      rw[D] at C
      have L:=s.ro _ (e5 a);exact ⟨eZ L.own (fun d Z=>p.blk d (fun W=>C d Z (by rw[W];rfl))),L.jk,L.ap⟩
  . refine yy.2 (fun i k hi X S=>?_)
    have a:i<R.length:=by simpa using hi
    have U:k<R.length:=by simpa using X
    have:=O i k a U S
    by_cases e:j=i
    . subst e
      rw[yY,yz oM];rw[D] at this
      exact this
    . by_cases e2:j=k
      . subst e2
        rw[yY,yz oM];rw[D] at this
        exact this
      . rw[yz e,yz e2]
        exact this
theorem SS.rown (s:SS w0 h0 w h B R F)(R':List Rw)(e:R=R'):SS w0 h0 w h B R' F:=e▸s
end ss
theorem lM {α:Type}{f:α->List Value}{sz:Nat}(hf:∀ x,(f x).length=sz)(d:α){o:Nat}{cs:List Value}:∀ (l:List α) (k:Nat) (x:α),k<l.length->o+cs.length<=sz->cj (f (l.getD k d)) o cs=f x->cj (l.flatMap f) (k*sz+o) cs=(l.set k x).flatMap f
  | [],k,x,h,_,_=>by simp at h
  | y::l,0,x,h,ho,e=>by
    simp only[rh,sA,s4,JB,List.getD_cons_zero] at e ⊢
    rw[<-e];exact putAt_left _ _ _ _ (by rw[hf];exact ho)
  | y::l,k+1,x,h,ho,e=>by
    simp only[rh,List.set_cons_succ,sc] at e ⊢
    rw[Nat.succ_mul,show k*sz+sz+o=(f y).length+(k*sz+o) by rw[hf];omega,gj,lM hf d l k x (by simpa using h) ho e]
where
  putAt_left:∀ (cs a b:List Value) (o:Nat),o+cs.length<=a.length->cj (a++b) o cs=cj a o cs++b
    | [],_,_,_,_=>rfl
    | c::cs,a,b,o,h=>by
      show cj ((a++b).set o c) (o+1) cs=cj (a.set o c) (o+1) cs++b
      simp only[List.length_cons] at h
      rw[List.set_append_left _ _ oM,putAt_left cs _ b _ (by rw[Jt];omega)]
section laws
variable {M:Ms}{P:Program}{n:Nat}{N R:Po}{X:Nat->Po}{ops:Array Oper}{k k0:Nat}{hr:Hp}{AL:List Al}{L:Array Bool}{Γ:ck}{w:World}{h:Hp}{w0:World}{h0:Hp}{B:List Bx}{Rs:List Rw}{F:List (Hp->Prop)}
theorem SS.rowrun {α:Type}{w':World}{d:Sem α}{r:α}(s:SS w0 h0 w h B Rs F)(j:Nat){ty:TypeId}{sz c m b o:Nat}{cs e:List Value}(f:Rs.getD j default=⟨ty,sz,some ⟨b,0,none⟩,c,m,cs⟩)(p:j<Rs.length)(l:(cs.drop o).take e.length=e)(x:Ext w w')(y:bP P d e=some (r,kI b o e.length)):d.run P w'=.ok r w':=by
 obtain ⟨vs,u,hv,_⟩:=s.rowO j f p;exact bH _ _ _ _ y (fun i a v ha k=>by rw[d8 _ _ _ _ _ ha,(u.ext x).cell];exact Ah hv (mf l i v k))
theorem F3 (t j:Nat)(v:Value)(a:List Value){ty:TypeId}{sz c m b o:Nat}{cs:List Value}(s:SS w0 h0 w h B Rs F)(e:(cs.drop o).take a.length=a)(H:LG P n N R X ops (k+1) ((t,v)::Γ) w)(d:Rs.getD j default=⟨ty,sz,some ⟨b,0,none⟩,c,m,cs⟩:=by kernel_rfl)(i:decide (j<Rs.length)=true:=by kernel_rfl)(f:cL ops Γ k t n=true:=by kernel_rfl)(l:bP P (execOp (ev Γ) (av ops k)) a=some (.value v,kI b o a.length):=by kernel_rfl):LG P n N R X ops k Γ w :=
 LG.val t v w (bS f).1 (bS f).2 (s.rowrun j d (oT i) e (Ext.refl _) l) H
theorem IP (j o:Nat)(e:List Value){ty:TypeId}{sz c m b:Nat}{cs:List Value}(s:SS w0 h0 w h B Rs F)(x:o+e.length<=cs.length)(H:∀ w',SS w0 h0 w' h B (Rs.set j ⟨ty,sz,some ⟨b,0,none⟩,c,m,cj cs o e⟩) F->LG P n N R X ops (k+1) Γ w')(d:Rs.getD j default=⟨ty,sz,some ⟨b,0,none⟩,c,m,cs⟩:=by kernel_rfl)(y:decide (j<Rs.length)=true:=by kernel_rfl)(u:cS ops Γ k=true:=by kernel_rfl)
  (I:dq P (execOp (ev Γ) (av ops k))=some (.skip,mj b o e):=by kernel_rfl):LG P n N R X ops k Γ w:=by
 have f:=oT y;obtain ⟨vs,C,hv,z,_,J,_,l⟩:=s.rowO j d f
 have p:o+e.length<=vs.length:=by
  have:=congrArg JC hv;rw[z1] at this
  omega
 obtain ⟨w',a,D,i⟩:=fa _ _ o e vs w I C p;exact LG.store w' (kl u).1 (kl u).2 a (H w' (s.rowput j d f D i hv l x))
theorem HX (i t j:Nat)(v:Value)(a:List Value){ty:TypeId}{sz c m b o:Nat}{cs:List Value}(s:SS w0 h0 w h B Rs F)(e:(cs.drop o).take a.length=a)(H:EG ⟨[],none⟩ P n N R X ops k0 hr AL (L.setIfInBounds i true) ((t,v)::Γ) w h)(d:Rs.getD j default=⟨ty,sz,some ⟨b,0,none⟩,c,m,cs⟩:=by kernel_rfl)(l:decide (j<Rs.length)=true:=by kernel_rfl)(f:AB n ops k0 AL L Γ i t=true:=by kernel_rfl)(p:bP P (execOp (ev Γ) (av ops i)) a=some (.value v,kI b o a.length):=by kernel_rfl):EG ⟨[],none⟩ P n N R X ops k0 hr AL L Γ w h :=
 Rg.load i t v (hJ f).1 (hJ f).2 (fun _ k=>s.rowrun j d (oT l) e k.ext p) H
end laws
theorem GV (x y:Int):(if y>x then y else x)=max x y:=by omega
theorem eJ (x y:Int):(if y<x then y else x)=min x y:=by omega
section z
variable {bs:List Nat}{P:Program}{n:Nat}{N R:Po}{X:Nat->Po}{ops:Array Oper}{k0:Nat}{hr:Hp}{AL:List Al}{L:Array Bool}{Γ:ck}{w wr:World}{h:Hp}{w0:World}{h0:Hp}{B:List Bx}{Rs:List Rw}{F F1:List (Hp->Prop)}
abbrev Mz (hr:Hp)(bs:List Nat):Ms:=⟨[],some (hr.size,bs)⟩
theorem uH {id:Nat}{d:Bool}(k0:Nat)(AL:List Al)(bs:List Nat)(c:P.follows .mixedOrders=true)(s:SS w0 h0 w h B Rs F)(b:∀ x∈AL,AlOk P ops k0 x)(H:EG (Mz h bs) P n N R X ops k0 h AL (ow ops.size false) Γ w h)(a:kG ops=true:=by kernel_rfl):CG P n N R X (.region id ops d) Γ w :=
 CG.region (Mz h bs) k0 AL c a s.g b (fun _ e=>by cases e) H
theorem FU (e:SS w0 h0 wr hr B Rs F1)(s:SS w0 h0 w h B Rs F){w':World}(c:∀ b,b<hr.size->b ∉ bs->b ∉ ([]:List Nat)->w'.heap[b]?=w.heap[b]?):∀ x∈B,x.b ∉ bs->Own w' x.b x.t x.vs:=fun x a d =>
 (c x.b (aI (e.st.jk x a)) d List.not_mem_nil).trans (s.st.own x a)
theorem uE (i t:Nat)(ps:List (Nat × Nat × Nat))(v:Value)(f:SS w0 h0 wr hr B Rs F1)(s:SS w0 h0 w h B Rs F)(H:EG (Mz hr bs) P n N R X ops k0 hr AL (L.setIfInBounds i true) ((t,v)::Γ) w h)(hM:∀ p∈ps,(aA B p.1).b ∉ bs:=by intro _ _;exact List.not_mem_nil)(a:cE n ops k0 AL L Γ i t=true:=by kernel_rfl)(c:bR B ps=true:=by kernel_rfl)(d:bP P (execOp (ev Γ) (av ops i)) (cg B ps)=some (.value v,bO B ps):=by kernel_rfl):EG (Mz hr bs) P n N R X ops k0 hr AL L Γ w h :=
 Rg.loadZ i t v rfl (jR a).1 (jR a).2 (fun w' e=>bH _ _ _ _ d (eN hM (FU f s e) ps (fun _ h=>h) c)) H
theorem HT {x y:Al}(z:SS w0 h0 wr hr B Rs F)(s:SS w0 h0 w h B Rs F)(t:TypeId)(vs:List Value)(I:TypeId)(j:List Value)(H:∀ w' p b c,hr.size<=b->hr.size<=c->SS w0 h0 w' p (⟨b,t,vs⟩::⟨c,I,j⟩::B) Rs F->AG (Mz hr bs) P n N R X ops k0 ((L.setIfInBounds y.i true).setIfInBounds x.i true) ((x.t,.pointer (some ⟨b,0,none⟩))::(y.t,.pointer (some ⟨c,0,none⟩))::Γ) w')(J:(fl ops [x,y] L && decide (x.t<n) && decide (y.t<n) && (x.t != y.t) && (x.i != y.i))=true:=by kernel_rfl)(K:x.o=.cells vs.toArray t (0,0):=by kernel_rfl)(D:y.o=.cells j.toArray I (0,0):=by kernel_rfl):EG (Mz hr bs) P n N R X ops k0 hr [x,y] L Γ w h :=
 Rg.fin2 J (fun w' p b c u k k2 l=>H w' p b c k.2.2 k2.2.2 ⟨s.g0,St.new2 z.st (s.st.step u) k k2 l t vs K I j D,fun r a=>(((s.step u).ro r a).new c (fun d C e=>by
  have h1:=(z.ro r a).lt C;have M:hr.size<=c:=k2.2.2
  omega)).new b (fun d C e=>by
  have h1:=(z.ro r a).lt C;have M:hr.size<=b:=k.2.2
  omega),s.ap,s.mo,(s.step u).f⟩)
theorem sb {b:Nat}(c:hr.size<=b):∀ K a,(Mz hr bs).z=some (K,a)->K<=b\/b∈a:=fun K a e=>by
 injection e with e
 injection e with e1 e2
 subst e1;exact .inl c
theorem cO {b:Nat}(c:b∈bs):∀ K a,(Mz hr bs).z=some (K,a)->K<=b\/b∈a:=fun K a e=>by
 injection e with e
 injection e with e1 e2
 subst e2;exact .inr c
end z
theorem gM {α:Type}{f:α->List Value}{sz:Nat}(hf:∀ x,(f x).length=sz)(d:α)(l:List α)(k:Nat)(a:k<l.length):((l.flatMap f).drop (0+k*sz)).take (f (l.getD k d)).length=f (l.getD k d):=by
 rw[s4,hf];exact fb hf d l k a
section row
variable {P:Program}{n:Nat}{N R:Po}{X:Nat->Po}{ops:Array Oper}{k:Nat}{Γ:ck}{w:World}{h:Hp}{w0:World}{h0:Hp}{B:List Bx}{Rs:List Rw}{F:List (Hp->Prop)}
theorem Hq {α:Type}(j e a:Nat)(i:List Value)(l:List α)(f:α->List Value)(sz:Nat)(d x:α){ty:TypeId}{c b:Nat}(s:SS w0 h0 w h B Rs F)(u:e<l.length)(H:∀ w',SS w0 h0 w' h B (Rs.set j ⟨ty,sz,some ⟨b,0,none⟩,c,l.length,(l.set e x).flatMap f⟩) F->LG P n N R X ops (k+1) Γ w')
  (C:cj (f (l.getD e d)) a i=f x:=by rfl)(hf:∀ x,(f x).length=sz:=by intro _;rfl)(I:Nat.ble (a+i.length) sz=true:=by kernel_rfl)(p:Rs.getD j default=⟨ty,sz,some ⟨b,0,none⟩,c,l.length,l.flatMap f⟩:=by kernel_rfl)(D:decide (j<Rs.length)=true:=by kernel_rfl)(z:cS ops Γ k=true:=by kernel_rfl)
  (J:dq P (execOp (ev Γ) (av ops k))=some (.skip,mj b (0+e*sz+a) i):=by kernel_rfl):LG P n N R X ops k Γ w:=by
 have o:=Nat.le_of_ble_eq_true I;refine IP j (0+e*sz+a) i s ?_ (fun w' y=>H w' ?_) p D z J
 ·rw[db hf,s4]
  have:(e+1)*sz<=l.length*sz:=s5 _ u;rw[I6,I8] at this
  omega
 ·rw[s4,lM hf d l e x u o C] at y
  exact y
end row
theorem oQ {P:Program}(w:World)(t ty e:TypeId)(i:TypeInfo)(z:Value)(h:P.underlying t=some (.slice e))(hi:P.info? e=some i)(hz:i.zero=some z)(f a:Addr)(m c:Nat)(news:List Value)(d:news.length=m*i.size)(b:∀ j u,news[j]?=some u->w.cell? (a.add j)=some u)(o:0<m)(l:m<=1099511627776)(k:m*i.bytes<=140737488355328) :
  (Builtin.append_ #[t,t] ty #[.slice (some f) 0 0,.slice (some a) m c]).run P w=(Builtin.append_ #[t,t] ty #[.slice none 0 0,.slice (some a) m c]).run P w:=by
 rw[run_append_grow (P:=P) w t ty e i z h hi hz f 0 0 [] (by simp) (by simp) a m c news d b oM oM (growslice_fits oM (by simpa using k)),
  run_append_nil (P:=P) w t ty e i z h hi hz a m c news d b oM oM oM]
 simp
section app
variable {M:Ms}{P:Program}{n:Nat}{N R:Po}{X:Nat->Po}{ops:Array Oper}{k k0:Nat}{hr:Hp}{AL:List Al}{L:Array Bool}{Γ:ck}{w:World}{h:Hp}{w0:World}{h0:Hp}{B:List Bx}{Rs:List Rw}{F:List (Hp->Prop)}
theorem xz {o:Oper}{x y:Operand}{t e:TypeId}{z:Value}{sz l m2 c:Nat}{news:List Value}{K a:Addr}(O:o.op=.call { callee:=.builtin .append,args:=#[x,y],argTypes:=#[t,t] })
    (M:ev Γ x=.slice (some K) 0 0)(V:ev Γ y=.slice (some a) m2 c)(hu:P.underlying t=some (.slice e))(hi:(P.info? e).map (fun i=>(i.zero,i.size,i.bytes))=some (some z,sz,l))(C:z.cells.size=sz)(k:0<sz)
    (s:St w0 h0 w h B)(D:news.length=m2*sz)(d:∀ j u,news[j]?=some u->w.cell? (a.add j)=some u)(h1:∀ u∈news,u.oneCell'=true)(p:0<m2)
    (L:m2<=1099511627776)(J:m2*l<=140737488355328) :
    ∃ v' w',(execOp (ev Γ) o).run P w=.ok (.value v') w'/\w'.ownsRow h0.size e sz v' (0+m2) ([]++news)/\w.grownBy w' (Value.slice none 0 0).ownBlock/\(v'.ownBlock=(Value.slice none 0 0).ownBlock\/v'.ownBlock=some w.heap.size):=by
  cases b:P.info? e with
  | none=>rw[b] at hi;cases hi
  | some inf =>
    rw[b] at hi
    simp only[pc,Option.some.injEq,Prod.mk.injEq] at hi
    obtain ⟨I,H,F⟩:=hi;obtain ⟨v',w',f,Q,U,W,S⟩:=run_append_own_at (P:=P) w h0.size t o.type e inf z sz l hu b I H F C k (.slice none 0 0) 0 [] (World.ownsRow_nil _ _ _ _) a m2 c news D d h1 (by unfold maxLen;omega) (by rw[s4];exact J) (by rw[s.g.size];exact s.sz);refine ⟨v',w',?_,Q,U,S⟩;rw[<-oQ (P:=P) w t o.type e inf z hu b I K a m2 c news (by rw[H];exact D) d p L (by rw[F];exact J)] at f
    unfold execOp
    simp only[O,resolve,invoke,builtin,Sem.run_bind,Sem.run_pure,Result.andThen_ok,JD,un,JE,M,V,f]
theorem SS.appE (s:SS w0 h0 w h B Rs F){o:Oper}{ty:TypeId}{sz I c2 S:Nat}{z:Value}{α:Type}{f:α->List Value}{d:α}{L:Z9}{m:List α}(J:vC P (ev Γ) o=some (.slice (some ⟨S,0,none⟩) 0 0,.slice L m.length c2,ty,z,sz,I))(so:SlO sz f d h L m)(i:0<m.length)(h1:∀ x∈m,(f x).all (·.oneCell')=true)(hf:∀ x,(f x).length=sz)(D:z.cells.size=sz)(e:0<sz)(O:m.length<=1099511627776)(X:m.length*I<=140737488355328) :
  ∃ l c' w' p,(execOp (ev Γ) o).run P w=.ok (.value (.slice l m.length c')) w'/\Up w h w' p/\SS w0 h0 w' p B (⟨ty,sz,l,c',m.length,m.flatMap f⟩::Rs) F:=by
 rw[so.ok i] at J
 obtain ⟨Z,y,V,U,C,Y,hu,hi⟩:=nh J
 obtain ⟨v',w',b,M,a,k⟩:=xz (P:=P) U C Y hu hi D e s.st (db hf m) (fW s.g (so.flat hf)) (fun u hu=>by
  obtain ⟨x,H,C⟩:=Jz.1 hu;exact (hS.1 (h1 x H)) u C) i O X
 obtain ⟨p,l,c',rfl,W,K⟩:=(s.nil ty sz).grown (j:=0) (by simp) (w':=w') (v':=v') (m2:=m.length) (news:=m.flatMap f) M a k;refine ⟨l,c',w',p,?_,⟨⟨a.os,a.tape,a.output,a.size,fun c Q=>a.block c Q (by simp[Value.ownBlock])⟩,W,K.g⟩,?_⟩
 ·rw[b];simp
 ·simpa using K
theorem Iy {α:Type}(t:Nat)(ty:TypeId)(sz:Nat)(f:α->List Value)(d:α)(y:Nat)(p:Z9)(m:List α)(c2 o:Nat)(z:Value)(s:SS w0 h0 w h B Rs F)(so:SlO sz f d h p m)(e:0<m.length)(h1:∀ x∈m,(f x).all (·.oneCell')=true)
  (H:∀ c c' w' j,SS w0 h0 w' j B (⟨ty,sz,c,c',m.length,m.flatMap f⟩::Rs) F->LG P n N R X ops (k+1) ((t,.slice c m.length c')::Γ) w')
  (l:cL ops Γ k t n=true:=by kernel_rfl)(C:vC P (ev Γ) (av ops k)=some (.slice (some ⟨y,0,none⟩) 0 0,.slice p m.length c2,ty,z,sz,o):=by kernel_rfl)(hf:∀ x,(f x).length=sz:=by intro _;rfl)(i:z.cells.size=sz:=by kernel_rfl)(b:0<sz:=by decide)(u:m.length<=1099511627776:=by omega)(I:m.length*o<=140737488355328:=by omega):LG P n N R X ops k Γ w:=by
 obtain ⟨c,c',w',j,a,_,D⟩:=s.appE (P:=P) C so e h1 hf i b u I;exact LG.val t _ w' (bS l).1 (bS l).2 a (H c c' w' j D)
end app
def aW (x:Nat):List Value:=[.int .u32 (x:Nat)]
abbrev S3 (A:Z9)(l:List Nat):Hp->Prop:=fun h_=>SlO 1 aW 0 h_ A l
theorem mY:∀ f n:Nat,pz f n=pA 4294967296 f n
  | 0,_=>rfl
  | f+1,n=>by
    unfold pz pA
    split
    . rfl
    . rw[mY f]
theorem sd (n:Nat):lim n=f5 4294967296 n:=mY n n
def Ld (l:List Nat):Prop:=Dg 4294967296 l
theorem Ld.lim (n:Nat):Ld (lim n):=fun x a=>qx n x a
theorem Ld.get {l:List Nat}(h:Ld l)(k:Nat):l.getD k 0<4294967296:=Dg.getD h kD k
theorem Ld.set {l:List Nat}(h:Ld l)(k:Nat){x:Nat}(a:x<4294967296):Ld (l.set k x):=Dg.set h k a
theorem Ld.rep (n:Nat):Ld (ta n 0):=Dg.rep kD
theorem cu (n:Nat):am 4294967296 (lim n)=n:=by rw[<-jF];exact gJ n
theorem rB {l:List Nat}(h:Ld l){n:Nat}(e:am 4294967296 l=n):lim n=l.take (tl l l.length):=by
 rw[<-e,<-jF];exact wG h
theorem lm {l:List Nat}(h:Ld l){n:Nat}(e:am 4294967296 l=n):(lim n).length=tl l l.length:=by
 rw[rB h e,z1];have:=fY l l.length;omega
theorem cI (n:Nat):n<4294967296^(lim n).length:=by rw[sd];exact iN kD n
theorem de {a b:Nat}(h:a<=b):(lim a).length<=(lim b).length:=du (y6 h (cI b))
theorem j6 {a b k:Nat}(h:a<=b)(c:(lim b).length<=k):(lim a).length<=k:=ed (de h) c
theorem kb {a b k:Nat}(ha:(lim a).length<=k)(c:(lim b).length<=k):(lim (a+b)).length<=k+1:=by
 refine du ?_;have h1:=cI a;have f:=cI b;have e:4294967296^(lim a).length<=4294967296^k:=Aa kD ha;have d:4294967296^(lim b).length<=4294967296^k:=Aa kD c;rw[zy]
 omega
theorem pi {a b:Nat}:(lim (a*b)).length<=(lim a).length+(lim b).length:=by
 refine du ?_;rw[Am];exact Nat.mul_lt_mul'' (cI a) (cI b)
theorem sa (n:Nat):(lim n).length<=2*(wds n).length:=by
 refine du ?_;have:=fh n
 rwa [show (18446744073709551616:Nat)=4294967296^2 by rfl,<-A4] at this
theorem fB {a b:Nat}(h:(lim a).length<(lim b).length):a<b:=by
 rcases co a b with hl|hl
 ·exact hl
 ·have:=de hl;omega
theorem AP {a b:Nat}(h:lim a=lim b):a=b:=by rw[<-gJ a,<-gJ b,h]
theorem gc {a b k:Nat}(d:(lim a).length=(lim b).length)(j:k<(lim a).length)(h:(lim a).drop (k+1)=(lim b).drop (k+1))(c:(lim a).getD k 0<(lim b).getD k 0):a<b:=by
 have e:=bX 4294967296 (l:=lim a) (k:=k+1) oM;have f:=bX 4294967296 (l:=lim b) (k:=k+1) oM;rw[cu] at e f
 rw[h] at e
 have u:=aJ 4294967296 (l:=lim a) (k:=k) j;have o:=aJ 4294967296 (l:=lim b) (k:=k) oM;have i:=bV (Dg.take (Ld.lim a) k);rw[z1,z2 oM] at i
 have p:4294967296^k*(lim a).getD k 0+4294967296^k<=4294967296^k*(lim b).getD k 0:=by
  rw[<-Jf];exact Ao _ c
 omega
def RN (h:Hp)(v:Value)(n:Nat):Prop:=HF 1 aW 0 h v (lim n)
def RI (h:Hp)(v:Value)(z:Int):Prop:=∃ A c,v=.agg #[.bool (au z),.slice A (lim (ab z)).length c]/\(lim (ab z)).length<=c/\SlO 1 aW 0 h A (lim (ab z))
def RP (h:Hp)(v:Value)(z:Int)(n:Nat):Prop:=∃ A c B d,v=.agg #[.bool (au z),.slice A (lim (ab z)).length c,.slice B (lim n).length d]/\(lim (ab z)).length<=c/\(lim n).length<=d/\SlO 1 aW 0 h A (lim (ab z))/\SlO 1 aW 0 h B (lim n)
def RQ (h:Hp)(v:Value)(q:Rat):Prop:=RP h v q.num q.den
theorem RP.gw {h a:Hp}{v:Value}{z:Int}{n:Nat}(r:RP h v z n)(u:Gw h a):RP a v z n:=by
 obtain ⟨A,c,B,d,h1,f,e,b,i⟩:=r;exact ⟨A,c,B,d,h1,f,e,b.gw u,i.gw u⟩
theorem RN.trim {h:Hp}{A:Z9}{l:List Nat}{n m cap:Nat}(a:Ld l)(e:am 4294967296 l=n)(c:l.length=m)(d:m<=cap)(s:SlO 1 aW 0 h A l):RN h (.slice A (tl l m) cap) n:=by
 subst c;have b:=lm a e;have:=fY l l.length;refine ⟨A,cap,by rw[b],by omega,?_⟩;rw[rB a e];exact s.take _
theorem rE {h:Hp}{p b:Bool}{n cap:Nat}{A:Z9}(d:b=(p && decide (0<n)))(c:(lim n).length<=cap)(a:SlO 1 aW 0 h A (lim n)):RI h (.agg #[.bool b,.slice A (lim n).length cap]) (bD p n):=by
 subst d;refine ⟨A,cap,?_,?_,?_⟩
 ·rw[js,cd]
 ·rw[cd];exact c
 ·rw[cd];exact a
theorem AJ {l:List Nat}{m:Nat}(h:0<m)(h0:l.getD (m-1) 0=0):tl l m=tl l (m-1):=by
 obtain ⟨k,rfl⟩:∃ k,m=k+1:=⟨m-1,by omega⟩;rw[kB,if_pos (by simpa using h0)];rfl
theorem wW {b:Nat}{z:List Nat}{i c c' s t X:Nat}(hi:i<z.length)(h0:z.getD i 0=0)(a:am b z+b^i*c=X)(e:s+b*c'=c+t):am b (z.set i s)+b^(i+1)*c'=X+b^i*t:=by
 have h1:=ct b s hi;rw[h0,z6,ri] at h1
 have d:=congrArg (b^i * ·) e
 simp only[zT] at d
 rw[zy,zY,h1]
 omega
theorem sU {b:Nat}{z:List Nat}{c v:Nat}(a:am b z+b^z.length*c=v)(h:v<b^z.length):am b z=v:=by
 rcases va c with hc|hc
 ·subst hc;rw[z6,ri] at a;exact a
 ·have:b^z.length*1<=b^z.length*c:=Ao _ hc
  omega
theorem pS {l:List Nat}{k x:Nat}(a:k<l.length)(h:∀ i,k<=i->l.getD i 0=0):∀ i,k+1<=i->(l.set k x).getD i 0=0:=fun i hi=>by rw[bC a,if_neg oM];exact h i oM
theorem xe {b:Nat}{z:List Nat}{x y c:Nat}(d:Dg b z)(a:am b z+y=x+b^z.length*c)(e:y<=x):am b z=x-y:=by
 have h1:=bV d
 rcases va c with hc|hc
 ·subst hc;rw[z6,ri] at a;omega
 ·have:b^z.length*1<=b^z.length*c:=Ao _ hc
  omega
theorem AO {b:Nat}{z y x:List Nat}{i c c' s:Nat}(hi:i<z.length)(h0:z.getD i 0=0)(a:am b z+am b (y.take i)=am b (x.take i)+b^i*c)(e:s+y.getD i 0+c=x.getD i 0+b*c') :
  am b (z.set i s)+am b (y.take (i+1))=am b (x.take (i+1))+b^(i+1)*c':=by
 have h1:=ct b s hi;rw[h0,z6,ri] at h1
 have d:=congrArg (b^i * ·) e
 simp only[zT] at d
 rw[aR,aR,zy,zY,h1]
 omega
theorem xF {x y c t:Nat}(e:x<4294967296)(d:y<4294967296)(b:c<=1)(a:t=((x+(18446744073709551616-y))%18446744073709551616+(18446744073709551616-c))%18446744073709551616):t%4294967296+y+c=x+4294967296*(t/9223372036854775808)/\t/9223372036854775808<=1:=by
 subst a
 omega
theorem qR {r x:Nat}(a:x<4294967296):r*4294967296 ||| x=r*4294967296+x:=by
 have:=Je (i:=32) (b:=x) oM r;rw[zz];exact this.symm
theorem tS {r x d:Nat}(a:0<d)(hr:r<d)(c:x<4294967296)(b:d<4294967296) :
  (r*4294967296+x)/d%4294967296=(r*4294967296+x)/d/\r*4294967296+x=d*((r*4294967296+x)/d)+(r*4294967296+x)%d/\(r*4294967296+x)%d<d:=by
 refine ⟨tv ?_,(I9 _ _).symm,ua _ a⟩;rw[Jk a];have h1:(r+1)*4294967296<=d*4294967296:=s5 _ hr;rw[zz]
 omega
theorem vm {b:Nat}{l z:List Nat}{m d r c q X:Nat}(o:0<m)(i:m-1<z.length)(h0:z.getD (m-1) 0=0)(a:X=d*am b z+(b^m*r+am b (l.take m)))(e:r*b+l.getD (m-1) 0=d*q+c) :
  X=d*am b (z.set (m-1) q)+(b^(m-1)*c+am b (l.take (m-1))):=by
 obtain ⟨k,rfl⟩:∃ k,m=k+1:=⟨m-1,by omega⟩;rw[Jl] at *
 have h1:=ct b q i;rw[h0,z6,ri] at h1
 have f:=congrArg (b^k * ·) e
 simp only[zT] at f
 rw[a,h1,aR,zy,zT];have h:b^k*(r*b)=b^k*b*r:=by rw[zz r b,zY]
 have j:b^k*(d*q)=d*(b^k*q):=by ac_rfl
 rw[h,j] at f
 omega
theorem xi (k:Nat):(2:Nat)^k=4294967296^(k/32)*2^(k%32):=by
 have:k=32*(k/32)+k%32:=by omega
 conv=>lhs;rw[this,Am,A4]
theorem GW {x p c:Nat}(d:p<32)(e:x<4294967296)(a:c<2^p) :
  (c ||| x*2^p%18446744073709551616)=c+x*2^p/\c+x*2^p<18446744073709551616/\(c+x*2^p)/4294967296<2^p:=by
 have h0:2^p<=2^31:=Aa kD oM;have h1:x*2^p<=4294967295*2^p:=s5 _ oM;have b:x*2^p<18446744073709551616:=by omega
 refine ⟨?_,by omega,?_⟩
 ·rw[tv b];exact fP p a
 ·rw[Jk kD];omega
theorem vf {b:Nat}{l:List Nat}{i c P Q s x:Nat}{a:List Nat}(o:0<b)(d:am b l+b^l.length*c=b^Q*(P*am b (a.take i)))(h:l.length=Q+i)(e:s=c+x*P)(f:x=a.getD i 0) :
  am b (l++[s%b])+b^(l++[s%b]).length*(s/b)=b^Q*(P*am b (a.take (i+1))):=by
 have j:b^l.length*s=b^l.length*(s%b)+b^l.length*(b*(s/b)):=by rw[<-zT,Js]
 have k:b^l.length*s=b^l.length*c+b^Q*(P*(b^i*x)):=by
  rw[e,zT,h,Am]
  congr 1
  ac_rfl
 rw[cC,sy,aR,<-f,zT P,zT (b^Q),<-d]
 show _+b^l.length*(s%b+b*0)+b^(l.length+1)*_=_
 rw[z6,ri,zy,zY]
 omega
theorem Ld.app {l:List Nat}(h:Ld l){x:Nat}(a:x<4294967296):Ld (l++[x]):=Dg.append h (Dg.one a)
theorem ui {a n q m p:Nat}(h:a<4294967296^n)(c:p<=32)(b:m=q+(n+1)):a*(4294967296^q*2^p)<4294967296^m:=by
 have h1:(2:Nat)^p<=4294967296:=ed (Aa kD c) (eb (2^32));subst b;rw[Am,zy];have d:a*2^p<4294967296^n*4294967296:=ep (Jo h (z8 p)) (Ao _ h1);have e:a*(4294967296^q*2^p)=4294967296^q*(a*2^p):=by ac_rfl
 rw[e];exact F2 d (A8 kD)
theorem GY {x y p:Nat}(k:p<32)(o:x<4294967296)(u:y<4294967296) :
  (x ||| y*4294967296%18446744073709551616)=x+y*4294967296/\x+y*4294967296<18446744073709551616 /\
  2^p*((x+y*4294967296)/2^p%4294967296)+x%2^p=x+4294967296*(y%2^p):=by
 have h0:2^p*2^(32-p)=4294967296:=by rw[<-Am,show p+(32-p)=32 by omega]
 have b:=z8 p;refine ⟨?_,by omega,?_⟩
 ·rw[tv oM]
  exact fP 32 oM
 ·-- y=2^p*y1+y0
  have h:=I9 y (2^p);have f:=I9 x (2^p)
  generalize y/2^p=y1 at *
  generalize hy0:y%2^p=y0 at *
  generalize hxq:x/2^p=x1 at *
  generalize hx0:x%2^p=x0 at *
  have c:x0<2^p:=by rw[<-hx0];exact ua _ b
  have d:y0<2^p:=by rw[<-hy0];exact ua _ b
  have i:x1<2^(32-p):=by
   refine Jx (a:=2^p) ?_
   omega
  have e:x+y*4294967296=2^p*(x1+2^(32-p)*(2^p*y1+y0))+x0:=by
   rw[<-f,<-h,zT,<-zY (2^p) (2^(32-p)),h0]
   generalize 2^p*y1+y0=Y
   omega
  rw[e,Jv b,y9 c,ri]
  have j:x1+2^(32-p)*(2^p*y1+y0)=(x1+2^(32-p)*y0)+4294967296*y1:=by
   rw[zT,<-zY,zz (2^(32-p)) (2^p),h0];omega
  have l:2^(32-p)*y0+2^(32-p)<=4294967296:=by
   have:2^(32-p)*(y0+1)<=2^(32-p)*2^p:=Ao _ d;rw[zz (2^(32-p)) (2^p),h0,zT] at this
   omega
  rw[j,Jw,tv oM,zT,<-zY,h0]
  omega
theorem Eo {b:Nat}{l X:List Nat}{j P d a:Nat}(i:l.length=j)(c:P*am b l+a=am b (X.take j)+b^j*(X.getD j 0%P))(f:P*d+X.getD j 0%P=X.getD j 0+b*(X.getD (j+1) 0%P)) :
  P*am b (l++[d])+a=am b (X.take (j+1))+b^(j+1)*(X.getD (j+1) 0%P):=by
 have e:am b (l++[d])=am b l+b^j*d:=by
  rw[cC,i];show _+b^j*(d+b*0)=_;rw[z6,ri]
 have k:=congrArg (b^j * ·) f
 simp only[zT] at k
 rw[e,aR,zy,zT];have h:P*(b^j*d)=b^j*(P*d):=by ac_rfl
 have o:b^j*b*(X.getD (j+1) 0%P)=b^j*(b*(X.getD (j+1) 0%P)):=by ac_rfl
 rw[h,o]
 omega
theorem EC {a k:Nat}{l:List Nat}(i:(lim a).length<=k/32+l.length)(b:2^(k%32)*am 4294967296 l+((lim a).drop (k/32)).getD 0 0%2^(k%32)=am 4294967296 (((lim a).drop (k/32)).take l.length)+4294967296^l.length*(((lim a).drop (k/32)).getD l.length 0%2^(k%32))):am 4294967296 l=a/2^k:=by
 have c:((lim a).drop (k/32)).length<=l.length:=by rw[Jb];omega
 rw[I7 c,cP c,Ju,z6,ri] at b
 have f:am 4294967296 ((lim a).drop (k/32))=a/4294967296^(k/32):=by
  rcases co (lim a).length (k/32) with h|h
  ·rw[JA oM,y9]
   ·rfl
   ·exact ep (cI a) (Aa kD oM)
  ·have e:=bX 4294967296 (l:=lim a) (k:=k/32) h
   rw[cu] at e
   have h1:=bV (Dg.take (Ld.lim a) (k/32));rw[z1,z2 h] at h1
   have d:a/4294967296^(k/32)=(am 4294967296 ((lim a).take (k/32))+4294967296^(k/32)*am 4294967296 ((lim a).drop (k/32)))/4294967296^(k/32):=by rw[<-e]
   rw[d,I5 _ _ (A8 kD),y9 h1,s4]
 rw[xi k,<-Bs,<-f,<-b,Jv (z8 _),y9 (ua _ (z8 _)),ri]
section bld
variable {P:Program}{n:Nat}{N R:Po}{X:Nat->Po}{ops:Array Oper}{k:Nat}{Γ:ck}{w0:World}{h0:Hp}{B:List Bx}{Rs:List Rw}{F:List (Hp->Prop)}{wB:World}{hB:Hp}
theorem SS.liftJ (s:SS w0 h0 wB hB B Rs F){w:World}(x:Ext wB w):∃ c,SS w0 h0 w c B Rs F/\∀ b,wB.heap.size<=b->b<w.heap.size->c[b]?=some junk:=by
 have d:=x.size;have h:=s.g.size;refine ⟨hB++ow (w.heap.size-wB.heap.size) junk,s.step ⟨x,⟨by simp,fun b a=>et a⟩,⟨by simp;omega,fun b=>?_⟩⟩,fun b h1 f=>?_⟩
 ·rcases co b hB.size with a|a
  ·rw[et a]
   have e:=Below.block x b oM
   rcases s.g.blk b with h1|h1
   ·exact .inl (h1.trans e.symm)
   ·exact .inr h1
  ·rw[ey a,um]
   by_cases hl:b<w.heap.size
   ·right;rw[if_pos oM]
   ·left;rw[if_neg oM,ea oM]
 ·rw[ey oM,um,if_pos oM]
theorem H7 (t:Nat)(ty:TypeId)(vs:List Value){w:World}{h:Hp}(s:SS w0 h0 w h B Rs F)(H:∀ w',Ext w w'->w.heap.size<=w'.heap.size->w'.heap[w.heap.size]?=some (.cells vs.toArray ty (0,0))->LG P n N R X ops (k+1) ((t,.pointer (some ⟨w.heap.size,0,none⟩))::Γ) w')(a:cL ops Γ k t n=true:=by kernel_rfl)
  (hr:(execOp (ev Γ) (av ops k)).run P w=.ok (.value (.pointer (some ⟨w.heap.size,0,none⟩))) (w.alloc (.cells vs.toArray ty (0,0))):=by kernel_rfl):LG P n N R X ops k Γ w :=
 LG.val t _ (w.alloc (.cells vs.toArray ty (0,0))) (bS a).1 (bS a).2 hr (H _ ((Ext.refl _).alloc _) (by rw[dw];simp) (by rw[dw];simp))
theorem Aw (t:Nat){f:FuncId}{args:Array Value}{V:Value}{Q:World->Prop}{w:World}(s:SS w0 h0 wB hB B Rs F)(x:Ext wB w)(c:Calls P f args w fun e w'=>e=.returned V/\(Q w'/\Below wB.heap.size w w'))(H:∀ w' a,SS w0 h0 w' a B Rs F->Ext wB w'->Q w'->LG P n N R X ops (k+1) ((t,V)::Γ) w')(d:cL ops Γ k t n=true:=by kernel_rfl)
  (hr:(execOp (ev Γ) (av ops k)).run P w=.ok (.enter f args) w:=by kernel_rfl):LG P n N R X ops k Γ w :=
 LG.call t f args (bS d).1 (bS d).2 hr (c.mono fun e w' ⟨i,q,b⟩=>by
  have h:Ext wB w':=Below.trans x b;obtain ⟨a,j,_⟩:=s.liftJ h;exact ⟨V,i,H w' a j h q⟩)
def Cd (a b:Nat):List Nat:=(List.range b).filter (fun c=>decide (a<=c))
theorem lh {a b c:Nat}:c∈Cd a b↔a<=c/\c<b:=by
 unfold Cd;rw[List.mem_filter,i1];simp;omega
theorem A.takeK {M:Ms}{Q:Exit->Act->World->Prop}{k0:Nat}{L:Array Bool}{a:Act}{w:World}{i:Nat}{o:Oper}{v:Value}{S:World->Prop}
  (hi:ops[i]?=some o)(y:i<k0)(d:Region.noSelect ops=true)(hf:Region.free .any ops L i=true)(hr:i∈Region.ready .any ops L)(z:∀ c a w,¬Q (.panic c) a w)
  (k:∀ w w',S w->Mo M.l w w'->S w')(u:S w)(C:YieldsIf P ops S o v a)
  (b:(∀ w,S w)\/(∀ w w',S w->Tl M w w'->S w')\/∀ j f,ops[j]?=some f->k0<=j->j≠i->∃ e∈f.after,Region.binds .any e=true/\e.on=i)
  (H:A M P ops Q k0 (L.setIfInBounds i true) (a.put o.dst v) w):A M P ops Q k0 L a w:=by
 unfold A at *
 rw[d6 hr]
 exact lc hi (Region.noSelect_spec d) (fun c a w B=>absurd B (z _ _ _)) k _ _ _ _
  (fun j f x p h=>Region.free_spec hi hf j f x p h) b hr C u H y
variable {M:Ms}{k0:Nat}{L:Array Bool}{w:World}
theorem aV (i t:Nat)(v:Value)(H:AG M P n N R X ops k0 (L.setIfInBounds i true) ((t,v)::Γ) w)(h:cE n ops k0 [] L Γ i t=true:=by kernel_rfl)(hv:∀ w,(execOp (ev Γ) (av ops i)).run P w=.ok (.value v) w:=by intro _;kernel_rfl):AG M P n N R X ops k0 L Γ w:=by
 obtain ⟨b,j⟩:=jR h;rw[hI] at b
 have c:=dg b.1;intro a d;have e:=d.exec (Region.noSelect_spec c.sel i _ · · c.get) b.2;refine A.takeK (v:=v) (S:=fun _=>True) c.get c.lt c.sel c.free c.ready (fun _ _ _ f=>f) (fun _ _ _ _=>trivial) trivial (.inl ⟨d.want j,fun w _=>by rw[e];exact hv w⟩) (.inl fun _=>trivial) ?_;rw[c.dst];exact H _ (d.put c.tn v)
theorem aL (i t:Nat)(v:Value)(hr:∀ w',Mo M.l w w'->(execOp (ev Γ) (av ops i)).run P w'=.ok (.value v) w')(H:AG M P n N R X ops k0 (L.setIfInBounds i true) ((t,v)::Γ) w)(k:AB n ops k0 [] L Γ i t=true:=by kernel_rfl):AG M P n N R X ops k0 L Γ w:=by
 obtain ⟨b,o⟩:=hJ k;rw[hI,hI] at b
 obtain ⟨⟨f,h⟩,e⟩:=b;have c:=dg f;intro a d;have j:=d.exec (Region.noSelect_spec c.sel i _ · · c.get) h;refine A.takeK (v:=v) (S:=fun w'=>Mo M.l w w') c.get c.lt c.sel c.free c.ready (fun _ _ _ x=>x) (fun _ _ h1 u=>h1.trans u) (Mo.refl _ _) (.inl ⟨d.want o,fun w' p=>by rw[j];exact hr w' p⟩) (.inr (.inr (jA e))) ?_;rw[c.dst];exact H _ (d.put c.tn v)
theorem aH (i t:Nat)(v:Value){h:Hp}{b o:Nat}{cs:List Value}(s:SS w0 h0 w h B Rs F)(a:Seg h b o cs)(H:AG M P n N R X ops k0 (L.setIfInBounds i true) ((t,v)::Γ) w)(hM:∀ b∈M.l,h[b]?=some junk)(c:AB n ops k0 [] L Γ i t=true:=by kernel_rfl)(d:bP P (execOp (ev Γ) (av ops i)) cs=some (.value v,kI b o cs.length):=by kernel_rfl):AG M P n N R X ops k0 L Γ w :=
 aL i t v (fun _ e=>Seg.runM a s.g hM e d) H c
def GZ (ops:Array Oper)(k0:Nat)(L:Array Bool)(i:Nat):Bool:=decide (i<ops.size) && decide (i<k0) && Region.noSelect ops && (Region.ready .any ops L == [i])
theorem aC (i t:Nat){f:FuncId}{args:Array Value}(c:Calls P f args w fun e w'=>∃ v,e=.returned v/\Mo M.l w w'/\AG M P n N R X ops k0 (L.setIfInBounds i true) ((t,v)::Γ) w')(d:(GZ ops k0 L i && ba Γ (av ops i) && ((av ops i).dst == some t) && decide (t<n))=true:=by kernel_rfl)(p:bu ops Γ (av ops i)=some true:=by kernel_rfl)
  (hr:(execOp (ev Γ) (av ops i)).run P w=.ok (.enter f args) w:=by kernel_rfl):AG M P n N R X ops k0 L Γ w:=by
 simp only[hI,decide_eq_true_eq,beq_iff_eq] at d
 obtain ⟨⟨⟨h1,u⟩,y⟩,x⟩:=d
 unfold GZ at h1
 simp only[hI,decide_eq_true_eq,beq_iff_eq] at h1
 have k:=bN (ops:=ops) h1.1.1.1;intro a b;refine A.intro (fun h0=>by rw[h1.2] at h0;cases h0) (fun j h=>?_);rw[h1.2,List.mem_singleton] at h
 subst h;refine OpR.wpOp (R:=fun v w'=>Mo M.l w w'/\AG M P n N R X ops k0 (L.setIfInBounds j true) ((t,v)::Γ) w') k ⟨b.want p,.inr (.inr ⟨f,args,?_,c⟩)⟩ (fun v w' o=>⟨Rl.mo h1.1.1.2 o.1,?_⟩)
 ·rw[b.exec (Region.noSelect_spec h1.1.2 j _ · · k) u];exact hr
 ·rw[y];exact o.2 _ (b.put x v)
theorem Ay {id:Nat}(M:Ms)(k0:Nat)(b:P.follows .mixedOrders=true)(H:AG M P n N R X ops k0 (ow ops.size false) Γ w.drew):CG P n N R X (.region id ops true) Γ w:=by
 intro a c;refine wp_region_any b ?_;have h1:=H a c
 unfold A at h1
 rw[iF] at h1
 exact kz _ _ _ _ _ _ _ _ _ h1
theorem SS.drew {h:Hp}(s:SS w0 h0 w h B Rs F):SS w0 h0 w.drew h B Rs F:=s.step (Up.drew (Up.refl s.g))
theorem wd {K:Nat}{w w':World}(x:Below K w w'):Mo (Cd K w.heap.size) w w':=⟨x.os,x.tape,x.output,x.size,fun c a b=>by
 rcases co c K with h|h
 ·exact Below.block x c h
 ·exact absurd (lh.2 ⟨h,a⟩) b⟩
theorem qW {K:Nat}{T e:TypeId}{b:Nat}{bs:List Value}{w w1:World}(h:Lib.IsBuilder T e K b bs w)(x:Ext w w1):Lib.IsBuilder T e K b bs w1:=by
 have key:∀ p,Lib.BuilderAt T e K b p bs w->Lib.BuilderAt T e K b p bs w1:=by
  rintro p ⟨h1,v,a,f,j⟩
  have d:b<w.heap.size:=by
   rcases co b w.heap.size with h'|h'
   ·exact h'
   ·rw[ea h'] at a;cases a
  exact ⟨h1,v,(Below.block x b d).trans a,eZ f (fun c i=>Below.block x c (j0 f i)),j⟩
 rcases h with h|h
 ·exact .inl (key _ h)
 ·exact .inr (key _ h)
theorem aX (i t:Nat)(A:Z9)(len cap sz:Nat)(x:Int)(j:Nat)(b:A=some ⟨aB A,aO A,none⟩)(H:AG M P n N R X ops k0 (L.setIfInBounds i true) ((t,.pointer (some ⟨aB A,aO A+j*sz,none⟩))::Γ) w)(c:cE n ops k0 [] L Γ i t=true:=by kernel_rfl)(d:BL P (ev Γ) (av ops i)=some (.slice A len cap,.int .i64 x,sz):=by kernel_rfl)(e:x=j:=by omega)(a:j<len:=by omega):AG M P n N R X ops k0 L Γ w :=
 aV i t _ H c (fun w=>gk d b e a w)
theorem rD {P:List UInt8}{x m:Nat}(a:m<8):Lib.byteCells (P++(b8 x).take m)++[.int .u8 ((x/2^(8*m)%256:Nat):Int)]=Lib.byteCells (P++(b8 x).take (m+1)):=by
 have e:(b8 x).take (m+1)=(b8 x).take m++[UInt8.ofNat (x/256^m)]:=by
  rw[List.take_add_one]
  congr 1
  unfold b8
  rw[Jc,Jd a];rfl
 rw[e,<-List.append_assoc]
 unfold Lib.byteCells
 rw[List.map_append (l₁:=P++_)]
 congr 1
 show _=[Value.int .u8 ((x/256^m%256:Nat):Int)]
 rw[A4]
theorem t7 {l:List Nat}{k:Nat}(a:k<l.length):((l.take k).flatMap b8)++(b8 (l.getD k 0)).take 8=(l.take (k+1)).flatMap b8:=by
 have e:(b8 (l.getD k 0)).take 8=b8 (l.getD k 0):=I7 (by rw[jL];omega);rw[gK a,List.flatMap_append,e];simp
theorem tH {l:List Nat}{k m x:Nat}(c:k<=l.length)(a:m<=8)(b:l.length<=1099511627776):(Lib.byteCells ((l.take k).flatMap b8++(b8 x).take m)).length+1<=140737488355328:=by
 rw[Lib.byteCells_length,sy,mN,z1,z1,jL];omega
theorem B3 {l:List Nat}(h:tl l l.length=0):Value.agg #[.int .u64 0,.string ⟨#[]⟩]=nv (aD l):=by
 have e:=iR 18446744073709551616 l l.length (eb _);rw[h,r9] at e
 have:aD l=0:=e.symm;rw[this];rfl
theorem Ft {l:List Nat}(b:Wd l)(h:tl l l.length=1):Value.agg #[.int .u64 (l.getD 0 0:Nat),.string ⟨#[]⟩]=nv (aD l):=by
 have e:=iR 18446744073709551616 l l.length (eb _);have a:=fY l l.length;rw[h,r9,aR] at e
 have c:aD l=l.getD 0 0:=by show am _ l=_;rw[<-e];simp[am]
 rw[c];have:=b.get 0
 unfold nv
 rw[gQ this,ma this]
theorem Cs {l:List Nat}(b:Wd l)(h:0<tl l l.length):Value.agg #[.int .u64 (l.getD 0 0:Nat),.string ⟨(((l.drop 1).take (tl l l.length-1)).flatMap b8).toArray⟩]=nv (aD l):=by
 have e:=kY b;have a:((l.drop 1).take (tl l l.length-1))=(wds (aD l)).drop 1:=by rw[e,List.drop_take]
 unfold nv
 rw[G6 (n:=aD l) (by rw[a]),qj,e,iI h]
end bld
section
variable {P:Program}{Γ:ck}{o:Oper}
theorem dZ {f:FuncId}{args:Array Value}{v:Value}{w:World}(h:(execOp (ev Γ) o).run P w=(callFunc f args).run P w)(k:(callFunc f args).run P w=.ok (.value v) w):(execOp (ev Γ) o).run P w=.ok (.value v) w:=h.trans k
end
theorem dN (x y c:Nat)(d:x<18446744073709551616)(b:y<18446744073709551616)(a:c<=1):∃ s c':Nat,s+18446744073709551616*c'=x+y+c/\s<18446744073709551616/\c'<=1/\∀ w,(callFunc 165 #[.int .u64 x,.int .u64 y,.int .u64 c]).run Tryz.prog w=.ok (.value (.tuple #[.int .u64 s,.int .u64 c'])) w:=by
 refine ⟨(x+y+c)%18446744073709551616,(x+y+c)/18446744073709551616,by omega,by omega,by omega,fun w=>?_⟩;rw[run_callFunc_extern Tryz.func165 kR kR kR (e:=add64Entry) kR,run_add64 x y c oM oM oM oM]
 simp only[Result.andThen]
 congr 5<;>omega
theorem nQ (x y b:Nat)(f:x<18446744073709551616)(d:y<18446744073709551616)(c:b<=1):∃ s a:Nat,s+y+b=x+18446744073709551616*a/\s<18446744073709551616/\a<=1/\∀ w,(callFunc 246 #[.int .u64 x,.int .u64 y,.int .u64 b]).run Tryz.prog w=.ok (.value (.tuple #[.int .u64 s,.int .u64 a])) w:=by
 refine ⟨(x+18446744073709551616-y-b)%18446744073709551616,if x<y+b then 1 else 0,by split<;>omega,by omega,by split<;>omega,fun w=>?_⟩;rw[run_callFunc_extern Tryz.func246 kR kR kR (e:=sub64Entry) kR,run_sub64 x y b c]
 rfl
theorem Ret.of_same {f:FuncId}{args:Array Value}{V:Value}{P:Program}{w:World}{h:Hp}(g:G w h)(c:Calls P f args w fun e w'=>e=.returned V/\w'=w):Calls P f args w (Ret w h fun v _=>v=V) :=
 c.mono fun e w' ⟨b,a⟩=>by subst a;exact ⟨V,h,b,Up.refl g,rfl⟩
theorem li (x y:Nat)(a:x<18446744073709551616)(b:y<18446744073709551616)(w:World)(h:Hp)(g:G w h):CR 164 #[uV x,uV y] w h (fun v _=>∃ hi lo:Nat,v=.tuple #[uV hi,uV lo]/\lo+18446744073709551616*hi=x*y/\lo<18446744073709551616/\hi<18446744073709551616/\hi<=18446744073709551614):=by
 refine (Ret.of_same g (Tryz.bits_Mul64 x y a b w)).mono ?_;rintro e w' ⟨v,d,c,u,rfl⟩;have h1:x*y<=18446744073709551615*18446744073709551615:=Jq oM oM;exact ⟨_,d,c,u,x*y/18446744073709551616,x*y%18446744073709551616,rfl,by omega,by omega,by omega,by omega⟩
theorem jK {n:Nat}(h:n<18446744073709551616):Lib.bitLen n=nb n:=by
 rcases va n with h0|h0
 ·subst h0;rfl
 ·obtain ⟨a,e,d⟩:=cl h0
  have b:nb n<=64:=jg (k:=64) h;have:=Lib.bitLen_shift (nb n-1) n a h
  have h1:n/2^(nb n-1)=1:=by
   have:n<2^(nb n-1)*2:=by rw[<-zy];rwa [show (nb n-1).succ=nb n by omega]
   refine Jm oM oM
  rw[h1] at this
  have c:Lib.bitLen 1=1:=by decide
  omega
theorem vL (x:Nat)(a:x<18446744073709551616)(w:World)(h:Hp)(g:G w h):CV 130 #[uV x] w h (nV (nb x)):=by
 have:=Ret.of_same g (Tryz.bits_Len64 x w oM oM);rw[ub,jK a] at this
 exact this
theorem C1 (x:Nat)(a:x<18446744073709551616)(w:World)(h:Hp)(g:G w h):CV 174 #[uV x] w h (nV (64-nb x)):=by
 have:=Ret.of_same g (Tryz.bits_LeadingZeros64 x w oM oM);have b:nb x<=64:=jg (k:=64) a;rw[ub,jK a,show (64:Int)-(nb x:Nat)=((64-nb x:Nat):Int) by omega] at this
 exact this
theorem g9 {a b:Nat}(ha:a<18446744073709551616)(d:b<18446744073709551616):a*b<=340282366920938463426481119284349108225:=by
 have h1:a<=18446744073709551615:=by omega
 have c:b<=18446744073709551615:=by omega
 exact Jq h1 c
theorem iE (A:Z9)(c:Nat)(l:List Nat)(m:Nat)(z:l.length=m)(C:l.length<=1099511627776)(B:l.length<=c)(w:World)(h:Hp)(g:G w h)(u:S3 A l h):CV 123 #[.slice A m c] w h (.slice A (tl l m) c):=by
 have a:=((sS g).aS u);refine go Tryz.func123 [(0,qS A m c)] rfl (aa a ac (aE (lL a [.c,.v (nV m),.c] (ai (kZ ?_)))));refine bG _ (CG.loop (fun j Γ y=>∃ (n:Nat)(h_:Hp),j=n/\Γ=[(0,qS A m c),(2,sZ),(3,nV n)]/\SS w h y h_ [] [] [S3 A l]/\n<=m/\tl l m=tl l n) _ ⟨m,h,rfl,rfl,a.to _ _,nR _,rfl⟩ ?_);rintro _ _ w1 ⟨n,x,o,rfl,a,F,k⟩;refine cQ (aa a ac ?_);cases b:(decide ((0:Int)<(n:Int)))
 .
  have i:=oF b;refine lB 7 b (lL a ac (lG 9 ?_));refine lG 10 (lG 11 (lG 12 (lG 13 (lG 14 (lL a [.v qF] (ah (CG.exit ?_)))))))
  show CG _ _ _ _ _ _ _ _
  refine aa a aF (lT 20 A m c 1 (n:Nat) n ?_);exact lL a ac (af a [] (qS A n c) (by rw[k,mI oM]))
 have i:=oT b;refine lB 7 b (lL a dL (bg 11 ((n:Nat)-1) (n-1) ?_));refine lX 12 A m c 1 (n-1:Nat) (n-1) ((a.f.1).ok oM) (lH 13 (mW (l.getD (n-1) 0)) a ((a.f.1).el (n-1) oM) ?_);cases d:(((l.getD (n-1) 0:Nat):Int) == (0:Int))
 .
  have e:=ao d;refine lB 14 d (lL a [.v qF] (ah (CG.exit ?_)))
  show CG _ _ _ _ _ _ _ _
  refine aa a aF (lT 20 A m c 1 (n:Nat) n ?_);exact lL a ac (af a [] (qS A n c) (by rw[k,mI oM]))
 have e:=eq_of_beq d;refine lB 14 d (lL a [.v qT] (aj (cK (kZ (kQ (lL a ac (bg 17 ((n:Nat)-1) (n-1) ?_)))))));refine lL a ac (lD ?_);intro D p;refine ⟨_,_,?_,⟨n-1,x,rfl,rfl,a.to _ _,oM,(by rw[k];exact AJ oM oM)⟩,p.to _ kR⟩
 omega
theorem tw {h:Hp}{A:Z9}{n cap:Nat}(b:n<18446744073709551616)(a:2<=cap)(s:SlO 1 aW 0 h A [n%4294967296,n/4294967296]):RN h (.slice A (tl [n%4294967296,n/4294967296] 2) cap) n :=
 RN.trim (Dg.cons oM (Dg.one oM)) (by simp only[am];omega) rfl a s
theorem eD (n:Nat)(c:n<18446744073709551616)(w:World)(h:Hp)(g:G w h):CR 138 #[mV n] w h (fun v h=>RN h v n):=by
 have a:=sS g;refine go Tryz.func138 [(0,mV n)] rfl (aa a ac (aE (lL a ac (lV 4 (mW (n%4294967296)) ?_ (hr:=rT ((n:Int)) kR (fV _))))));refine lL a ac (lV 6 (mV (n/4294967296)) ?_ (hr:=aN (n:=JF (n:Int) 4294967296) kR (dH _ 4294967296)));refine lV 7 (mW (n/4294967296)) ?_ (hr:=rT (((n/4294967296:Nat):Int)) kR (ns oM oM));refine lR 8 161 2 ([mW (n%4294967296),mW (n/4294967296)]) a (fun b w2 i a=>?_);replace a:=a.aS (SlO.of_flat (sz:=1) (f:=aW) (d:=0) (l:=[(n%4294967296),(n/4294967296)]) (fun _=>rfl) a.f.1);exact aq 9 a (iE (sB b) 2 ([(n%4294967296),(n/4294967296)]) 2 (by first|rfl|omega|assumption) (by simp) (by simp) _ _ a.g a.f.1) (fun j e a=>lL a ac (af a [] (qS (sB b) (tl ([(n%4294967296),(n/4294967296)]) 2) 2) (tw c oM a.f.1)))
theorem Iv (n:Nat)(A:Z9)(cap:Nat)(d:(lim n).length<=cap)(w:World)(h:Hp)(g:G w h)(b:S3 A (lim n) h):CR 96 #[.bool false,.slice A ((lim n).length) cap] w h (fun v h=>RI h v (bD false n)):=by
 have a:=((sS g).aS b);refine go Tryz.func96 [(0,qF),(1,qS A ((lim n).length) cap)] rfl (aG (lA 4 42 ([qF,sZ]) a (fun i w2 e a=>aE (lL a aF (lG 7 ?_)))));exact lG 8 (lG 9 (lL a [.v qF,.c,.v (.agg #[qF,qS A ((lim n).length) cap])] (lP 0 0 ([qF,qS A ((lim n).length) cap]) a (fun j a=>af a [(0,0,2)] (.agg #[qF,qS A ((lim n).length) cap]) (rE rfl d a.f.1)))))
theorem H8 (n:Nat)(A:Z9)(cap:Nat)(e:(lim n).length<=cap)(w:World)(h:Hp)(g:G w h)(i:S3 A (lim n) h):CR 96 #[.bool true,.slice A ((lim n).length) cap] w h (fun v h=>RI h v (bD true n)):=by
 have a:=((sS g).aS i);have k:=@bI n;refine go Tryz.func96 [(0,qT),(1,qS A ((lim n).length) cap)] rfl (aG (lA 4 42 ([qF,sZ]) a (fun l w2 j a=>aE (lL a [.c,.c,.c,.v (nV ((lim n).length))] ?_))));cases b:(decide ((0:Int)<(((lim n).length:Nat):Int)))
 .
  have d:=oF b;exact lB 9 b (lL a [.v qF,.c,.v (.agg #[qF,qS A ((lim n).length) cap])] (lP 0 0 ([qF,qS A ((lim n).length) cap]) a (fun p a=>af a [(0,0,2)] (.agg #[qF,qS A ((lim n).length) cap]) (rE (by simp only[JG];first|(symm;exact decide_eq_true oM)|(symm;exact decide_eq_false oM)) e a.f.1))))
 have d:=oT b;exact lB 9 b (lL a [.v qT,.c,.v (.agg #[qT,qS A ((lim n).length) cap])] (lP 0 0 ([qT,qS A ((lim n).length) cap]) a (fun o a=>af a [(0,0,2)] (.agg #[qT,qS A ((lim n).length) cap]) (rE (by simp only[JG];first|(symm;exact decide_eq_true oM)|(symm;exact decide_eq_false oM)) e a.f.1))))
theorem rI (p:Bool)(n:Nat)(A:Z9)(cap:Nat)(b:(lim n).length<=cap)(w:World)(h:Hp)(g:G w h)(a:S3 A (lim n) h):CR 96 #[.bool p,.slice A (lim n).length cap] w h (fun v h=>RI h v (bD p n)):=by
 cases p
 ·exact Iv n A cap b w h g a
 ·exact H8 n A cap b w h g a
theorem q4 (z:Int)(h0:z<0)(h1 : -9223372036854775808<=z)(w:World)(h:Hp)(g:G w h):CR 196 #[iV z] w h (fun v h=>RI h v (bD true (ab z))):=by
 have a:=sS g;have hi:ab z<=9223372036854775808:=by unfold ab;omega
 refine go Tryz.func196 [(0,iV z)] rfl (aG (lA 2 42 ([qF,sZ]) a (fun x w2 B a=>ai (aa a ac ?_))));have ⟨b,j⟩:=dT (p:=(z:Int)<(0:Int)) oM;refine lB 4 b (aj (aa a ac (lV 6 (mV (18446744073709551616-ab z)) ?_ (hr:=rU (z) kR (by rw[IntKind.wrap_u64];unfold ab;omega)))));refine lV 7 (mV (ab z)) ?_ (hr:=rU ((0-((18446744073709551616-ab z:Nat):Int))) kR (by rw[IntKind.wrap_u64];omega));refine lC 8 a (eD (ab z) oM _ _ a.g) ?_;rintro _ y _ a ⟨u,l,rfl,d,c⟩;replace a:=a.aS c;refine lC 9 a (rI true (ab z) u l d _ _ a.g a.f.1) ?_;rintro _ _ _ a ⟨i,e,rfl,k,o⟩;replace a:=a.aS o;exact lP 0 0 ([.bool (au (bD true (ab z))),qS i ((lim (ab (bD true (ab z)))).length) e]) a (fun _ a=>af a [(0,0,2)] (.agg #[.bool (au (bD true (ab z))),qS i ((lim (ab (bD true (ab z)))).length) e]) (⟨_,_,rfl,k,a.f.1⟩))
theorem qw (z:Nat)(h1:z<9223372036854775808)(w:World)(h:Hp)(g:G w h):CR 196 #[nV z] w h (fun v h=>RI h v (bD false z)):=by
 have a:=sS g;refine go Tryz.func196 [(0,nV z)] rfl (aG (lA 2 42 ([qF,sZ]) a (fun x w2 B a=>ai (aa a ac ?_))));have ⟨b,j⟩:=dF (p:=(z:Int)<(0:Int)) oM;refine lB 4 b (ah (cK (aa a ac (lV 11 (mV z) ?_ (hr:=rU ((z:Int)) kR (az oM oM))))));refine lC 12 a (eD z oM _ _ a.g) ?_;rintro _ y _ a ⟨u,l,rfl,d,c⟩;replace a:=a.aS c;refine lC 13 a (rI false z u l d _ _ a.g a.f.1) ?_;rintro _ _ _ a ⟨i,e,rfl,k,o⟩;replace a:=a.aS o;exact lP 0 0 ([.bool (au (bD false z)),qS i ((lim (ab (bD false z))).length) e]) a (fun _ a=>af a [(0,0,2)] (.agg #[.bool (au (bD false z)),qS i ((lim (ab (bD false z))).length) e]) (⟨_,_,rfl,k,a.f.1⟩))
theorem E3 (z:Int)(h0 : -9223372036854775808<=z)(h1:z<9223372036854775808)(w:World)(h:Hp)(g:G w h):CR 196 #[iV z] w h (fun v h=>RI h v z):=by
 rcases Int.lt_or_le z 0 with hz|hz
 ·have e:bD true (ab z)=z:=by unfold bD ab;simp;omega
  have:=q4 z hz h0 w h g;rw[e] at this
  exact this
 ·obtain ⟨n,rfl⟩:=Int.eq_ofNat_of_zero_le hz
  exact qw n oM w h g
theorem jp (a:Nat)(A:Z9)(c:Nat)(V:(lim a).length<=c)(b:Nat)(D:Z9)(d:Nat)(Y:(lim b).length<=d)(I:(lim a).length<=4000000000)(M:(lim b).length<=4000000000)(w:World)(h:Hp)(g:G w h)(J:S3 A (lim a) h)(L:S3 D (lim b) h):CV 157 #[.slice A ((lim a).length) c,.slice D ((lim b).length) d] w h (iV (cY a b)):=by
 have e:=(((sS g).aS J).aS L);refine go Tryz.func157 [(0,qS A ((lim a).length) c),(1,qS D ((lim b).length) d)] rfl (aa e ac (ai (aa e [.c,.v (nV ((lim a).length)),.c,.v (nV ((lim b).length))] ?_)));cases o:((((lim a).length:Nat):Int) != (((lim b).length:Nat):Int))
 .
  have x:=ay o;refine lB 10 o (ah (cK (cQ (aa e [.c,.v (nV ((lim a).length))] (lV 18 (iV ((((lim a).length:Nat):Int)-1)) ?_ (hr:=rS ((((lim a).length:Nat)-1)) kR ((dS oM oM).trans oM)))))));refine lL e ac (bE ?_);refine bG _ (CG.loop (fun C Γ S=>∃ (m:Nat)(h_:Hp),C=m/\Γ=[(0,qS A ((lim a).length) c),(1,qS D ((lim b).length) d),(5,iV ((m:Int)-1))]/\SS w h S h_ [] [] [S3 D (lim b),S3 A (lim a)]/\m<=(lim a).length/\(lim a).length=(lim b).length/\(lim a).drop m=(lim b).drop m) _ ⟨(lim a).length,h,rfl,rfl,e.to _ _,nR _,oM,(by rw[JA oM,JA oM])⟩ ?_);rintro _ _ w2 ⟨m,X,F,rfl,e,U,p,i⟩;refine cQ (aa e ac ?_);cases l:(decide ((0:Int)<=((m:Int)-1:Int)))
  .
   have u:=oF l;refine lB 20 l (ah (CG.exit ?_))
   show CG _ _ _ _ _ _ _ _
   exact aa e ac (af e [] (iV 0) (by rw[ip (AP (by obtain rfl:m=0:=oM;simpa using i))]))
  have u:=oT l;refine lB 20 l (aj (cK (cQ (kZ (cQ (cR 9 [] mixed e aw ?_))))));refine eV 0 23 (qS A ((lim a).length) c) (eV 1 24 (iV ((m:Int)-1)) (eX 2 25 A ((lim a).length) c 1 ((m:Int)-1) (m-1) ((e.f.2.1).ok oM) (eH 3 26 (mW ((lim a).getD (m-1) 0)) e ((e.f.2.1).el (m-1) oM) (eV 4 27 (qS D ((lim b).length) d) (eV 5 28 (iV ((m:Int)-1)) (eX 6 29 D ((lim b).length) d 1 ((m:Int)-1) (m-1) ((e.f.1).ok oM) (eH 7 30 (mW ((lim b).getD (m-1) 0)) e ((e.f.1).el (m-1) oM) ?_)))))));cases j:((((lim a).getD (m-1) 0:Nat):Int) != (((lim b).getD (m-1) 0:Nat):Int))
  .
   have y:=ay j;refine eB 8 31 j (cG e (fun Z O e=>tN (da (cK (kQ (lL e ac (lV 22 (iV (((m-1:Nat):Int)-1)) ?_ (hr:=rS ((((m:Int)-1)-1)) kR ((dS oM oM).trans oM)))))))));refine lL e ac (lD ?_);intro W H;refine ⟨_,_,?_,⟨m-1,O,rfl,rfl,e.to _ _,oM,p,(eM (k:=m-1) p oM (by rw[show m-1+1=m by omega];exact i) oM)⟩,H.to _ kR⟩
   omega
  have y:=a6 j;refine eB 8 31 j (cG e (fun _ _ e=>tN (ci (cQ (cQ (cR 9 [] mixed e aw ?_))))));refine eV 0 32 (qS A ((lim a).length) c) (eV 1 33 (iV ((m:Int)-1)) (eX 2 34 A ((lim a).length) c 1 ((m:Int)-1) (m-1) ((e.f.2.1).ok oM) (eH 3 35 (mW ((lim a).getD (m-1) 0)) e ((e.f.2.1).el (m-1) oM) (eV 4 36 (qS D ((lim b).length) d) (eV 5 37 (iV ((m:Int)-1)) (eX 6 38 D ((lim b).length) d 1 ((m:Int)-1) (m-1) ((e.f.1).ok oM) (eH 7 39 (mW ((lim b).getD (m-1) 0)) e ((e.f.1).el (m-1) oM) ?_)))))));cases B:(decide ((((lim a).getD (m-1) 0:Nat):Int)<(((lim b).getD (m-1) 0:Nat):Int)))
  .
   have K:=oF B;exact eB 8 40 B (cG e (fun _ _ e=>tN (da (cK (aa e ac (af e [] (iV 1) (by rw[eU (by first|exact fB oM|exact gc (k:=m-1) oM oM (by rw[show m-1+1=m by omega];exact i.symm) oM)])))))))
  have K:=oT B;exact eB 8 40 B (cG e (fun _ _ e=>tN (ci (aa e ac (af e [] (iV (-1)) (by rw[dK (by first|exact fB oM|exact gc (k:=m-1) oM oM (by rw[show m-1+1=m by omega];exact i) oM)]))))))
 have x:=a6 o;refine lB 10 o (aj (cQ (aa e [.c,.v (nV ((lim a).length)),.c,.v (nV ((lim b).length))] ?_)));cases z:(decide ((((lim a).length:Nat):Int)<(((lim b).length:Nat):Int)))
 .
  have Q:=oF z;exact lB 15 z (ah (cK (aa e ac (af e [] (iV 1) (by rw[eU (by first|exact fB oM|exact gc (k:=m-1) oM oM (by rw[show m-1+1=m by omega];exact i.symm) oM)])))))
 have Q:=oT z;exact lB 15 z (aj (aa e ac (af e [] (iV (-1)) (by rw[dK (by first|exact fB oM|exact gc (k:=m-1) oM oM (by rw[show m-1+1=m by omega];exact i) oM)]))))
theorem FK (A:Z9)(c:Nat)(l:List Nat)(m:Nat)(o:l.length=m)(i:Nat)(hi:i<=1099511627776)(j:Ld l)(w:World)(h:Hp)(g:G w h)(e:S3 A l h):CV 173 #[.slice A m c,nV i] w h (mV (l.getD i 0)):=by
 have a:=((sS g).aS e);have k:=j.get i;refine go Tryz.func173 [(0,qS A m c),(1,nV i)] rfl (aa a ac (ai (aa a [.c,.c,.v (nV m)] ?_)));cases b:(decide ((i:Int)<(m:Int)))
 .
  have d:=oF b;exact lB 8 b (ah (cK (aa a ac (af a [] (uV 0) (by rw[cP oM];rfl)))))
 have d:=oT b;refine lB 8 b (aj (aa a aF (lX 11 A m c 1 (i:Nat) i ((a.f.1).ok oM) ?_)));refine lH 12 (mW (l.getD i 0)) a ((a.f.1).el i oM) (lV 13 (mV (l.getD i 0)) ?_ (hr:=rU (((l.getD i 0:Nat):Int)) kR (az oM oM)));exact lL a ac (af a [] (mV (l.getD i 0)) rfl)
theorem iw (a:Nat)(A:Z9)(c:Nat)(hc:(lim a).length<=c)(b:Nat)(D:Z9)(d:Nat)(hd:(lim b).length<=d)(U:(lim a).length<=4000000000)(hLb:(lim b).length<=4000000000)(w:World)(h:Hp)(g:G w h)(V:S3 A (lim a) h)(Z:S3 D (lim b) h):CR 137 #[.slice A ((lim a).length) c,.slice D ((lim b).length) d] w h (fun v h1=>RN h1 v (a+b)):=by
 have e:=(((sS g).aS V).aS Z);refine go Tryz.func137 [(0,qS A ((lim a).length) c),(1,qS D ((lim b).length) d)] rfl (aa e ac (aE (lL e [.c,.v (nV ((lim a).length)),.c,.v (nV ((lim b).length))] (lV 13 (nV (max (lim a).length (lim b).length)) ?_ (hr:=aN (n:=if (((lim b).length:Nat):Int)>(((lim a).length:Nat):Int) then (((lim b).length:Nat):Int) else (((lim a).length:Nat):Int)) kR (by split<;>omega))))));refine lL e ac (aE (lL e ac (bg 15 (((max (lim a).length (lim b).length):Nat)+1) (((max (lim a).length (lim b).length):Nat)+1) ?_)));refine lK 16 161 (((max (lim a).length (lim b).length):Nat)+1:Nat) 1 4 (uW 0) aW 0 e (fun x w2 h3 e=>?_);have I:(ta (((max (lim a).length (lim b).length):Nat)+1:Nat) 0).length=(((max (lim a).length (lim b).length):Nat)+1:Nat):=by simp
 refine lL e ac (aE (lL e ac (ai (aa e ac (bE ?_)))));refine bG _ (CG.loop (fun F Γ M=>∃ (i:Nat)(z:List Nat)(j:Nat)(h_:Hp),F=(max (lim a).length (lim b).length)+1-i/\Γ=[(0,qS A ((lim a).length) c),(1,qS D ((lim b).length) d),(4,sZ),(5,nV (max (lim a).length (lim b).length)),(6,qS (sB x) (((max (lim a).length (lim b).length):Nat)+1:Nat) (((max (lim a).length (lim b).length):Nat)+1:Nat)),(8,nV i),(7,mV j)]/\SS w h M h_ [⟨x,161,(z).flatMap aW⟩] [] [S3 D (lim b),S3 A (lim a)]/\i<=(max (lim a).length (lim b).length)+1/\z.length=(max (lim a).length (lim b).length)+1/\Ld z/\j<=1/\am 4294967296 z+4294967296^i*j=am 4294967296 ((lim a).take i)+am 4294967296 ((lim b).take i)/\(∀ k,i<=k->z.getD k 0=0)) _ ⟨0,ta (((max (lim a).length (lim b).length):Nat)+1:Nat) 0,0,h3,rfl,rfl,e.to _ _,JH _,I,Ld.rep _,oM,(by rw[di];simp[am]),fun k _=>dG⟩ ?_);rintro _ _ w5 ⟨i,z,j,h6,hm7,rfl,e,hi,p,L,hcy,y,hz⟩;have Q:=(Ld.lim a).get i;have O:=(Ld.lim b).get i;refine cQ (aa e aF ?_);cases u:(decide ((i:Int)<=(((max (lim a).length (lim b).length):Nat):Int)))
 .
  have B:=oF u;refine lB 19 u (ah (CG.exit ?_))
  show CG _ _ _ _ _ _ _ _
  refine aa e ac ?_;have H:i=(max (lim a).length (lim b).length)+1:=by omega
  rw[I7 (show (lim a).length<=i by omega),I7 (show (lim b).length<=i by omega),cu,cu,H,<-p] at y
  have X:am 4294967296 z=a+b:=sU y (by rw[p];exact ep (cI _) (Aa kD (kb oM oM)));obtain ⟨h9,e,C,K,J⟩:=e.pub 0;replace e:=(e.to [] []).aS (SlO.of_flat (sz:=1) (f:=aW) (d:=0) (b:=x) (o:=0) (l:=z) (fun _=>rfl) C);exact aq 39 e (iE (sB x) (((max (lim a).length (lim b).length):Nat)+1:Nat) z (((max (lim a).length (lim b).length):Nat)+1:Nat) p oM oM _ _ e.g e.f.1) (fun _ _ e=>lL e ac (af e [] (qS (sB x) (tl z (((max (lim a).length (lim b).length):Nat)+1:Nat)) (((max (lim a).length (lim b).length):Nat)+1:Nat)) (RN.trim L X p (nR _) e.f.1)))
 have B:=oT u;refine lB 19 u (aj (cK (cQ (kZ (aa e dL (aq 25 e (FK A c (lim a) ((lim a).length) rfl i oM (Ld.lim _) _ _ e.g e.f.2.1) (fun _ _ e=>lV 26 (mV (j+((lim a).getD i 0))) ?_ (hr:=rU (((j:Int)+(((lim a).getD i 0:Nat):Int))) kR (dr j ((lim a).getD i 0) oM)))))))));refine lL e aF (aq 29 e (FK D d (lim b) ((lim b).length) rfl i oM (Ld.lim _) _ _ e.g e.f.1) (fun _ W e=>lV 30 (mV ((j+((lim a).getD i 0):Nat)+((lim b).getD i 0))) ?_ (hr:=rU ((((j+((lim a).getD i 0):Nat):Int)+(((lim b).getD i 0:Nat):Int))) kR (dr (j+((lim a).getD i 0):Nat) ((lim b).getD i 0) oM))));refine lL e ac (aE (lL e dL (lV 34 (mW (((j+((lim a).getD i 0):Nat)+((lim b).getD i 0):Nat)%4294967296)) ?_ (hr:=rT ((((j+((lim a).getD i 0):Nat)+((lim b).getD i 0):Nat):Int)) kR (fV _)))));refine lX 35 (sB x) (((max (lim a).length (lim b).length):Nat)+1:Nat) (((max (lim a).length (lim b).length):Nat)+1:Nat) 1 (i:Nat) i rfl (lW 0 z aW 1 i (((j+((lim a).getD i 0):Nat)+((lim b).getD i 0):Nat)%4294967296:Nat) e oM (fun _ e=>?_));have Y:((z).set i (((j+((lim a).getD i 0):Nat)+((lim b).getD i 0):Nat)%4294967296:Nat)).length=(((max (lim a).length (lim b).length):Nat)+1:Nat):=by rw[Jt];exact p
 replace e:=e.to [⟨x,161,((z).set i (((j+((lim a).getD i 0):Nat)+((lim b).getD i 0):Nat)%4294967296:Nat)).flatMap aW⟩] [];refine lN (kQ (lL e ac (lV 37 (mV (((j+((lim a).getD i 0):Nat)+((lim b).getD i 0):Nat)/4294967296)) ?_ (hr:=aN (n:=JF (((j+((lim a).getD i 0):Nat)+((lim b).getD i 0):Nat):Int) 4294967296) kR (dH _ 4294967296)))));refine lL e ac (lN (kQ (lL e ac (bg 21 ((i:Nat)+1) (i+1) ?_))));refine lL e ac (lD ?_);intro a_ S;refine ⟨_,_,?_,⟨i+1,(z).set i (((j+((lim a).getD i 0):Nat)+((lim b).getD i 0):Nat)%4294967296:Nat),(((j+((lim a).getD i 0):Nat)+((lim b).getD i 0):Nat)/4294967296:Nat),W,rfl,rfl,e.to _ _,oM,Y,(L.set _ oM),oM,(by rw[wW (t:=(lim a).getD i 0+(lim b).getD i 0) oM (hz i (nR _)) y oM,aR,aR,zT];omega),(pS oM hz)⟩,S.to _ kR⟩
 omega
theorem kE (a:Nat)(A:Z9)(c:Nat)(hc:(lim a).length<=c)(b:Nat)(D:Z9)(d:Nat)(hd:(lim b).length<=d)(Y:(lim a).length<=4000000000)(hLb:(lim b).length<=4000000000)(I:b<=a)(w:World)(h:Hp)(g:G w h)(Z:S3 A (lim a) h)(hD:S3 D (lim b) h):CR 158 #[.slice A ((lim a).length) c,.slice D ((lim b).length) d] w h (fun v h1=>RN h1 v (a-b)):=by
 have e:=(((sS g).aS Z).aS hD);have hlm:=de I;refine go Tryz.func158 [(0,qS A ((lim a).length) c),(1,qS D ((lim b).length) d)] rfl (aa e ac (aE (lL e [.c,.v (nV ((lim a).length))] (lK 11 161 ((lim a).length) 1 4 (uW 0) aW 0 e (fun x w2 h3 e=>?_)))));have O:(ta ((lim a).length) 0).length=((lim a).length):=by simp
 refine lL e ac (aE (lL e ac (ai (aa e ac (bE ?_)))));refine bG _ (CG.loop (fun L Γ W=>∃ (i:Nat)(z:List Nat)(j:Nat)(h_:Hp),L=(lim a).length-i/\Γ=[(0,qS A ((lim a).length) c),(1,qS D ((lim b).length) d),(4,sZ),(5,qS (sB x) ((lim a).length) ((lim a).length)),(7,nV i),(6,mV j)]/\SS w h W h_ [⟨x,161,(z).flatMap aW⟩] [] [S3 D (lim b),S3 A (lim a)]/\i<=(lim a).length/\z.length=(lim a).length/\Ld z/\j<=1/\am 4294967296 z+am 4294967296 ((lim b).take i)=am 4294967296 ((lim a).take i)+4294967296^i*j/\(∀ k,i<=k->z.getD k 0=0)) _ ⟨0,ta ((lim a).length) 0,0,h3,rfl,rfl,e.to _ _,JH _,O,Ld.rep _,oM,(by rw[di];simp[am]),fun k _=>dG⟩ ?_);rintro _ _ w5 ⟨i,z,j,h6,hm7,rfl,e,hi,p,S,Q,y,hz⟩;have K:=(Ld.lim a).get i;have J:=(Ld.lim b).get i;refine cQ (aa e [.c,.c,.v (nV ((lim a).length))] ?_);cases u:(decide ((i:Int)<(((lim a).length:Nat):Int)))
 .
  have C:=oF u;refine lB 15 u (ah (CG.exit ?_))
  show CG _ _ _ _ _ _ _ _
  refine aa e ac ?_;have M:i=(lim a).length:=by omega
  rw[I7 (show (lim a).length<=i by omega),I7 (show (lim b).length<=i by omega),cu,cu,M,<-p] at y
  have hE:am 4294967296 z=a-b:=xe S y I;obtain ⟨h9,e,H,V,U⟩:=e.pub 0;replace e:=(e.to [] []).aS (SlO.of_flat (sz:=1) (f:=aW) (d:=0) (b:=x) (o:=0) (l:=z) (fun _=>rfl) H);exact aq 37 e (iE (sB x) ((lim a).length) z ((lim a).length) p oM oM _ _ e.g e.f.1) (fun _ _ e=>lL e ac (af e [] (qS (sB x) (tl z ((lim a).length)) ((lim a).length)) (RN.trim S hE p (nR _) e.f.1)))
 have C:=oT u;refine lB 15 u (aj (cK (cQ (kZ (cQ (cR 11 [] mixed e aw ?_))))));refine eV 0 18 (qS A ((lim a).length) c) (eV 1 19 (nV i) (eX 2 20 A ((lim a).length) c 1 (i:Nat) i ((e.f.2.1).ok oM) (eH 3 21 (mW ((lim a).getD i 0)) e ((e.f.2.1).el i oM) (eV 4 22 (mV ((lim a).getD i 0)) ?_ (hv:=fun _=>rU ((((lim a).getD i 0:Nat):Int)) kR (az oM oM))))));refine eV 5 23 (qS D ((lim b).length) d) (eV 6 24 (nV i) (eV 9 27 (mV j) (aK 7 25 e (fun _ _ e=>FK D d (lim b) ((lim b).length) rfl i oM (Ld.lim _) _ _ e.g e.f.1) (fun _ _ e=>eV 8 26 (mV ((((lim a).getD i 0)+(18446744073709551616-((lim b).getD i 0)))%18446744073709551616)) ?_ (hv:=fun _=>rU (((((lim a).getD i 0:Nat):Int)-(((lim b).getD i 0:Nat):Int))) kR (j5 ((lim a).getD i 0) ((lim b).getD i 0) oM))))));refine eV 10 28 (mV ((((((lim a).getD i 0)+(18446744073709551616-((lim b).getD i 0)))%18446744073709551616:Nat)+(18446744073709551616-j))%18446744073709551616)) ?_ (hv:=fun _=>rU (((((((lim a).getD i 0)+(18446744073709551616-((lim b).getD i 0)))%18446744073709551616:Nat):Int)-(j:Int))) kR (j5 ((((lim a).getD i 0)+(18446744073709551616-((lim b).getD i 0)))%18446744073709551616:Nat) j oM));refine cG e (fun _ zb e=>tV 11 8 (mV ((((((lim a).getD i 0)+(18446744073709551616-((lim b).getD i 0)))%18446744073709551616:Nat)+(18446744073709551616-j))%18446744073709551616)) (Av ?_));obtain ⟨t,ht⟩:∃ t,t=((((((lim a).getD i 0)+(18446744073709551616-((lim b).getD i 0)))%18446744073709551616:Nat)+(18446744073709551616-j))%18446744073709551616:Nat):=⟨_,rfl⟩;obtain ⟨B,F⟩:=xF K J Q ht;rw[ht] at B F
 refine lL e dL (lV 32 (mW (((((((lim a).getD i 0)+(18446744073709551616-((lim b).getD i 0)))%18446744073709551616:Nat)+(18446744073709551616-j))%18446744073709551616:Nat)%4294967296)) ?_ (hr:=rT ((((((((lim a).getD i 0)+(18446744073709551616-((lim b).getD i 0)))%18446744073709551616:Nat)+(18446744073709551616-j))%18446744073709551616:Nat):Int)) kR (fV _)));refine lX 33 (sB x) ((lim a).length) ((lim a).length) 1 (i:Nat) i rfl (lW 0 z aW 1 i (((((((lim a).getD i 0)+(18446744073709551616-((lim b).getD i 0)))%18446744073709551616:Nat)+(18446744073709551616-j))%18446744073709551616:Nat)%4294967296:Nat) e oM (fun _ e=>?_));have za:((z).set i (((((((lim a).getD i 0)+(18446744073709551616-((lim b).getD i 0)))%18446744073709551616:Nat)+(18446744073709551616-j))%18446744073709551616:Nat)%4294967296:Nat)).length=((lim a).length):=by rw[Jt];exact p
 replace e:=e.to [⟨x,161,((z).set i (((((((lim a).getD i 0)+(18446744073709551616-((lim b).getD i 0)))%18446744073709551616:Nat)+(18446744073709551616-j))%18446744073709551616:Nat)%4294967296:Nat)).flatMap aW⟩] [];refine lN (kQ (lL e ac (lV 35 (mV (((((((lim a).getD i 0)+(18446744073709551616-((lim b).getD i 0)))%18446744073709551616:Nat)+(18446744073709551616-j))%18446744073709551616:Nat)/9223372036854775808)) ?_ (hr:=aN (n:=JF (((((((lim a).getD i 0)+(18446744073709551616-((lim b).getD i 0)))%18446744073709551616:Nat)+(18446744073709551616-j))%18446744073709551616:Nat):Int) 9223372036854775808) kR (dH _ 9223372036854775808)))));refine lL e ac (lN (kQ (lL e ac (bg 17 ((i:Nat)+1) (i+1) ?_))));refine lL e ac (lD ?_);intro a_ X;refine ⟨_,_,?_,⟨i+1,(z).set i (((((((lim a).getD i 0)+(18446744073709551616-((lim b).getD i 0)))%18446744073709551616:Nat)+(18446744073709551616-j))%18446744073709551616:Nat)%4294967296:Nat),(((((((lim a).getD i 0)+(18446744073709551616-((lim b).getD i 0)))%18446744073709551616:Nat)+(18446744073709551616-j))%18446744073709551616:Nat)/9223372036854775808:Nat),zb,rfl,rfl,e.to _ _,oM,za,(S.set _ oM),F,(AO oM (hz i (nR _)) y B),(pS oM hz)⟩,X.to _ kR⟩
 omega
theorem Ed {x y:Nat}(a:x<4294967296)(b:y<4294967296):x*y<=18446744065119617025:=Jq (show x<=4294967295 by omega) (show y<=4294967295 by omega)
theorem p3 {a b q r:Nat}(h:a=b*q+r)(hr:r<b):q=a/b/\r=a%b:=by
 subst h;rw[Jv oM,y9 hr,Nat.mul_add_mod,tv hr];simp
theorem mO {l:List Nat}{k j x:Nat}(a:k<l.length)(h:∀ i,j<=i->l.getD i 0=0)(b:k<j):∀ i,j<=i->(l.set k x).getD i 0=0:=fun i hi=>by rw[bC a,if_neg oM];exact h i hi
theorem i7 (a:Nat)(A:Z9)(c:Nat)(hc:(lim a).length<=c)(b:Nat)(D:Z9)(d:Nat)(hd:(lim b).length<=d)(hLa:(lim a).length<=4000000000)(hLb:(lim b).length<=4000000000)(w:World)(h:Hp)(g:G w h)(hA:S3 A (lim a) h)(hD:S3 D (lim b) h):CR 97 #[.slice A ((lim a).length) c,.slice D ((lim b).length) d] w h (fun v h1=>RN h1 v (a*b)):=by
 have e:=(((sS g).aS hA).aS hD);refine go Tryz.func97 [(0,qS A ((lim a).length) c),(1,qS D ((lim b).length) d)] rfl (aa e ac (aE (lL e [.c,.v (nV ((lim a).length)),.c,.v (nV ((lim b).length))] (bg 13 (((lim a).length:Nat)+((lim b).length:Nat)) (((lim a).length)+((lim b).length)) ?_))));refine lK 14 161 (((lim a).length)+((lim b).length):Nat) 1 4 (uW 0) aW 0 e (fun u w2 h3 e=>?_);have V:(ta (((lim a).length)+((lim b).length):Nat) 0).length=(((lim a).length)+((lim b).length):Nat):=by simp
 refine lL e ac (ai (aa e ac (bE ?_)));refine bG _ (CG.loop (fun C Γ M=>∃ (i:Nat)(l:List Nat)(h_:Hp),C=(lim a).length-i/\Γ=[(0,qS A ((lim a).length) c),(1,qS D ((lim b).length) d),(4,sZ),(5,qS (sB u) (((lim a).length)+((lim b).length):Nat) (((lim a).length)+((lim b).length):Nat)),(6,nV i)]/\SS w h M h_ [⟨u,161,(l).flatMap aW⟩] [] [S3 D (lim b),S3 A (lim a)]/\i<=(lim a).length/\l.length=(lim a).length+(lim b).length/\Ld l/\am 4294967296 l=am 4294967296 ((lim a).take i)*b/\(∀ k,i+(lim b).length<=k->l.getD k 0=0)) _ ⟨0,ta (((lim a).length)+((lim b).length):Nat) 0,h3,rfl,rfl,e.to _ _,JH _,V,Ld.rep _,(by rw[di];simp[am]),fun k _=>dG⟩ ?_);rintro _ _ w5 ⟨i,l,h6,hm7,rfl,e,hi,z,hW,hv,hz⟩;have Q:=(Ld.lim a).get i;refine cQ (aa e [.c,.c,.v (nV ((lim a).length))] ?_);cases x:(decide ((i:Int)<(((lim a).length:Nat):Int)))
 .
  have I:=oF x;refine lB 18 x (ah (CG.exit ?_))
  show CG _ _ _ _ _ _ _ _
  refine aa e ac ?_;have W:i=(lim a).length:=by omega
  rw[W,r9,cu] at hv
  have hE:am 4294967296 l=a*b:=hv;obtain ⟨h9,e,J,Z,Y⟩:=e.pub 0;replace e:=(e.to [] []).aS (SlO.of_flat (sz:=1) (f:=aW) (d:=0) (b:=u) (o:=0) (l:=l) (fun _=>rfl) J);exact aq 66 e (iE (sB u) (((lim a).length)+((lim b).length):Nat) l (((lim a).length)+((lim b).length):Nat) z oM oM _ _ e.g e.f.1) (fun _ _ e=>lL e ac (af e [] (qS (sB u) (tl l (((lim a).length)+((lim b).length):Nat)) (((lim a).length)+((lim b).length):Nat)) (RN.trim hW hE z (nR _) e.f.1)))
 have I:=oT x;refine lB 18 x (aj (cK (cQ (kZ (aa e ac (ai (aa e ac (bE ?_))))))));refine bG _ (CG.loop (fun C Γ M=>∃ (j:Nat)(l2:List Nat)(p:Nat)(h_:Hp),C=(lim b).length-j/\Γ=[(0,qS A ((lim a).length) c),(1,qS D ((lim b).length) d),(4,sZ),(5,qS (sB u) (((lim a).length)+((lim b).length):Nat) (((lim a).length)+((lim b).length):Nat)),(6,nV i),(8,nV j),(7,mV p)]/\SS w h M h_ [⟨u,161,(l2).flatMap aW⟩] [] [S3 D (lim b),S3 A (lim a)]/\j<=(lim b).length/\l2.length=(lim a).length+(lim b).length/\Ld l2/\p<4294967296/\am 4294967296 l2+4294967296^(i+j)*p=am 4294967296 l+4294967296^i*((lim a).getD i 0*am 4294967296 ((lim b).take j))/\(∀ k,i+(lim b).length<=k->l2.getD k 0=0)) _ ⟨0,l,0,h6,rfl,rfl,e.to _ _,JH _,z,hW,by omega,(by simp[am]),hz⟩ ?_);rintro _ _ _ ⟨j,l2,p,ze,X,rfl,e,hj,y,F,hcy,H,B⟩;have O:=(Ld.lim b).get j;have hlk:=F.get (i+j);have hxy:=Ed Q O;refine cQ (aa e [.c,.c,.v (nV ((lim b).length))] ?_);cases L:(decide ((j:Int)<(((lim b).length:Nat):Int)))
 .
  have zb:=oF L;refine lB 24 L (ah (CG.exit ?_))
  show CG _ _ _ _ _ _ _ _
  refine kQ (lL e [.c,.c,.c,.v (nV ((lim b).length))] (bg 61 ((i:Nat)+((lim b).length:Nat)) (i+((lim b).length)) ?_));refine lL e ac (lV 63 (mW (p%4294967296)) ?_ (hr:=rT ((p:Int)) kR (fV _)));refine lX 64 (sB u) (((lim a).length)+((lim b).length):Nat) (((lim a).length)+((lim b).length):Nat) 1 (i+((lim b).length):Nat) (i+((lim b).length):Nat) rfl (lW 0 l2 aW 1 (i+((lim b).length):Nat) (p%4294967296) e oM (fun _ e=>?_));have zc:((l2).set (i+((lim b).length):Nat) (p%4294967296)).length=(((lim a).length)+((lim b).length):Nat):=by rw[Jt];exact y
  replace e:=e.to [⟨u,161,((l2).set (i+((lim b).length):Nat) (p%4294967296)).flatMap aW⟩] [];refine lN (kQ (lL e ac (bg 20 ((i:Nat)+1) (i+1) ?_)));refine lL e ac (lD ?_);intro a_ S;refine ⟨_,_,?_,⟨i+1,(l2).set (i+((lim b).length):Nat) (p%4294967296),ze,rfl,rfl,e.to _ _,oM,zc,(F.set _ oM),(by have U:j=(lim b).length:=oM;rw[U] at H;have K:=sJ oM H (B _ oM);rw[cu] at K;rw[show p%4294967296=p by omega];exact K.trans (rY hv)),(mO oM (fun k hk=>B k oM) oM)⟩,S.to _ kR⟩
  omega
 have zb:=oT L;refine lB 24 L (aj (cK (cQ (kZ (cQ (cR 21 [] mixed e aw ?_))))));refine eV 0 27 (mV p) (eV 1 28 (qS (sB u) (((lim a).length)+((lim b).length):Nat) (((lim a).length)+((lim b).length):Nat)) (eV 2 29 (nV i) (eV 3 30 (nV j) (iO 4 31 ((i:Nat)+(j:Nat)) (i+j) (eX 5 32 (sB u) (((lim a).length)+((lim b).length):Nat) (((lim a).length)+((lim b).length):Nat) 1 (i+j:Nat) (i+j) rfl (eQ 6 33 0 l2 aW 1 0 (i+j) (mW ((l2).getD (i+j) 0)) e oM (eV 7 34 (mV ((l2).getD (i+j) 0)) ?_ (hv:=fun _=>rU ((((l2).getD (i+j) 0:Nat):Int)) kR (az oM oM)))))))));refine eV 8 35 (mV (p+((l2).getD (i+j) 0))) ?_ (hv:=fun _=>rU (((p:Int)+(((l2).getD (i+j) 0:Nat):Int))) kR (dr p ((l2).getD (i+j) 0) oM));refine eV 9 36 (qS A ((lim a).length) c) (eV 10 37 (nV i) (eX 11 38 A ((lim a).length) c 1 (i:Nat) i ((e.f.2.1).ok oM) (eH 12 39 (mW ((lim a).getD i 0)) e ((e.f.2.1).el i oM) (eV 13 40 (mV ((lim a).getD i 0)) ?_ (hv:=fun _=>rU ((((lim a).getD i 0:Nat):Int)) kR (az oM oM))))));refine eV 14 41 (qS D ((lim b).length) d) (eV 15 42 (nV j) (eX 16 43 D ((lim b).length) d 1 (j:Nat) j ((e.f.1).ok oM) (eH 17 44 (mW ((lim b).getD j 0)) e ((e.f.1).el j oM) (eV 18 45 (mV ((lim b).getD j 0)) ?_ (hv:=fun _=>rU ((((lim b).getD j 0:Nat):Int)) kR (az oM oM))))));refine eV 19 46 (mV (((lim a).getD i 0)*((lim b).getD j 0))) ?_ (hv:=fun _=>rU (((((lim a).getD i 0:Nat):Int)*(((lim b).getD j 0:Nat):Int))) kR (fu ((lim a).getD i 0) ((lim b).getD j 0) oM));refine eV 20 47 (mV ((p+((l2).getD (i+j) 0):Nat)+(((lim a).getD i 0)*((lim b).getD j 0):Nat))) ?_ (hv:=fun _=>rU ((((p+((l2).getD (i+j) 0):Nat):Int)+((((lim a).getD i 0)*((lim b).getD j 0):Nat):Int))) kR (dr (p+((l2).getD (i+j) 0):Nat) (((lim a).getD i 0)*((lim b).getD j 0):Nat) oM));refine cG e (fun _ zf e=>tV 21 7 (mV ((p+((l2).getD (i+j) 0):Nat)+(((lim a).getD i 0)*((lim b).getD j 0):Nat))) (Av (lL e dL (bg 51 ((i:Nat)+(j:Nat)) (i+j) ?_))));refine lL e ac (lV 53 (mW (((p+((l2).getD (i+j) 0):Nat)+(((lim a).getD i 0)*((lim b).getD j 0):Nat):Nat)%4294967296)) ?_ (hr:=rT ((((p+((l2).getD (i+j) 0):Nat)+(((lim a).getD i 0)*((lim b).getD j 0):Nat):Nat):Int)) kR (fV _)));refine lX 54 (sB u) (((lim a).length)+((lim b).length):Nat) (((lim a).length)+((lim b).length):Nat) 1 (i+j:Nat) (i+j) rfl (lW 0 l2 aW 1 (i+j) (((p+((l2).getD (i+j) 0):Nat)+(((lim a).getD i 0)*((lim b).getD j 0):Nat):Nat)%4294967296:Nat) e oM (fun _ e=>?_));have zd:((l2).set (i+j) (((p+((l2).getD (i+j) 0):Nat)+(((lim a).getD i 0)*((lim b).getD j 0):Nat):Nat)%4294967296:Nat)).length=(((lim a).length)+((lim b).length):Nat):=by rw[Jt];exact y
 replace e:=e.to [⟨u,161,((l2).set (i+j) (((p+((l2).getD (i+j) 0):Nat)+(((lim a).getD i 0)*((lim b).getD j 0):Nat):Nat)%4294967296:Nat)).flatMap aW⟩] [];refine lN (kQ (lL e ac (lV 56 (mV (((p+((l2).getD (i+j) 0):Nat)+(((lim a).getD i 0)*((lim b).getD j 0):Nat):Nat)/4294967296)) ?_ (hr:=aN (n:=JF (((p+((l2).getD (i+j) 0):Nat)+(((lim a).getD i 0)*((lim b).getD j 0):Nat):Nat):Int) 4294967296) kR (dH _ 4294967296)))));refine lL e ac (lN (bG [(0,qS A ((lim a).length) c),(1,qS D ((lim b).length) d),(4,sZ),(5,qS (sB u) (((lim a).length)+((lim b).length):Nat) (((lim a).length)+((lim b).length):Nat)),(6,nV i),(8,nV j),(7,mV (((p+((l2).getD (i+j) 0):Nat)+(((lim a).getD i 0)*((lim b).getD j 0):Nat):Nat)/4294967296))] ?_));refine kQ (lL e ac (bg 26 ((j:Nat)+1) (j+1) ?_));refine lL e ac (lD ?_);intro a_ S;refine ⟨_,_,?_,⟨j+1,(l2).set (i+j) (((p+((l2).getD (i+j) 0):Nat)+(((lim a).getD i 0)*((lim b).getD j 0):Nat):Nat)%4294967296:Nat),(((p+((l2).getD (i+j) 0):Nat)+(((lim a).getD i 0)*((lim b).getD j 0):Nat):Nat)/4294967296:Nat),zf,rfl,rfl,e.to _ _,oM,zd,(F.set _ oM),oM,(lp oM H oM),(mO oM B oM)⟩,S.to _ kR⟩
 omega
theorem G0 (a:Nat)(A:Z9)(c:Nat)(hc:(lim a).length<=c)(Y:(lim a).length<=4000000000)(d:Nat)(I:0<d)(hd:d<4294967296)(w:World)(h:Hp)(g:G w h)(Z:S3 A (lim a) h):CR 200 #[.slice A ((lim a).length) c,mW d] w h (fun v h1=>∃ U,∃ r:Nat,v=.tuple #[U,mW r]/\RN h1 U (a/d)/\r=a%d):=by
 have e:=((sS g).aS Z);refine go Tryz.func200 [(0,qS A ((lim a).length) c),(1,mW d)] rfl (aa e aF (aE (lL e [.c,.v (nV ((lim a).length))] (lK 11 161 ((lim a).length) 1 4 (uW 0) aW 0 e (fun j w2 h3 e=>?_)))));have Q:(ta ((lim a).length) 0).length=((lim a).length):=by simp
 refine lL e ac (aE (lL e ac (ai (aa e [.c,.v (nV ((lim a).length))] (lV 14 (iV ((((lim a).length:Nat):Int)-1)) ?_ (hr:=rS ((((lim a).length:Nat)-1)) kR ((dS oM oM).trans oM)))))));refine lL e ac (bE ?_);refine bG _ (CG.loop (fun L Γ w_=>∃ (m:Nat)(z:List Nat)(r:Nat)(h_:Hp),L=m/\Γ=[(0,qS A ((lim a).length) c),(1,mW d),(4,sZ),(5,uW 0),(6,qS (sB j) ((lim a).length) ((lim a).length)),(8,iV ((m:Int)-1)),(7,mV r)]/\SS w h w_ h_ [⟨j,161,(z).flatMap aW⟩] [] [S3 A (lim a)]/\m<=(lim a).length/\z.length=(lim a).length/\Ld z/\a=d*am 4294967296 z+(4294967296^m*r+am 4294967296 ((lim a).take m))/\r<d/\(∀ k,k<m->z.getD k 0=0)) _ ⟨(lim a).length,ta ((lim a).length) 0,0,h3,rfl,rfl,e.to _ _,nR _,Q,Ld.rep _,(by rw[di,r9,cu];simp),I,fun k _=>dG⟩ ?_);rintro _ _ w5 ⟨m,z,r,h6,hm7,rfl,e,hm,p,S,B,hr,hz⟩;have D:=(Ld.lim a).get (m-1);refine cQ (aa e ac ?_);cases i:(decide ((0:Int)<=((m:Int)-1:Int)))
 .
  have F:=oF i;refine lB 16 i (ah (CG.exit ?_))
  show CG _ _ _ _ _ _ _ _
  refine aa e ac ?_;have M:m=0:=by omega
  rw[M,JI,I8,List.take_zero] at B
  have H:a=d*am 4294967296 z+r:=by simpa [am] using B
  obtain ⟨K,O⟩:=p3 H hr;have hE:am 4294967296 z=a/d:=K;obtain ⟨h9,e,J,W,V⟩:=e.pub 0;replace e:=(e.to [] []).aS (SlO.of_flat (sz:=1) (f:=aW) (d:=0) (b:=j) (o:=0) (l:=z) (fun _=>rfl) J);refine aq 40 e (iE (sB j) ((lim a).length) z ((lim a).length) p oM oM _ _ e.g e.f.1) (fun _ _ e=>lL e ac (lV 42 (mW r) ?_ (hr:=aN (aN (n:=IntKind.wrap .u32 (r:Int)) kR (fV _)) oM)));exact lL e aF (af e [] (.tuple #[qS (sB j) (tl z ((lim a).length)) ((lim a).length),mW r]) (⟨_,r,rfl,RN.trim S hE p (nR _) e.f.1,O⟩))
 have F:=oT i;refine lB 16 i (aj (cK (cQ (kZ (aa e ac (lV 20 (mV (r*4294967296%18446744073709551616)) ?_ (hr:=rU (((r:Int)*4294967296)) kR (iQ r 4294967296))))))));refine lL e aF (lX 23 A ((lim a).length) c 1 ((m:Int)-1) (m-1) ((e.f.1).ok oM) ?_);refine lH 24 (mW ((lim a).getD (m-1) 0)) e ((e.f.1).el (m-1) oM) (lV 25 (mV ((lim a).getD (m-1) 0)) ?_ (hr:=rU ((((lim a).getD (m-1) 0:Nat):Int)) kR (az oM oM)));refine lV 26 (mV (r*4294967296+(lim a).getD (m-1) 0)) ?_ (hr:=aN (gl (t:=24) (u:=24) (x:=.tmp 20) (y:=.tmp 25) (a:=(r*4294967296%18446744073709551616)) (b:=((lim a).getD (m-1) 0)) kR kR kR oM oM _) (by rw[tv (show r*4294967296<18446744073709551616 by omega),qR D]));refine lL e ac (aE (lL e m4 (lV 31 (mV d) ?_ (hr:=rU ((d:Int)) kR (az oM oM)))));have C:=tS (r:=r) (x:=(lim a).getD (m-1) 0) I hr D hd;refine lV 32 (mV ((r*4294967296+(lim a).getD (m-1) 0)/d)) ?_ (hr:=aN (cZ (t:=24) (u:=24) (x:=.tmp 29) (y:=.tmp 31) (k:=.u64) (a:=((r*4294967296+(lim a).getD (m-1) 0:Nat):Int)) (b:=(d:Int)) kR kR kR oM _) (jT (r*4294967296+(lim a).getD (m-1) 0) d oM));refine lV 33 (mW (((r*4294967296+(lim a).getD (m-1) 0)/d:Nat)%4294967296)) ?_ (hr:=rT ((((r*4294967296+(lim a).getD (m-1) 0)/d:Nat):Int)) kR (fV _));refine lX 34 (sB j) ((lim a).length) ((lim a).length) 1 ((m:Int)-1) (m-1) rfl (lW 0 z aW 1 (m-1) (((r*4294967296+(lim a).getD (m-1) 0)/d:Nat)%4294967296:Nat) e oM (fun _ e=>?_));have za:((z).set (m-1) (((r*4294967296+(lim a).getD (m-1) 0)/d:Nat)%4294967296:Nat)).length=((lim a).length):=by rw[Jt];exact p
 replace e:=e.to [⟨j,161,((z).set (m-1) (((r*4294967296+(lim a).getD (m-1) 0)/d:Nat)%4294967296:Nat)).flatMap aW⟩] [];refine lN (kQ (lL e aF (lV 37 (mV d) ?_ (hr:=rU ((d:Int)) kR (az oM oM)))));refine lV 38 (mV ((r*4294967296+(lim a).getD (m-1) 0)%d)) ?_ (hr:=aN (dV (t:=24) (u:=24) (x:=.tmp 35) (y:=.tmp 37) (k:=.u64) (a:=((r*4294967296+(lim a).getD (m-1) 0:Nat):Int)) (b:=(d:Int)) kR kR kR oM _) (cM (r*4294967296+(lim a).getD (m-1) 0) d));refine lL e ac (lN (kQ (lL e ac (lV 18 (iV (((m-1:Nat):Int)-1)) ?_ (hr:=rS ((((m:Int)-1)-1)) kR ((dS oM oM).trans oM))))));refine lL e ac (lD ?_);intro a_ X;refine ⟨_,_,?_,⟨m-1,(z).set (m-1) (((r*4294967296+(lim a).getD (m-1) 0)/d:Nat)%4294967296:Nat),((r*4294967296+(lim a).getD (m-1) 0)%d:Nat),h6,rfl,rfl,e.to _ _,oM,za,(S.set _ (ua _ kD)),(by rw[C.1];exact vm oM oM (hz _ oM) B C.2.1),C.2.2,(fun k hk=>by rw[bC oM,if_neg oM];exact hz k oM)⟩,X.to _ kR⟩
 omega
theorem qH {B:List Bx}:∀ (ps:List (Nat × Nat × Nat)) (q:Nat) (a:Addr),(bO B ps)[q]?=some a->∃ p∈ps,a.block=(aA B p.1).b:=by
  intro ps
  induction ps with
  | nil=>intro q a h;simp[bO] at h
  | cons p ps ih =>
    intro q a h
    unfold bO at h
    rcases co q (kI (aA B p.1).b p.2.1 p.2.2).length with hl|hl
    . rw[p0 hl] at h
      exact ⟨p,by simp,by rw[d8 _ _ _ _ _ h]⟩
    . rw[ql hl] at h
      obtain ⟨d,c,e⟩:=ih _ _ h;exact ⟨d,by simp[c],e⟩
section
variable {M:Ms}{P:Program}{n:Nat}{N R:Po}{X:Nat->Po}{ops:Array Oper}{k k0:Nat}{L:Array Bool}{Γ:ck}{w:World}{h:Hp}{w0:World}{h0:Hp}{B:List Bx}{Rs:List Rw}{F:List (Hp->Prop)}
theorem GF {α:Type}(j:Nat)(l:List α)(f:α->List Value)(sz e:Nat)(x:α)(s:SS w0 h0 w h B Rs F)(o:e<l.length)(H:∀ w',Put (aA B j).b w w'->SS w0 h0 w' h (gB B j ((l.set e x).flatMap f)) Rs F->LG P n N R X ops (k+1) Γ w')(c:cS ops Γ k=true:=by kernel_rfl)
  (a:decide (j<B.length)=true:=by kernel_rfl)(hB:(aA B j).vs=l.flatMap f:=by kernel_rfl)(hf:∀ x,(f x).length=sz:=by intro _;rfl)
  (i:dq P (execOp (ev Γ) (av ops k))=some (.skip,mj (aA B j).b (0+e*sz) (f x)):=by kernel_rfl):LG P n N R X ops k Γ w :=
 LG.putA j l f sz e x s.st s.g0 (kl c).1 (kl c).2 a hB hf o i (fun w' p d=>H w' p (s.put0 (oT a) p d (jJ (oT a))))
theorem IX {α:Type}(i j:Nat)(l:List α)(f:α->List Value)(sz e:Nat)(x:α)(s:SS w0 h0 w h B Rs F)(d:e<l.length)(H:∀ w',Put (aA B j).b w w'->SS w0 h0 w' h (gB B j ((l.set e x).flatMap f)) Rs F->AG M P n N R X ops k0 (L.setIfInBounds i true) Γ w')(c:FL ops k0 L Γ i=true:=by kernel_rfl)
  (a:decide (j<B.length)=true:=by kernel_rfl)(hB:(aA B j).vs=l.flatMap f:=by kernel_rfl)(hf:∀ x,(f x).length=sz:=by intro _;rfl)
  (k:dq P (execOp (ev Γ) (av ops i))=some (.skip,mj (aA B j).b (0+e*sz) (f x)):=by kernel_rfl)(hz:∀ K bs,M.z=some (K,bs)->K<=(aA B j).b\/(aA B j).b∈bs:=by intro _ _ e;cases e):AG M P n N R X ops k0 L Γ w :=
 T.putA i j l f sz e x s.st s.g0 (j7 c).1 (j7 c).2 a hB hf d k (fun w' p o=>H w' p (s.put0 (oT a) p o (jJ (oT a)))) hz
theorem aQ {α:Type}(i t j:Nat)(l:List α)(f:α->List Value)(sz:Nat)(d:α)(e:Nat)(v:Value)(s:SS w0 h0 w h B Rs F)(p:e<l.length)(H:AG M P n N R X ops k0 (L.setIfInBounds i true) ((t,v)::Γ) w)(hM:(aA B j).b ∉ M.l:=by exact List.not_mem_nil)(c:AB n ops k0 [] L Γ i t=true:=by kernel_rfl)
  (o:decide (j<B.length)=true:=by kernel_rfl)(hB:(aA B j).vs=l.flatMap f:=by kernel_rfl)(hf:∀ x,(f x).length=sz:=by intro _;rfl)
  (y:bP P (execOp (ev Γ) (av ops i)) (f (l.getD e d))=some (.value v,kI (aA B j).b (0+e*sz) (f (l.getD e d)).length):=by kernel_rfl):AG M P n N R X ops k0 L Γ w :=
 aL i t v (fun w' k=>bH _ _ _ _ y (fun q a u ha hu=>by
  rw[d8 _ _ _ _ _ ha,((s.st.own _ (bA (oT o))).mo k hM).cell,hB];rw[<-fb hf d l e p] at hu
  have z:q<sz:=by
   rcases co q sz with hl|hl
   ·exact hl
   ·rw[o1 (by simp;omega)] at hu;cases hu
  rw[p1 z,p2] at hu
  rw[s4];exact hu)) H c
theorem vO (t j:Nat){f:FuncId}{args:Array Value}{Φ:Value->Prop}(s:SS w0 h0 w h B Rs F)(c:∀ hp,G w hp->AllF F hp->Seg hp (aA B j).b 0 (aA B j).vs->Calls P f args w (Ret w hp (fun v _=>Φ v)))(H:∀ v w' a,Up w h w' a->SS w0 h0 w' a B Rs F->Φ v->LG P n N R X ops (k+1) ((t,v)::Γ) w')(i:decide (j<B.length)=true:=by kernel_rfl)(e:cL ops Γ k t n=true:=by kernel_rfl)(hr:(execOp (ev Γ) (av ops k)).run P w=.ok (.enter f args) w:=by kernel_rfl):LG P n N R X ops k Γ w :=
 d7 t (s.lends (oT i) c) (fun v w' a u d=>H v w' a u (s.step u) d) e hr
theorem SS.lends2 (s:SS w0 h0 w h B Rs F){i j:Nat}(hi:i<B.length)(H:j<B.length)(p:i≠j){f:FuncId}{args:Array Value}{Φ:Value->Prop}(c:∀ a,G w a->AllF F a->Seg a (aA B i).b 0 (aA B i).vs->Seg a (aA B j).b 0 (aA B j).vs->Calls P f args w (Ret w a (fun v _=>Φ v))):Calls P f args w (Ret w h (fun v _=>Φ v)):=by
 have o:=bA hi;have k:=bA H;have O:(aA B j).b≠(aA B i).b:=cB s.st (decide_eq_true H) (decide_eq_true hi) (by simpa using p.symm);obtain ⟨a,g,gw,K,I⟩:=AU s.g (s.st.jk _ o) (s.st.own _ o);have l:a[(aA B j).b]?=some junk:=by rw[I _ O];exact s.st.jk _ k
 obtain ⟨x,D,d,C,z⟩:=AU g l (s.st.own _ k);refine (c x D ((s.f.gw s.mo gw).gw s.mo d) (K.gw d) C).mono ?_;rintro e w' ⟨v,Q,M,u,y⟩;obtain ⟨h1,u1⟩:=rt l z (g.sz D) u;obtain ⟨L,J⟩:=rt (s.st.jk _ o) I (s.g.sz g) u1;exact ⟨v,L,M,J,y⟩
theorem H0 (t i j:Nat){f:FuncId}{args:Array Value}{Φ:Value->Prop}(s:SS w0 h0 w h B Rs F)(c:∀ hp,G w hp->AllF F hp->Seg hp (aA B i).b 0 (aA B i).vs->Seg hp (aA B j).b 0 (aA B j).vs->Calls P f args w (Ret w hp (fun v _=>Φ v)))(H:∀ v w' h',SS w0 h0 w' h' B Rs F->Φ v->LG P n N R X ops (k+1) ((t,v)::Γ) w')(a:(decide (i<B.length) && decide (j<B.length) && (i != j))=true:=by kernel_rfl)(d:cL ops Γ k t n=true:=by kernel_rfl)(hr:(execOp (ev Γ) (av ops k)).run P w=.ok (.enter f args) w:=by kernel_rfl):LG P n N R X ops k Γ w:=by
 simp only[hI,decide_eq_true_eq,bne_iff_ne,ne_eq] at a
 exact lC t s (s.lends2 a.1.1 a.1.2 a.2 c) H d hr
theorem BS {w w':World}{h j f:Hp}{b:Nat}{M:List Nat}(l:h[b]?=some junk)(o:∀ c,c≠b->j[c]?=h[c]?)(i:j.size=h.size)(u:UpM M w j w' f):∃ d,UpM M w h w' d/\(∀ c,c≠b->d[c]?=f[c]?):=by
 have p:=aI l;have a:b<f.size:=ep oM u.gr.size;refine ⟨f.setIfInBounds b junk,⟨u.mo,⟨by simp;rw[<-i];exact u.gr.size,fun c k=>?_⟩,⟨by simp;exact u.g.size,fun c=>?_⟩⟩,fun c k=>g6 (Ne.symm k)⟩
 ·by_cases e:b=c
  ·subst e;rw[u9 a,l]
  ·rw[g6 e,u.gr.blk c oM,o c (Ne.symm e)]
 ·by_cases e:b=c
  ·subst e;right;rw[u9 a]
  ·rw[g6 e];exact u.g.blk c
theorem Gd (t i j:Nat){f:FuncId}{args:Array Value}{Φ:Value->World->Prop}(s:SS w0 h0 w h B Rs F)(c:∀ d,G w d->AllF F d->d[(aA B i).b]?=some junk->Seg d (aA B j).b 0 (aA B j).vs->Calls P f args w (bW (aA B i).b w d (fun v w' _=>Φ v w')))(H:∀ v w' o,UpM [(aA B i).b] w h w' o->Φ v w'->LG P n N R X ops (k+1) ((t,v)::Γ) w')(a:(decide (i<B.length) && decide (j<B.length) && (i != j))=true:=by kernel_rfl)(C:cL ops Γ k t n=true:=by kernel_rfl)(hr:(execOp (ev Γ) (av ops k)).run P w=.ok (.enter f args) w:=by kernel_rfl):LG P n N R X ops k Γ w:=by
 simp only[hI,decide_eq_true_eq,bne_iff_ne,ne_eq] at a
 have x:=bA a.1.2;have I:(aA B i).b≠(aA B j).b:=cB s.st (decide_eq_true a.1.1) (decide_eq_true a.1.2) (by simpa using a.2);obtain ⟨d,g,gw,z,y⟩:=AU s.g (s.st.jk _ x) (s.st.own _ x);refine bj (rb:=(aA B i).b) (Φ:=fun v w' _=>Φ v w') (h:=h) t ((c d g (s.f.gw s.mo gw) (by rw[y _ I];exact s.st.jk _ (bA a.1.1)) z).mono ?_) (fun v w' o u l=>H v w' o u l) C hr;rintro e w' ⟨v,o,D,u,l⟩;obtain ⟨p,J,_⟩:=BS (s.st.jk _ x) y (s.g.sz g) u;exact ⟨v,p,D,J,l⟩
theorem IQ {α:Type}(t j:Nat)(x y:Operand)(D e:TypeId)(f:α->List Value)(d:α)(A:Z9)(l2:List α)(m m2 c V:Nat)(s:SS w0 h0 w h B Rs F)(so:SlO 1 f d h A l2)(O:l2.length=m2)(M:m2=m)(S:0<m)(i:(aA B j).vs.length=m)
  (H:∀ w',SS w0 h0 w' h (gB B j (l2.flatMap f)) Rs F->LG P n N R X ops (k+1) ((t,.int .i64 (m:Nat))::Γ) w')(Q:m<=1099511627776:=by omega)(I:cL ops Γ k t n=true:=by kernel_rfl)(hj:decide (j<B.length)=true:=by kernel_rfl)
  (hf:∀ x,(f x).length=1:=by intro _;rfl)(h1:∀ x,(f x).all (·.oneCell')=true:=by intro _;kernel_rfl)(ho:(av ops k).op=.call { callee:=.builtin .copy,args:=#[x,y],argTypes:=#[D,D] }:=by kernel_rfl)(hx:ev Γ x=.slice (some ⟨(aA B j).b,0,none⟩) m V:=by kernel_rfl)(U:ev Γ y=.slice A m2 c:=by kernel_rfl)
  (hu:P.underlying D=some (.slice e):=by kernel_rfl)(hi:(P.info? e).map (·.size)=some 1:=by kernel_rfl):LG P n N R X ops k Γ w:=by
 subst M;have Z:=O;have o:=oT hj;have z:=s.st.own _ (bA o);have C:(l2.flatMap f).length=m2:=by rw[db hf,Z];omega
 rw[so.ok oM] at U
 have l:=run_copy_row (P:=P) w D D (av ops k).type e (aA B j).b 0 m2 V ⟨aB A,aO A,none⟩ m2 c (aA B j).vs.toArray (aA B j).t (l2.flatMap f) hu hi z (by rw[C];exact (Nat.min_self m2).symm) (fW s.g (so.flat hf)) (by rw[C];simp[i]) (fun u hu=>by
  obtain ⟨a,_,ha⟩:=Jz.1 hu;exact (hS.1 (h1 a)) u ha)
 have W:((aA B j).vs.toArray.toList.take 0++l2.flatMap f++(aA B j).vs.toArray.toList.drop (0+(l2.flatMap f).length)).toArray=(l2.flatMap f).toArray:=by
  rw[C];simp[JA,i]
 rw[W,C] at l
 have p:Put (aA B j).b w (w.setRow (aA B j).b (l2.flatMap f).toArray):=⟨rfl,rfl,rfl,by simp,fun c I=>setRow_other _ _ _ _ I⟩
 have J:Own (w.setRow (aA B j).b (l2.flatMap f).toArray) (aA B j).b (aA B j).t (cj (aA B j).vs 0 (l2.flatMap f)):=by
  have L:cj (aA B j).vs 0 (l2.flatMap f)=l2.flatMap f:=by
   have:=jz (l2.flatMap f) (aA B j).vs [] (by rw[i,C])
   simpa using this
  rw[L];exact setRow_heap _ _ _ _ _ _ z
 have K:=s.st.put s.g0 o p J
 have L:cj (aA B j).vs 0 (l2.flatMap f)=l2.flatMap f:=by
  have:=jz (l2.flatMap f) (aA B j).vs [] (by rw[i,C])
  simpa using this
 unfold fO at K
 rw[L] at K
 refine LG.val t _ _ (bS I).1 (bS I).2 ?_ (H _ (s.put0 o p K (jJ o)))
 unfold execOp
 have Y:goInt m2=.int .i64 (m2:Nat):=rfl;rw[Y] at l
 simp only[ho,resolve,invoke,builtin,Sem.run_bind,Sem.run_pure,Result.andThen_ok,JD,un,JE,hx,U,l]
theorem oI {Q:Exit->Act->World->Prop}{i:Nat}{y:Oper}{v:Value}{S:World->Prop}(hi:ops[i]?=some y)(l:∀ (j:Nat) (o:Oper) cs b,ops[j]?=some o->o.op≠.select cs b)
    (hQ:∀ c a w,Q (.panic c) (a.put y.dst v) w->Q (.panic c) a w)(K:∀ w w',S w->Tl M w w'->S w') :
    ∀ (n:Nat) (L:Array Bool) (a:Act) (w:World),
      (∀ j x,ops[j]?=some x->j≠i->L.getD j true=false->(∀ e∈x.after,Region.binds .any e=true->e.on≠i)->y.apart ops x=true) ->
      i∈Region.ready .any ops L->YieldsIf P ops S y v a->S w->oo M P ops Q 0 n (L.setIfInBounds i true) (a.put y.dst v) w->oo M P ops Q 0 (n+1) L a w:=by
  intro n
  induction n with
  | zero =>
    intro L a w _ hr J D H;refine ⟨fun h=>(by rw[h] at hr;cases hr),fun j F=>?_⟩
    by_cases hji:j=i
    . subst hji;exact J.wpOp hi D ⟨Rl.refl _ _ _ _,H⟩
    . have:=ready_mono F hji
      rw[H.1] at this
      cases this
  | succ n ih =>
    intro L a w d hr J D H;refine ⟨fun h=>(by rw[h] at hr;cases hr),fun j F=>?_⟩
    by_cases hji:j=i
    . subst hji;exact J.wpOp hi D ⟨Rl.refl _ _ _ _,H⟩
    . have h1:=H.2 j (ready_mono F hji)
      obtain ⟨p,x,u,C⟩:=mem_ready.1 F
      have z:∀ e∈x.after,Region.binds .any e=true->e.on≠i:=fun e he hb U=>by
        have h1:=C e he hb;have h0:=(mem_ready.1 hr).1;rw[U] at h1
        obtain ⟨Y,W⟩:=ET h0
        simp[Array.getD,Y,W] at h1
      have h2:=wpOp_putIf u (d j x u hji p z) (fun cs b=>l i y cs b hi) (fun cs b=>l j x cs b u) hQ J h1
      have f:∀ k ok,ops[k]?=some ok->k≠i->(L.setIfInBounds j true).getD k true=false ->
          (∀ e∈ok.after,Region.binds .any e=true->e.on≠i)->y.apart ops ok=true:=fun k ok Z O B V=>by
        refine d k ok Z O ?_ V
        by_cases hjk:j=k
        . subst hjk;exact p
        . rw[getD_set_ne true hjk] at B;exact B
      refine wpOp_mono (fun X w' I=>⟨I.2.1,ih (L.setIfInBounds j true) X w' f (ready_mono hr (Ne.symm hji)) I.1 (K _ _ D (I.2.1.2 (JH _))) ?_⟩) h2;rw[Array.setIfInBounds_comm _ _ hji];exact I.2.2
def Bh (n:Nat)(ops:Array Oper)(L:Array Bool)(Γ:ck)(i t:Nat):Bool :=
  decide (i<ops.size) && Region.noSelect ops && Region.free .any ops L i && (Region.ready .any ops L).contains i && ((av ops i).dst == some t) && decide (t<n) && ba Γ (av ops i) && (bu ops Γ (av ops i) == some true)
theorem Dh (i t:Nat)(v:Value){S:World->Prop}(h:∀ w w',S w->Tl M w w'->S w')(u:S w)(hv:∀ w',S w'->(execOp (ev Γ) (av ops i)).run P w'=.ok (.value v) w')(H:AG M P n N R X ops 0 (L.setIfInBounds i true) ((t,v)::Γ) w)(d:Bh n ops L Γ i t=true):AG M P n N R X ops 0 L Γ w:=by
 unfold Bh at d
 simp only[hI,decide_eq_true_eq,beq_iff_eq] at d
 obtain ⟨⟨⟨⟨⟨⟨⟨h1,o⟩,K⟩,F⟩,I⟩,D⟩,x⟩,J⟩:=d;have hr:i∈Region.ready .any ops L:=by simpa using F
 have k:=bN (ops:=ops) h1;intro a e;have p:=e.exec (Region.noSelect_spec o i _ · · k) x;have z:=H _ (e.put D v)
 unfold A at *
 rw[d6 hr];refine oI (S:=S) k (Region.noSelect_spec o) (fun c a w C=>C.elim) h _ _ _ _ (fun j B y l f=>Region.free_spec k K j B y l f) hr (.inl ⟨e.want J,fun w' b=>by rw[p];exact hv w' b⟩) u ?_;rw[I];exact z
theorem zV (i t:Nat)(v:Value)(H:AG M P n N R X ops 0 (L.setIfInBounds i true) ((t,v)::Γ) w)(a:Bh n ops L Γ i t=true:=by kernel_rfl)(hv:∀ w,(execOp (ev Γ) (av ops i)).run P w=.ok (.value v) w:=by intro _;kernel_rfl):AG M P n N R X ops 0 L Γ w :=
 Dh i t v (S:=fun _=>True) (fun _ _ _ _=>trivial) trivial (fun w' _=>hv w') H a
theorem zO {K:Nat}(i t:Nat)(ps:List (Nat × Nat × Nat))(v:Value)(hz:M.z=some (K,[]))(o:K<=w.heap.size)(s:SS w0 h0 w h B Rs F)(f:∀ p∈ps,(aA B p.1).b<K)(H:AG M P n N R X ops 0 (L.setIfInBounds i true) ((t,v)::Γ) w)(k:Bh n ops L Γ i t=true:=by kernel_rfl)(y:bR B ps=true:=by kernel_rfl)(D:bP P (execOp (ev Γ) (av ops i)) (cg B ps)=some (.value v,bO B ps):=by kernel_rfl):AG M P n N R X ops 0 L Γ w :=
 Dh i t v (S:=fun w'=>K<=w'.heap.size/\∀ b,b<K->w'.heap[b]?=w.heap[b]?) (fun w1 w2 c I=>by
  obtain ⟨h1,C⟩:=I K [] hz;exact ⟨ed c.1 h1,fun b j=>(C b j List.not_mem_nil).trans (c.2 b j)⟩) ⟨o,fun _ _=>rfl⟩ (fun w' c=>bH _ _ _ _ D (fun q a u ha hu=>by
  obtain ⟨p,e,d⟩:=qH ps q a ha;have:=bQ (fun x l=>s.st.own x l) ps y q a u ha hu;rw[<-this]
  unfold World.cell?
  rw[c.2 _ (d▸f p e)])) H k
theorem zC (i t:Nat){f:FuncId}{args:Array Value}(c:Calls P f args w fun e w'=>∃ v,e=.returned v/\Tl M w w'/\AG M P n N R X ops 0 (L.setIfInBounds i true) ((t,v)::Γ) w')(h:(gR ops 0 L i && ba Γ (av ops i) && ((av ops i).dst == some t) && decide (t<n))=true:=by kernel_rfl)(k:bu ops Γ (av ops i)=some true:=by kernel_rfl)
  (hr:(execOp (ev Γ) (av ops i)).run P w=.ok (.enter f args) w:=by kernel_rfl):AG M P n N R X ops 0 L Γ w:=by
 simp only[hI,decide_eq_true_eq,beq_iff_eq] at h
 obtain ⟨⟨⟨h1,o⟩,u⟩,p⟩:=h;obtain ⟨j,l⟩:=jd h1;intro a b;refine A.one h1 j (R':=fun v w'=>Tl M w w'/\AG M P n N R X ops 0 (L.setIfInBounds i true) ((t,v)::Γ) w') ⟨b.want k,.inr (.inr ⟨f,args,?_,c⟩)⟩ (fun v w' d=>d.1) (fun v w' d=>?_)
 ·rw[b.exec (Region.noSelect_spec l i _ · · j) o];exact hr
 ·rw[u];exact d.2 _ (b.put p v)
theorem Fw {K:Nat}{w':World}(hz:M.z=some (K,[]))(a:K<=w.heap.size)(x:Ext w w'):Tl M w w':=fun d bs e=>by
 rw[hz] at e
 injection e with e;injection e with e1 e2
 subst e1 e2;exact ⟨x.size,fun b c _=>Below.block x b oM⟩
theorem He {K b:Nat}{w':World}(hz:M.z=some (K,[]))(a:K<=w.heap.size)(f:K<=b)(x:Mo [b] w w'):Tl M w w':=fun h bs e=>by
 rw[hz] at e
 injection e with e;injection e with e1 e2
 subst e1 e2;exact ⟨x.size,fun c d _=>x.blk c oM (by simp;omega)⟩
theorem xZ {K:Nat}(i t:Nat){f:FuncId}{args:Array Value}{Φ:Value->Hp->Prop}(c:Calls P f args w (Ret w h Φ))(hz:M.z=some (K,[]))(d:K<=w.heap.size)(H:∀ v w' a,Up w h w' a->K<=w'.heap.size->Φ v a->AG M P n N R X ops 0 (L.setIfInBounds i true) ((t,v)::Γ) w')(j:(gR ops 0 L i && ba Γ (av ops i) && ((av ops i).dst == some t) && decide (t<n))=true:=by kernel_rfl)(k:bu ops Γ (av ops i)=some true:=by kernel_rfl)
  (hr:(execOp (ev Γ) (av ops i)).run P w=.ok (.enter f args) w:=by kernel_rfl):AG M P n N R X ops 0 L Γ w :=
 zC i t (c.mono fun e w' ⟨v,a,l,u,b⟩=>⟨v,l,Fw hz d u.ext,H v w' a u (ed d u.ext.size) b⟩) j k hr
theorem IN {K rb:Nat}(i t:Nat){f:FuncId}{args:Array Value}{Φ:Value->World->Hp->Prop}(c:Calls P f args w (bW rb w h Φ))(hz:M.z=some (K,[]))(j:K<=w.heap.size)(d:K<=rb)(H:∀ v w' a,UpM [rb] w h w' a->K<=w'.heap.size->Φ v w' a->AG M P n N R X ops 0 (L.setIfInBounds i true) ((t,v)::Γ) w')(k:(gR ops 0 L i && ba Γ (av ops i) && ((av ops i).dst == some t) && decide (t<n))=true:=by kernel_rfl)(l:bu ops Γ (av ops i)=some true:=by kernel_rfl)
  (hr:(execOp (ev Γ) (av ops i)).run P w=.ok (.enter f args) w:=by kernel_rfl):AG M P n N R X ops 0 L Γ w :=
 zC i t (c.mono fun e w' ⟨v,a,o,u,b⟩=>⟨v,o,He hz j d u.mo,H v w' a u (ed j u.mo.size) b⟩) k l hr
theorem gi (s:SS w0 h0 w h B Rs F)(j:Nat)(a:decide (j<B.length)=true:=by kernel_rfl):(aA B j).b<w.heap.size:=by rw[s.g.size];exact aI (s.jk j a)
theorem FI (t b o len cap sz:Nat)(i:Int)(j e:Nat)(H:LG P n N R X ops (k+1) ((t,.pointer (some ⟨b,0+e*sz,none⟩))::Γ) w)(d:cL ops Γ k t n=true:=by kernel_rfl)(f:BL P (ev Γ) (av ops k)=some (.slice (some ⟨b,o,none⟩) len cap,.int .i64 i,sz):=by kernel_rfl)(h:i=j:=by omega)(c:j<len:=by omega)(a:o+j*sz=0+e*sz:=by omega):LG P n N R X ops k Γ w :=
 LG.val t _ w (bS d).1 (bS d).2 (a▸gk f rfl h c w) H
theorem IF (i t b o len cap sz:Nat)(x:Int)(j e:Nat)(H:AG M P n N R X ops k0 (L.setIfInBounds i true) ((t,.pointer (some ⟨b,0+e*sz,none⟩))::Γ) w)(d:cE n ops k0 [] L Γ i t=true:=by kernel_rfl)(f:BL P (ev Γ) (av ops i)=some (.slice (some ⟨b,o,none⟩) len cap,.int .i64 x,sz):=by kernel_rfl)(h:x=j:=by omega)(c:j<len:=by omega)(a:o+j*sz=0+e*sz:=by omega):AG M P n N R X ops k0 L Γ w :=
 aV i t _ H d (fun w=>a▸gk f rfl h c w)
theorem IZ (i t b o len cap sz:Nat)(x:Int)(j e:Nat)(H:AG M P n N R X ops k0 (L.setIfInBounds i true) ((t,.pointer (some ⟨b,0+e*sz,none⟩))::Γ) w)(d:cT n ops k0 L Γ i t=true:=by kernel_rfl)(f:BL P (ev Γ) (av ops i)=some (.slice (some ⟨b,o,none⟩) len cap,.int .i64 x,sz):=by kernel_rfl)(h:x=j:=by omega)(c:j<len:=by omega)(a:o+j*sz=0+e*sz:=by omega):AG M P n N R X ops k0 L Γ w :=
 T.val i t _ w (oP d).1 (oP d).2 (a▸gk f rfl h c w) H
theorem I0 (t b o len cap sz:Nat)(i:Int)(j a:Nat)(H:LG P n N R X ops (k+1) ((t,.slice (some ⟨b,a,none⟩) (len-j) (cap-j))::Γ) w)(l:cL ops Γ k t n=true:=by kernel_rfl)(p:DH P (ev Γ) (av ops k)=some (.slice (some ⟨b,o,none⟩) len cap,some (.int .i64 i),none,sz):=by kernel_rfl)(u:i=j:=by omega)(d:j<=len:=by omega)(f:cap≠j:=by omega)(c:a=o+j*sz:=by omega):LG P n N R X ops k Γ w:=by
 have h:=p4 j p u d w;rw[if_neg f] at h
 have e:(some (⟨b,o,none⟩:Addr)).map (·.add (j*sz))=some ⟨b,a,none⟩:=by subst c;simp[Addr.add]
 rw[e] at h
 exact LG.val t _ w (bS l).1 (bS l).2 h H
theorem SS.torow {α:Type}(s:SS w0 h0 w h B Rs F)(j:Nat)(f:α->List Value)(l:List α)(sz m:Nat)(u:l.length=m)(C:m<=1099511627776)(hB:(aA B j).vs=l.flatMap f:=by kernel_rfl)(hf:∀ x,(f x).length=sz:=by intro _;rfl)(y:decide (j<B.length)=true:=by kernel_rfl) :
    SS w0 h0 w h (B.eraseIdx j) (⟨(aA B j).t,sz,some ⟨(aA B j).b,0,none⟩,m,m,l.flatMap f⟩::Rs) F:=by
  have o:=oT y;have d:=bA o;have H:=s.st.own _ d
  have z:∀ x∈B.eraseIdx j,x.b≠(aA B j).b:=by
    intro x a c;obtain ⟨i,hi,p⟩:=pt.1 a;rw[List.getElem_eraseIdx] at p
    rw[List.length_eraseIdx_of_lt o] at hi
    split at p
    . rename_i D
      refine cB s.st (i:=i) (j:=j) (decide_eq_true oM) y (by simp;omega) ?_;rw[<-c,<-p];simp[aA,show i<B.length by omega]
    . rename_i D
      refine cB s.st (i:=i+1) (j:=j) (decide_eq_true oM) y (by simp;omega) ?_;rw[<-c,<-p];simp[aA,show i+1<B.length by omega]
  refine ⟨s.g0,⟨s.st.up,fun x a=>s.st.own x (wl a),fun x a=>s.st.jk x (wl a),fun x a=>s.st.lo x (wl a),s.st.nd.sublist ((List.eraseIdx_sublist B j).map (·.b))⟩,?_,?_,s.mo,s.f⟩
  . intro r hr
    rcases List.mem_cons.1 hr with rfl|hr
    . refine ⟨⟨by rw[db hf,u],.inr ⟨(aA B j).b,m,(aA B j).vs.toArray,rfl,s.st.lo _ d,H,eb _,by unfold maxLen;omega,by rw[hB];simp[db hf,u],by rw[hB];simp[I7,db hf,u]⟩⟩,?_,?_⟩
      . intro b c
        have:(aA B j).b=b:=by simpa [Rw.v,Value.ownBlock] using c
        rw[<-this];exact s.st.jk _ d
      . intro b c k
        have:(aA B j).b=b:=by simpa [Rw.v,Value.ownBlock] using c
        obtain ⟨x,a,e⟩:=ga.1 k;exact z x a (e.trans this.symm)
    . exact (s.ro r hr).sub _ (fun b c=>by
        obtain ⟨x,a,e⟩:=ga.1 c;exact ga.2 ⟨x,wl a,e⟩)
  . refine List.pairwise_cons.2 ⟨fun r hr b c hv=>?_,s.ap⟩
    have:(aA B j).b=b:=by simpa [Rw.v,Value.ownBlock] using c
    exact (s.ro r hr).ap b hv (this▸ga.2 ⟨_,d,rfl⟩)
theorem HC {α:Type}(t j m L:Nat)(l:List α)(f:α->List Value)(d x:α)(i:Nat)(z:Value)(s:SS w0 h0 w h B Rs F)(M:Seg h L 0 (f x))(D:l.length=m)(I:m<=1000000000)
  (H:∀ a c' w' p,SS w0 h0 w' p (B.eraseIdx j) Rs ((fun h=>SlO 1 f d h a (l++[x]))::F)->m+1<=c'->LG P n N R X ops (k+1) ((t,.slice a (m+1) c')::Γ) w')(O:cL ops Γ k t n=true:=by kernel_rfl)(Q:decide (j<B.length)=true:=by kernel_rfl)(hB:(aA B j).vs=l.flatMap f:=by kernel_rfl)
  (S:vC P (ev Γ) (av ops k)=some (.slice (some ⟨(aA B j).b,0,none⟩) m m,.slice (some ⟨L,0,none⟩) 1 1,(aA B j).t,z,1,i):=by kernel_rfl)(o:z.cells.size=1:=by kernel_rfl)(hf:∀ x,(f x).length=1:=by intro _;rfl)(h1:(f x).all (·.oneCell')=true:=by kernel_rfl)(e:i<=100:=by decide):LG P n N R X ops k Γ w:=by
 have K:=s.torow j f l 1 m D oM hB hf Q
 refine Ii t 0 (f x) K (lb K.g M) (hf x) (fun u hu=>(hS.1 h1) u hu) (by simp) rfl O S o kD oM (by
  have:(m+1)*i<=(m+1)*100:=Ao _ e
  omega) (fun a c' w' p J=>?_)
 have C:m+1=(l++[x]).length:=by simp[D]
 have W:l.flatMap f++f x=(l++[x]).flatMap f:=by simp
 rw[W,JB] at J
 have U:SS w0 h0 w' p (B.eraseIdx j) (⟨(aA B j).t,1,a,c',(l++[x]).length,(l++[x]).flatMap f⟩::Rs) F:=by rw[<-C];exact J
 obtain ⟨c,V,y⟩:=U.pubr 0 d hf rfl (by simp);exact H a c' w' c V (by rw[C];exact y)
theorem SS.perm (s:SS w0 h0 w h B Rs F){B':List Bx}(p:B.Perm B'):SS w0 h0 w h B' Rs F :=
 ⟨s.g0,⟨s.st.up,fun x a=>s.st.own x (p.mem_iff.2 a),fun x a=>s.st.jk x (p.mem_iff.2 a),fun x a=>s.st.lo x (p.mem_iff.2 a),(p.map (·.b)).nodup_iff.1 s.st.nd⟩,
  fun r hr=>(s.ro r hr).sub _ (fun b c=>(p.map (·.b)).mem_iff.2 c),s.ap,s.mo,s.f⟩
end
theorem jZ (a:Nat)(A:Z9)(c:Nat)(hc:(lim a).length<=c)(hLa:(lim a).length<=4000000000)(k:Nat)(hk:k<=4000000000)(w:World)(h:Hp)(g:G w h)(hA:S3 A (lim a) h):CR 227 #[.slice A ((lim a).length) c,nV k] w h (fun v h1=>RN h1 v (a*2^k)):=by
 have d:=((sS g).aS hA);obtain ⟨L,hL⟩:∃ L:List Nat,L=ta (k/32) 0:=⟨_,rfl⟩;have F:L.length=k/32:=by rw[hL,List.length_replicate]
 refine go Tryz.func227 [(0,qS A ((lim a).length) c),(1,nV k)] rfl (aa d ac (ai (aa d ac ?_)));have ⟨M,Q⟩:=dT (p:=(0:Int)<=(k:Int)) oM;refine lB 12 M (aj (aa d ac (lV 14 (nV L.length) ?_ (hr:=aN (aN (cZ (t:=3) (u:=3) (x:=.tmp 13) (y:=.const (iV 32)) (k:=.i64) (a:=(k:Int)) (b:=(32:Int)) kR kR kR oM _) (dh k 32 oM)) oM))));refine lK 15 161 L.length 1 4 (uW 0) aW 0 d (fun V w3 h4 d=>?_);have Z:(ta L.length 0).length=L.length:=by simp
 refine lL d ac (aE (lL d ac (ai (aG ?_))));rw[show ta L.length 0=L by rw[F];exact hL.symm] at d
 replace d:=d.torow 0 aW L 1 L.length rfl oM;replace d:=d.to [] [⟨161,1,sB V,L.length,(L).length,(L).flatMap aW⟩];refine lL d ac (bE ?_);refine bG _ (CG.loop (fun K Γ W=>∃ (i:Nat)(C:Z9)(z:Nat)(l:List Nat)(e:Nat)(h_:Hp),K=(lim a).length+1-i/\Γ=[(0,qS A ((lim a).length) c),(1,nV k),(4,sZ),(7,nV i),(6,mV e),(5,qS C ((l).length) z)]/\SS w h W h_ [] [⟨161,1,C,z,(l).length,(l).flatMap aW⟩] [S3 A (lim a)]/\i<=(lim a).length+1/\l.length=L.length+i/\Ld l/\e<2^(k%32)/\am 4294967296 l+4294967296^l.length*e=4294967296^L.length*(2^(k%32)*am 4294967296 ((lim a).take i))) _ ⟨0,sB V,L.length,L,0,h4,rfl,rfl,d.to _ _,JH _,rfl,(by rw[hL];exact Ld.rep _),z8 _,(by rw[hL,di];simp[am])⟩ ?_);rintro _ _ w6 ⟨i,C,z,l,e,h7,X,rfl,d,hi,j,U,O,B⟩;have J:=(Ld.lim a).get i;refine cQ (aa d [.c,.c,.v (nV ((lim a).length))] ?_);cases o:(decide ((i:Int)<=(((lim a).length:Nat):Int)))
 .
  have D:=oF o;refine lB 19 o (ah (CG.exit ?_))
  show CG _ _ _ _ _ _ _ _
  refine aa d ac ?_;have hin:i=(lim a).length+1:=by omega
  rw[I7 (show (lim a).length<=i by omega),cu,j] at B
  have hE:am 4294967296 l=a*2^k:=sU (c:=e) (by rw[j,B,xi k,F];ac_rfl) (by rw[j,xi k];exact ui (cI a) oM oM);obtain ⟨_,d,S⟩:=d.pubr 0 (A:=C) (c:=z) (l:=l) (f:=aW) (ty:=161) (sz:=1) 0 (fun _=>rfl);exact aq 39 d (iE C z l ((l).length) rfl oM S _ _ d.g d.f.1) (fun _ _ d=>lL d ac (af d [] (qS C (tl l ((l).length)) z) (RN.trim U hE rfl S d.f.1)))
 have D:=oT o;refine lB 19 o (aj (cK (cQ (kZ (aa d dL (aq 25 d (FK A c (lim a) ((lim a).length) rfl i oM (Ld.lim _) _ _ d.g d.f.1) (fun _ _ d=>lL d ac (lV 27 (nV (k%32)) ?_ (hr:=aN (dV (t:=3) (u:=3) (x:=.tmp 26) (y:=.const (iV 32)) (k:=.i64) (a:=(k:Int)) (b:=(32:Int)) kR kR kR oM _) (cM k 32))))))))));refine lV 28 (mV (k%32)) ?_ (hr:=rU (((k%32:Nat):Int)) kR (az oM oM));refine lV 29 (mV (((lim a).getD i 0)*2^(k%32)%18446744073709551616)) ?_ (hr:=f8 (t:=24) (u:=162) (x:=.tmp 25) (y:=.tmp 28) (ky:=.u64) (a:=((lim a).getD i 0)) (n:=(k%32)) kR kR kR _);obtain ⟨I,hS2,H⟩:=GW (x:=(lim a).getD i 0) (p:=k%32) (c:=e) oM J O;refine lV 30 (mV (e+(lim a).getD i 0*2^(k%32))) ?_ (hr:=aN (gl (t:=24) (u:=24) (x:=.tmp 22) (y:=.tmp 29) (a:=e) (b:=(((lim a).getD i 0)*2^(k%32)%18446744073709551616:Nat)) kR kR kR oM oM _) (by rw[I]));refine lL d ac (aE (lL d aF (lV 33 (mW ((e+(lim a).getD i 0*2^(k%32))%4294967296)) ?_ (hr:=rT (((e+(lim a).getD i 0*2^(k%32):Nat):Int)) kR (fV _)))));refine lR 34 161 1 ([mW ((e+(lim a).getD i 0*2^(k%32))%4294967296)]) d (fun zb _ _ d=>lY 35 0 161 1 z C l aW ((e+(lim a).getD i 0*2^(k%32))%4294967296:Nat) 4 zb (uW 0) d d.f.1 (fun zc zd _ ze d=>lL d ac (lN (kQ (lL d ac (lV 37 (mV ((e+(lim a).getD i 0*2^(k%32))/4294967296)) ?_ (hr:=aN (n:=JF ((e+(lim a).getD i 0*2^(k%32):Nat):Int) 4294967296) kR (dH _ 4294967296))))))));refine lL d ac (lN (kQ (lL d ac (bg 21 ((i:Nat)+1) (i+1) ?_))));refine lL d ac (lD ?_);intro a_ Y;replace d:=d.tl;refine ⟨_,_,?_,⟨i+1,zc,zd,l++[((e+(lim a).getD i 0*2^(k%32))%4294967296:Nat)],((e+(lim a).getD i 0*2^(k%32))/4294967296:Nat),ze,rfl,rfl,d.to _ _,oM,(by rw[sy,j];rfl),(U.app (ua _ kD)),H,(vf kD B j rfl rfl)⟩,Y.to _ kR⟩
 omega
theorem vh (a:Nat)(A:Z9)(c:Nat)(H:(lim a).length<=c)(z:(lim a).length<=4000000000)(w:World)(h:Hp)(g:G w h)(B:S3 A (lim a) h):CV 226 #[.slice A ((lim a).length) c] w h (nV (nb a)):=by
 have b:=((sS g).aS B);have C:=@bI a;have k:=(Ld.lim a).get ((lim a).length-1);refine go Tryz.func226 [(0,qS A ((lim a).length) c)] rfl (aa b ac (ai (aa b [.c,.v (nV ((lim a).length))] ?_)));cases e:((((lim a).length:Nat):Int) == (0:Int))
 .
  have j:=ao e;refine lB 7 e (ah (cK (aa b [.c,.v (nV ((lim a).length))] (bg 10 (((lim a).length:Nat)-1) (((lim a).length)-1) ?_))));refine bg 11 (32*(((lim a).length)-1:Nat)) (32*(((lim a).length)-1:Nat)) (lL b ac (ai (aa b [.c,.c,.v (nV ((lim a).length))] (lI 15 (((lim a).length:Nat)-1) ?_))));refine lX 16 A ((lim a).length) c 1 (((lim a).length:Nat)-1) (((lim a).length)-1) ((b.f.1).ok oM) (lH 17 (mW ((lim a).getD (((lim a).length)-1) 0)) b ((b.f.1).el (((lim a).length)-1) oM) (lL b ac (bE ?_)));refine bG _ (CG.loop (fun l Γ F=>∃ (n:Nat)(x:Nat)(h_:Hp),l=x/\Γ=[(2,iV 0),(3,nV n),(4,mW x)]/\SS w h F h_ [] [] [S3 A (lim a)]/\n+nb x=nb a/\x<4294967296/\nb a<=128000000000) _ ⟨32*((lim a).length-1),(lim a).getD ((lim a).length-1) 0,h,rfl,rfl,b.to _ _,(ww oM).symm,k,(by have:=Fd a;omega)⟩ ?_);rintro _ _ w2 ⟨n,x,D,u,rfl,b,o,I,p⟩;refine cQ (aa b ac ?_);cases d:(decide ((0:Int)<(x:Int)))
  .
   have i:=oF d;refine lB 19 d (ah (CG.exit ?_))
   show CG _ _ _ _ _ _ _ _
   exact aa b aF (af b [] (nV n) (by obtain rfl:x=0:=oM;rw[BA] at o;rw[<-o];rfl))
  have i:=oT d;refine lB 19 d (aj (cK (cQ (kZ (kQ (lL b ac (bg 23 ((n:Nat)+1) (n+1) ?_)))))));refine lL b ac (lN (kQ (lL b ac (lV 21 (mW (x/2)) ?_ (hr:=aN (n:=JF (x:Nat) 2) kR (dH x 2))))));refine lL b ac (lD ?_);intro J y;refine ⟨_,_,?_,⟨n+1,x/2,D,rfl,rfl,b.to _ _,(by have:=CH (n:=x) oM;omega),oM,p⟩,y.to _ kR⟩
  omega
 have j:=eq_of_beq e;exact lB 7 e (aj (aa b ac (af b [] (iV 0) (by obtain rfl:a=0:=oM;rfl))))
theorem rx (a:Nat)(A:Z9)(c:Nat)(hc:(lim a).length<=c)(X:(lim a).length<=4000000000)(k:Nat)(hk0:0<k)(hk:k<=4000000000)(w:World)(h:Hp)(g:G w h)(Y:S3 A (lim a) h):CR 227 #[.slice A ((lim a).length) c,iV (-(k:Int))] w h (fun v h1=>RN h1 v (a/2^k)):=by
 have d:=((sS g).aS Y);refine go Tryz.func227 [(0,qS A ((lim a).length) c),(1,iV (-(k:Int)))] rfl (aa d ac (ai (aa d ac ?_)));have ⟨M,Q⟩:=dF (p:=(0:Int)<=((-(k:Int)):Int)) oM;refine lB 12 M (ah (cK (aa d ac (lV 41 (nV k) ?_ (hr:=rS ((0-(-(k:Int)))) kR (by rw[IntKind.wrap_i64];omega))))));refine lL d ac (aE (lL d ac (ai (aa d ac (lV 43 (nV (k/32)) ?_ (hr:=aN (cZ (t:=3) (u:=3) (x:=.tmp 42) (y:=.const (iV 32)) (k:=.i64) (a:=(k:Int)) (b:=(32:Int)) kR kR kR oM _) (dh k 32 oM)))))));refine lL d ac (bE ?_);replace d:=d.nil 161 1;refine bG _ (CG.loop (fun K Γ U=>∃ (j:Nat)(z:Z9)(o:Nat)(l:List Nat)(h_:Hp),K=(lim a).length-(k/32+j)/\Γ=[(0,qS A ((lim a).length) c),(1,nV k),(4,sZ),(9,nV (k/32+j)),(8,qS z ((l).length) o)]/\SS w h U h_ [] [⟨161,1,z,o,(l).length,(l).flatMap aW⟩] [S3 A (lim a)]/\l.length=j/\Ld l/\2^(k%32)*am 4294967296 l+((lim a).drop (k/32)).getD 0 0%2^(k%32)=am 4294967296 (((lim a).drop (k/32)).take j)+4294967296^j*(((lim a).drop (k/32)).getD j 0%2^(k%32))/\l.length<=(lim a).length) _ ⟨0,none,0,[],h,rfl,rfl,d.to _ _,rfl,Dg.nil,(by simp[am]),(by simp)⟩ ?_);rintro _ _ w2 ⟨j,z,o,l,h3,V,rfl,d,i,S,C,hjl⟩;have J:=(Ld.lim a).get (k/32+j);have O:=(Ld.lim a).get (k/32+j+1);refine cQ (aa d [.c,.c,.v (nV ((lim a).length))] ?_);cases e:(decide (((k/32+j:Nat):Int)<(((lim a).length:Nat):Int)))
 .
  have B:=oF e;refine lB 47 e (ah (CG.exit ?_))
  show CG _ _ _ _ _ _ _ _
  refine aa d ac ?_;have hE:am 4294967296 l=a/2^k:=EC oM (by rw[i];exact C);obtain ⟨h6,d,D⟩:=d.pubr 0 (A:=z) (c:=o) (l:=l) (f:=aW) (ty:=161) (sz:=1) 0 (fun _=>rfl);exact aq 69 d (iE z o l ((l).length) rfl oM D _ _ d.g d.f.1) (fun w9 _ d=>lL d ac (af d [] (qS z (tl l ((l).length)) o) (RN.trim S hE rfl D d.f.1)))
 have B:=oT e;refine lB 47 e (aj (cK (cQ (kZ (aa d aF (aq 52 d (FK A c (lim a) ((lim a).length) rfl (k/32+j) oM (Ld.lim _) _ _ d.g d.f.1) (fun _ _ d=>lL d aF (bg 55 ((k/32+j:Nat)+1) ((k/32+j)+1) ?_))))))));refine aq 56 d (FK A c (lim a) ((lim a).length) rfl ((k/32+j)+1) oM (Ld.lim _) _ _ d.g d.f.1) (fun _ _ d=>?_);obtain ⟨I,hS2,F⟩:=GY (p:=k%32) oM J O;have L:=bJ (l:=lim a) (k:=j) (n:=k/32);have H:=bJ (l:=lim a) (k:=j+1) (n:=k/32);refine lV 57 (mV (((lim a).getD ((k/32+j)+1) 0:Nat)*4294967296%18446744073709551616)) ?_ (hr:=rU (((((lim a).getD ((k/32+j)+1) 0:Nat):Int)*4294967296)) kR (iQ ((lim a).getD ((k/32+j)+1) 0:Nat) 4294967296));refine lV 58 (mV ((lim a).getD (k/32+j) 0+(lim a).getD (k/32+j+1) 0*4294967296)) ?_ (hr:=aN (gl (t:=24) (u:=24) (x:=.tmp 52) (y:=.tmp 57) (a:=((lim a).getD (k/32+j) 0)) (b:=(((lim a).getD ((k/32+j)+1) 0:Nat)*4294967296%18446744073709551616:Nat)) kR kR kR oM oM _) (by rw[I]));refine lL d ac (lN (kQ (lL d dL (lV 62 (nV (k%32)) ?_ (hr:=aN (dV (t:=3) (u:=3) (x:=.tmp 61) (y:=.const (iV 32)) (k:=.i64) (a:=(k:Int)) (b:=(32:Int)) kR kR kR oM _) (cM k 32))))));refine lV 63 (mV (k%32)) ?_ (hr:=rU (((k%32:Nat):Int)) kR (az oM oM));refine lV 64 (mV (((lim a).getD (k/32+j) 0+(lim a).getD (k/32+j+1) 0*4294967296)/2^(k%32))) ?_ (hr:=fK (t:=24) (u:=162) (x:=.tmp 60) (y:=.tmp 63) (ky:=.u64) (a:=((lim a).getD (k/32+j) 0+(lim a).getD (k/32+j+1) 0*4294967296)) (n:=(k%32)) kR kR kR oM _);refine lV 65 (mW ((((lim a).getD (k/32+j) 0+(lim a).getD (k/32+j+1) 0*4294967296)/2^(k%32):Nat)%4294967296)) ?_ (hr:=rT (((((lim a).getD (k/32+j) 0+(lim a).getD (k/32+j+1) 0*4294967296)/2^(k%32):Nat):Int)) kR (fV _));refine lR 66 161 1 ([mW ((((lim a).getD (k/32+j) 0+(lim a).getD (k/32+j+1) 0*4294967296)/2^(k%32):Nat)%4294967296)]) d (fun za _ _ d=>lY 67 0 161 1 o z l aW ((((lim a).getD (k/32+j) 0+(lim a).getD (k/32+j+1) 0*4294967296)/2^(k%32):Nat)%4294967296:Nat) 4 za (uW 0) d d.f.1 (fun Z zc _ zd d=>lL d ac (lN (kQ (lL d ac (bg 49 ((k/32+j:Nat)+1) ((k/32+j)+1) ?_))))));refine lL d ac (lD ?_);intro a_ W;replace d:=d.tl;refine ⟨_,_,?_,⟨j+1,Z,zc,l++[((((lim a).getD (k/32+j) 0+(lim a).getD (k/32+j+1) 0*4294967296)/2^(k%32):Nat)%4294967296:Nat)],zd,rfl,rfl,d.to _ _,(by rw[sy,i];rfl),(S.app (ua _ kD)),(Eo i C (by rw[L,H];exact F)),(by rw[sy];show _+1<=_;omega)⟩,W.to _ kR⟩
 omega
def bc (l:List Nat):Nat:=am 4294967296 l
theorem u5 {a b:Nat}(ha:a<4294967296)(d:b<4294967296):a*b<=18446744065119617025:=by
 have h1:a<=4294967295:=by omega
 have c:b<=4294967295:=by omega
 exact Jq h1 c
def l3 (u2 u1 u0:Nat):Nat:=4294967296*(4294967296*u2+u1)+u0
def l2 (v1 v0:Nat):Nat:=4294967296*v1+v0
structure Hss (u2 u1 u0 v1 v0 g r o:Nat):Prop where
  e:g*v1+(r+4294967296*o)=4294967296*u2+u1
  lt:g+1=4294967296\/l3 u2 u1 u0<(g+1)*l2 v1 v0
  gb:g<4294967296
def B7 (u2 u1 u0 v1 v0 g:Nat):Prop:=g*l2 v1 v0<=l3 u2 u1 u0/\(g+1=4294967296\/l3 u2 u1 u0<(g+1)*l2 v1 v0)/\g<4294967296
theorem HD {g a b:Nat}:g*l2 a b=4294967296*(g*a)+g*b:=by unfold l2;rw[zT,Nat.mul_left_comm]
theorem Hss.fin {c u1 a d b g r o:Nat}(h:Hss c u1 a d b g r o)(f:g*b<=4294967296*(r+4294967296*o)+a):B7 c u1 a d b g:=by
 refine ⟨?_,h.lt,h.gb⟩;rw[HD]
 unfold l3
 rw[<-h.e,zT]
 omega
theorem Dy {u:List Nat}{k:Nat}(a:2<=k):l3 (u.getD k 0) (u.getD (k-1) 0) (u.getD (k-2) 0)=u.getD k 0*4294967296*4294967296+u.getD (k-1) 0*4294967296+u.getD (k-2) 0:=by
 unfold l3
 rw[zz (u.getD k 0) 4294967296,zz (4294967296*u.getD k 0) 4294967296,zz (u.getD (k-1) 0),zT]
theorem Et {a b:Nat}:l2 a b=a*4294967296+b:=by unfold l2;rw[zz]
section
variable {n j G:Nat}{u v:List Nat}
theorem DE (x:2<=n)(y:v.length=n)(a:Ld v)(f:Ld u)(hu:j+n<u.length)(p:bc u<4294967296^(j+1)*bc v):u.getD (j+n) 0<=v.getD (n-1) 0:=by
 rcases co (v.getD (n-1) 0) (u.getD (j+n) 0) with h|h
 ·exfalso
  have b:=aJ 4294967296 (l:=v) (k:=n-1) oM;rw[show n-1+1=v.length by omega,r9] at b
  have h1:=bV (Dg.take a (n-1));rw[z1,z2 oM] at h1
  have e:=aJ 4294967296 (l:=u) (k:=j+n) oM;have c:=bX 4294967296 (l:=u) (k:=j+n+1) oM;have o:4294967296^(j+n)*(v.getD (n-1) 0+1)<=4294967296^(j+n)*u.getD (j+n) 0:=Ao _ h
  have d:4294967296^(j+1)*bc v<4294967296^(j+1)*(4294967296^(n-1)*(v.getD (n-1) 0+1)):=by
   refine F2 ?_ (A8 kD)
   show am _ v<_
   rw[b,zT,Nat.mul_one];omega
  rw[<-zY,<-Am,show j+1+(n-1)=j+n by omega] at d
  have i:bc u=am 4294967296 (u.take (j+n))+4294967296^(j+n)*u.getD (j+n) 0+4294967296^(j+n+1)*am 4294967296 (u.drop (j+n+1)):=by
   show am _ u=_
   rw[c,e]
  have z:=JH (4294967296^(j+n+1)*am 4294967296 (u.drop (j+n+1)))
  omega
 ·exact h
theorem vE (i:2<=n)(k:v.length=n)(b:Ld v)(c:Ld u)(hu:j+n<u.length)(a:v.getD (n-1) 0≠0)(h:bc u<4294967296^(j+1)*bc v)(f:B7 (u.getD (j+n) 0) (u.getD (j+n-1) 0) (u.getD (j+n-2) 0) (v.getD (n-1) 0) (v.getD (n-2) 0) G) :
  bc u/(4294967296^j*bc v)<=G/\G<=bc u/(4294967296^j*bc v)+1:=by
 obtain ⟨h1,d,e⟩:=f;rw[Dy oM,Et] at h1 d
 exact mJ kD i k b c hu a h h1 d e
theorem xM (h:2<=n)(e:v.length=n)(a:Ld v)(b:v.getD (n-1) 0≠0):4294967296^(n-1)<=bc v/\bc v<4294967296^n:=by
 have c:=bV a;rw[e] at c
 refine ⟨?_,c⟩;have d:=aJ 4294967296 (l:=v) (k:=n-1) oM;rw[show n-1+1=v.length by omega,r9] at d
 have f:4294967296^(n-1)*1<=4294967296^(n-1)*v.getD (n-1) 0:=Ao _ oM
 show _<=am _ v
 omega
theorem xL (e:2<=n)(c:v.length=n)(a:Ld v)(d:bc u<4294967296^(j+1)*bc v):bc u<4294967296^(j+n+1):=by
 have b:=bV a;rw[c] at b
 have h1:4294967296^(j+1)*bc v<4294967296^(j+1)*4294967296^n:=F2 b (A8 kD);rw[<-Am,show j+1+n=j+n+1 by omega] at h1
 omega
theorem BR {u1:List Nat}(h:2<=n)(l:v.length=n)(d:Ld v)(i:Ld u)(f:Ld u1)(hu:j+n<u.length)(a:v.getD (n-1) 0≠0)(k:bc u<4294967296^(j+1)*bc v)
  (p:bc u/(4294967296^j*bc v)<=G/\G<=bc u/(4294967296^j*bc v)+1)(c:Above u1 u (j+n+1))(e:bc u1+4294967296^j*(G*bc v)=bc u+4294967296^(j+n+1)*0) :
  bc u1<4294967296^j*bc v/\bc u1+4294967296^j*(G*bc v)=bc u:=by
 obtain ⟨o,y⟩:=xM h l d a;have x:=d9 (b:=4294967296) kD c f i (by rw[c.1];omega) (xL h l d k);have:=(eW (b:=4294967296) kD h o y k x e (JH 1) p).1 rfl;rw[z6,ri] at e
 exact ⟨this.2.2.1,e⟩
theorem FO {b a W K T c:Nat}(f:a+T*c=b+W)(j:b+W=K+T)(l:a<T)(e:K<W)(k:W<=T):a=K:=by
 have d:c=1:=by
  rcases Nat.lt_trichotomy c 1 with h|h|h
  ·have:c=0:=by omega
   subst this;omega
  ·exact h
  ·have i:T*2<=T*c:=Ao _ h
   omega
 subst d
 omega
theorem EY {u1 d:List Nat}{c:Nat}(z:2<=n)(C:v.length=n)(f:Ld v)(o:Ld u)(y:Ld u1)(x:Ld d)(hu:j+n<u.length)(h:v.getD (n-1) 0≠0)(B:bc u<4294967296^(j+1)*bc v)
  (J:bc u/(4294967296^j*bc v)<=G/\G<=bc u/(4294967296^j*bc v)+1)(k:Above u1 u (j+n+1))(a:Above d u (j+n+1))(e:bc u1+4294967296^j*(G*bc v)=bc u+4294967296^(j+n+1)*1)
  (M:bc d+4294967296^(j+n+1)*c=bc u1+4294967296^j*bc v) :
  bc d<4294967296^j*bc v/\bc d+4294967296^j*((G-1)*bc v)=bc u/\0<G:=by
 obtain ⟨L,H⟩:=xM z C f h;have l:=xL z C f B;have O:=d9 (b:=4294967296) kD k y o (by rw[k.1];omega) l;have p:=d9 (b:=4294967296) kD a x o (by rw[a.1];omega) l;obtain ⟨Q,I,F,S⟩:=(eW (b:=4294967296) kD z L H B O e oM J).2 rfl
 have i:4294967296^j*bc v<=4294967296^(j+n+1):=by
  have h1:4294967296^j*bc v<=4294967296^j*4294967296^n:=Ao _ (Nat.le_of_lt H);rw[<-Am] at h1
  have K:(4294967296:Nat)^(j+n)<=4294967296^(j+n+1):=Aa kD oM;exact ed h1 K
 have D:bc d=bc u-4294967296^j*((G-1)*bc v):=FO M I p F i;exact ⟨by rw[D];exact F,by rw[D];exact Nat.sub_add_cancel S,by rw[Q];exact JJ _⟩
theorem D5 {u1:List Nat}(h:2<=n)(l:v.length=n)(d:Ld v)(i:Ld u)(f:Ld u1)(hu:j+n<u.length)(a:v.getD (n-1) 0≠0)(k:bc u<4294967296^(j+1)*bc v)
  (x:bc u/(4294967296^j*bc v)<=G/\G<=bc u/(4294967296^j*bc v)+1)(c:Above u1 u (j+n+1))(e:bc u1+4294967296^j*(G*bc v)=bc u+4294967296^(j+n+1)*1):0<G:=by
 obtain ⟨o,z⟩:=xM h l d a;have y:=d9 (b:=4294967296) kD c f i (by rw[c.1];omega) (xL h l d k);obtain ⟨p,_⟩:=(eW (b:=4294967296) kD h o z k y e (eb 1) x).2 rfl;rw[p];exact JJ _
end
theorem DN {q:List Nat}{j Q X V R R':Nat}(d:j<q.length)(h0:q.getD j 0=0)(a:X=bc q*V+R)(e:R'+4294967296^j*(Q*V)=R):X=bc (q.set j Q)*V+R':=by
 have b:=ct 4294967296 (l:=q) (k:=j) Q d;rw[h0,z6,ri] at b
 have c:bc (q.set j Q)=bc q+4294967296^j*Q:=b;rw[c,I6,a,<-e,zY];omega
theorem Fb {X V R q a b s:Nat}(f:V=b*2^s)(o:X=a*2^s)(c:X=q*V+R)(k:R<V):q=a/b/\R/2^s=a%b:=by
 have p:=z8 s;have j:0<V:=by omega
 have l:0<b:=by
  rcases va b with h|h
  ·rw[h,sA] at f;omega
  ·exact h
 have i:a*2^s=V*q+R:=by rw[<-o,c,zz]
 obtain ⟨h1,e⟩:=jC (A:=a) (y:=b) (Q:=q) f i k;have d:a=R/2^s+b*q:=by omega
 constructor
 ·rw[d,I5 _ _ l,y9 e,s4]
 ·rw[d,Jw,tv e]
structure Gk (u2 u1 u0 v1 v0 g r:Nat):Prop where
  e:g*v1+r=4294967296*u2+u1
  lt:4294967296<=g+1\/l3 u2 u1 u0<(g+1)*l2 v1 v0
theorem Gk.start {b u1 c a d:Nat}(hv:0<a)(h0:c<4294967296):Gk b u1 c a d ((b*4294967296+u1)/a) ((b*4294967296+u1)%a):=by
 have e:=I9 (b*4294967296+u1) a;have hr:=ua (b*4294967296+u1) hv
 generalize (b*4294967296+u1)/a=q at *
 generalize (b*4294967296+u1)%a=r at *
 rw[zz b] at e
 refine ⟨by rw[zz q];exact e,.inr ?_⟩;rw[HD,I6 q 1 a,I8,zz q a]
 unfold l3
 rw[<-e]
 have h1:4294967296*(a*q+r)+4294967296<=4294967296*(a*q+a):=by
  rw[<-Jf];exact Ao _ oM
 have f:0<=(q+1)*d:=JH _
 omega
theorem Gk.step {b u1 d a f g r:Nat}(h:Gk b u1 d a f g r)(i:0<g):(g-1)*a+(r+a)=4294967296*b+u1:=by
 obtain ⟨p,rfl⟩:∃ p,g=p+1:=⟨g-1,by omega⟩;have c:=h.e;rw[I6,I8] at c
 rw[Jl]
 omega
theorem Gk.decB {b u1 c a d g r:Nat}(h:Gk b u1 c a d g r)(e:4294967296<=g):Gk b u1 c a d (g-1) (r+a):=⟨h.step oM,.inl oM⟩
theorem Gk.decT {d u1 b a c g r:Nat}(h:Gk d u1 b a c g r)(i:4294967296*r+b<g*c):0<g/\Gk d u1 b a c (g-1) (r+a):=by
 have f:0<g:=dt i;refine ⟨f,h.step f,.inr ?_⟩;rw[show g-1+1=g by omega,HD]
 unfold l3
 rw[<-h.e,zT]
 omega
theorem Gk.big {b u1 f a i g r:Nat}(h:Gk b u1 f a i g r)(d:4294967296<=g)(c:b<=a)(h1:u1<4294967296):r<4294967296:=by
 have e:=h.e;have j:4294967296*a<=g*a:=s5 _ d;have k:4294967296*b<=4294967296*a:=Ao _ c
 omega
theorem Gk.fin {c u1 b d a g r:Nat}(h:Gk c u1 b d a g r)(f:g<4294967296)(h0:a<4294967296)(j:4294967296<=r\/g*a<=4294967296*r+b):B7 c u1 b d a g:=by
 have i:Hss c u1 b d a g r 0:=⟨by rw[z6,ri];exact h.e,by rcases h.lt with h1|h1;exact .inl oM;exact .inr h1,f⟩;refine i.fin ?_;rw[z6,ri]
 rcases j with h1|h1
 ·have l:=u5 f h0
  have k:4294967296*4294967296<=4294967296*r:=Ao _ h1
  omega
 ·exact h1
theorem l5 (n:Nat):(lim n).length=(nb n+31)/32:=by
 rcases va n with h|h
 ·subst h;rfl
 ·have h1:=ww h
  have b:=kK n h;have a:=(Ld.lim n).get ((lim n).length-1);have c:=bI.2 h
  generalize (lim n).getD ((lim n).length-1) 0=t at *
  have d:=(cl (Jh b)).2.2;have e:nb t<=32:=jg (k:=32) a
  omega
theorem uO {b:Nat}(d:0<b)(s:Nat):nb (b*2^s)=nb b+s:=by
 obtain ⟨a,c,e⟩:=cl d;rw[show nb b+s=(nb b-1+s)+1 by omega]
 apply jI
 ·rw[Am];exact s5 _ a
 ·rw[show nb b-1+s+1=nb b+s by omega,Am];exact Jo c (z8 s)
section joi
variable {P:Program}{n:Nat}{N R:Po}{X:Nat->Po}{Γ:ck}{w:World}
theorem CG.join {x y:Code}(I:ck->World->Prop)(h1:CG P n (fun a w'=>∃ b,I b w'/\Kn n a b) R X x Γ w)(h:∀ Γ w,I Γ w->CG P n N R X y Γ w):CG P n N R X (.seq x y) Γ w:=by
 intro a i;refine wp_seq (wp_mono (h1 a i) ?_);intro e a w d;cases e with
 | normal=>obtain ⟨b,f,c⟩:=d;exact h b w f a c
 | _=>exact d
end joi
section fin
variable {M:Ms}{P:Program}{n:Nat}{N R:Po}{X:Nat->Po}{ops:Array Oper}{k0:Nat}{hr:Hp}{L:Array Bool}{Γ:ck}{w:World}{h:Hp}{w0:World}{h0:Hp}{B:List Bx}{Rs:List Rw}{F:List (Hp->Prop)}
theorem bL (s:SS w0 h0 w h B Rs F)(H:∀ w' a,Up w h w' a->SS w0 h0 w' a B Rs F->AG M P n N R X ops k0 L Γ w')(b:fl ops [] L=true:=by kernel_rfl):EG M P n N R X ops k0 hr [] L Γ w h:=Rg.fin0 b (fun w' a u=>H w' a u (s.step u))
end fin
theorem CB (x:Nat)(A:Z9)(c m:Nat)(f:(lim x).length=m)(b:m<=c)(d:m<=4000000000)(s:Nat)(e:s<=4000000000)(w:World)(h:Hp)(g:G w h)(a:S3 A (lim x) h):CR 227 #[.slice A m c,iV (-(s:Int))] w h (fun v h1=>RN h1 v (x/2^s)):=by
 subst f
 rcases va s with h0|h0
 ·subst h0
  have:=jZ x A c b d 0 oM w h g a;rw[JI,Nat.mul_one] at this
  rw[JI,Nat.div_one];exact this
 ·exact rx x A c b d s h0 e w h g a
theorem vD {a b s k:Nat}(j:(lim (b*2^s)).length=k)(o:2<=k)(c:k<=(lim (a*2^s)).length+1)(i:0<b*2^s):bc (lim (a*2^s)++[0,0])<4294967296^((lim (a*2^s)).length+2-(lim (b*2^s)).length)*bc (lim (b*2^s)):=by
 have d:bc (lim (a*2^s)++[0,0])=a*2^s:=by
  unfold bc;rw[cC,cu];simp[am]
 have f:bc (lim (b*2^s))=b*2^s:=cu _;rw[d,f];have h1:=cI (a*2^s);have h:4294967296^((lim (b*2^s)).length-1)<=b*2^s:=by rw[sd];exact qV kD i
 have e:4294967296^((lim (a*2^s)).length+2-(lim (b*2^s)).length)*4294967296^((lim (b*2^s)).length-1)<=4294967296^((lim (a*2^s)).length+2-(lim (b*2^s)).length)*(b*2^s):=Ao _ h;rw[<-Am] at e
 have l:4294967296^(lim (a*2^s)).length<=4294967296^((lim (a*2^s)).length+2-(lim (b*2^s)).length+((lim (b*2^s)).length-1)):=Aa kD oM
 omega
theorem FB {a s V n:Nat}:a*2^s=bc (ta n 0)*V+bc (lim (a*2^s)++[0,0]):=by
 unfold bc;rw[di,sA,s4,cC,cu];simp[am]
theorem tU (a:Nat)(A:Z9)(c:Nat)(k:(lim a).length<=c)(b:Nat)(D:Z9)(d:Nat)(F:(lim b).length<=d)(x:(lim a).length<=3000000000)(C:(lim b).length<=3000000000)(i:a<b)(w:World)(h:Hp)(g:G w h)(y:S3 A (lim a) h)(B:S3 D (lim b) h):CR 198 #[.slice A ((lim a).length) c,.slice D ((lim b).length) d] w h (fun v h1=>∃ o u,v=.tuple #[o,u]/\RN h1 o (a/b)/\RN h1 u (a%b)):=by
 have e:=(((sS g).aS y).aS B);have z:=dK i;refine go Tryz.func198 [(0,qS A ((lim a).length) c),(1,qS D ((lim b).length) d)] rfl (aa e aF (ai (aa e aF (aq 27 e (jp a A c k b D d F oM oM _ _ e.g e.f.2.1 e.f.1) (fun w1 H e=>?_)))));have ⟨j,l⟩:=dT (p:=(cY a b:Int)<(0:Int)) oM;exact lB 28 j (aj (aa e dL (af e [] (.tuple #[sZ,qS A ((lim a).length) c]) (⟨_,_,rfl,by rw[y9 i];exact ⟨none,0,rfl,nR _,SlO.nil⟩,by rw[tv i];exact ⟨A,c,rfl,k,e.f.2.1⟩⟩))))
theorem qu {b:Nat}(h:(lim b).length=1):b<4294967296/\(lim b).getD 0 0=b/\0<b:=by
 have h1:=cI b;rw[h] at h1
 have a:0<b:=bI.1 oM;refine ⟨by omega,?_,a⟩;rw[Cj a oM];rfl
theorem rj (a:Nat)(A:Z9)(c:Nat)(y:(lim a).length<=c)(b:Nat)(D:Z9)(d:Nat)(V:(lim b).length<=d)(J:(lim a).length<=3000000000)(U:(lim b).length<=3000000000)(l:b<=a)(h1:(lim b).length=1)(w:World)(h:Hp)(g:G w h)(K:S3 A (lim a) h)(O:S3 D (lim b) h):CR 198 #[.slice A ((lim a).length) c,.slice D ((lim b).length) d] w h (fun v h1=>∃ C I,v=.tuple #[C,I]/\RN h1 C (a/b)/\RN h1 I (a%b)):=by
 have e:=(((sS g).aS K).aS O);have L:=ig l;obtain ⟨S,i,k⟩:=qu h1;refine go Tryz.func198 [(0,qS A ((lim a).length) c),(1,qS D ((lim b).length) d)] rfl (aa e aF (ai (aa e aF (aq 27 e (jp a A c y b D d V oM oM _ _ e.g e.f.2.1 e.f.1) (fun w1 Z e=>?_)))));have ⟨k,B⟩:=dF (p:=(cY a b:Int)<(0:Int)) oM;refine lB 28 k (ah (cK (cQ (aa e [.c,.v (nV ((lim b).length))] ?_))));have j:((((lim b).length:Nat):Int) == (1:Int))=true:=ko oM;have F:=eq_of_beq j;refine lB 32 j (aj (aa e aF (lX 36 D ((lim b).length) d 1 0 0 ((e.f.1).ok oM) ?_)));refine lH 37 (mW ((lim b).getD 0 0)) e ((e.f.1).el 0 oM) (lC 38 e (G0 a A c y oM ((lim b).getD 0 0) oM oM _ _ e.g e.f.2.1) ?_);rintro _ w5 h6 e ⟨_,r,rfl,⟨z,H,rfl,o,M⟩,x⟩;replace e:=e.aS M;refine lL e [.c,.v (qS z ((lim (a/((lim b).getD 0 0))).length) H),.v (mW r),.c,.c] (aE (lL e aF ?_));have X:=ua a (show 0<(lim b).getD 0 0 by omega);refine lV 43 (mV r) ?_ (hr:=rU ((r:Int)) kR (az oM oM));refine lC 44 e (eD r oM _ _ e.g) ?_;rintro _ _ _ e ⟨Y,W,rfl,u,Q⟩;replace e:=e.aS Q;exact lL e aF (af e [] (.tuple #[qS z ((lim (a/((lim b).getD 0 0))).length) H,qS Y ((lim r).length) W]) (⟨_,_,rfl,by rw[i] at *;exact ⟨_,_,rfl,o,e.f.2.1⟩,by rw[<-i,<-x];exact ⟨_,_,rfl,u,e.f.1⟩⟩))
theorem p6 (a:Nat)(A:Z9)(c:Nat)(hc:(lim a).length<=c)(b:Nat)(D:Z9)(d:Nat)(hd:(lim b).length<=d)(hLa:(lim a).length<=3000000000)(hLb:(lim b).length<=3000000000)(hab:b<=a)(hb2:2<=(lim b).length)(s:Nat)(hs_:s=32*(lim b).length-nb b)(H e:List Nat)(hva:lim (a*2^s)=H)(hvb:lim (b*2^s)=e)(w:World)(h:Hp)(g:G w h)(hA:S3 A (lim a) h)(hD:S3 D (lim b) h):CR 198 #[.slice A ((lim a).length) c,.slice D ((lim b).length) d] w h (fun v h1=>∃ v1 v2,v=.tuple #[v1,v2]/\RN h1 v1 (a/b)/\RN h1 v2 (a%b)):=by
 have z:=(((sS g).aS hA).aS hD);have hcl:=ig hab;have hbp:0<b:=bI.1 oM;have hln:=l5 b;have b6:s<32:=by omega
 have hvn:e.length=(lim b).length:=by rw[<-hvb,l5,uO hbp];omega
 have hlm:=de hab;have has:=de (show a<=a*2^s from Nat.le_mul_of_pos_right _ (z8 s));have bw:(lim (a*2^s)).length<=(lim a).length+1:=du (by rw[zy];exact ep (Jo (cI a) (z8 s)) (Ao _ (ed (Aa kD (show s<=32 by omega)) (nR (2^32)))));have _:([0,0]:List Nat).length=2:=rfl;rw[hva] at has bw
 have bt:(H++[0,0]).length=(H.length+2):=by simp
 have Z:=Ld.lim (b*2^s);have bb:=kK (b*2^s) (Jn hbp (z8 s));rw[hvb] at Z bb
 have hv1:=Z.get (e.length-1);have hv0:=Z.get (e.length-2);refine go Tryz.func198 [(0,qS A ((lim a).length) c),(1,qS D ((lim b).length) d)] rfl (aa z aF (ai (aa z aF (aq 27 z (jp a A c hc b D d hd oM oM _ _ z.g z.f.2.1 z.f.1) (fun w1 h2 z=>?_)))));have ⟨hb3,b1⟩:=dF (p:=(cY a b:Int)<(0:Int)) oM;refine lB 28 hb3 (ah (cK (cQ (aa z [.c,.v (nV ((lim b).length))] ?_))));have hb4:((((lim b).length:Nat):Int) == (1:Int))=false:=gI oM;have b7:=ao hb4;refine lB 32 hb4 (ah (cK (aa z [.c,.v (nV ((lim b).length))] (bg 47 (32*((lim b).length:Nat)) (32*(lim b).length) ?_))));refine lL z ac (aq 49 z (vh b D d hd oM _ _ z.g z.f.1) (fun w5 h6 z=>bg 50 ((32*(lim b).length:Nat)-(nb b:Nat)) s (lL z ac (aE (lL z aF (lC 53 z (jZ b D d hd oM s oM _ _ z.g z.f.1) ?_))))));rintro _ _ _ z ⟨V,c8,rfl,hc9,zu⟩;rw[hvb] at hc9 zu ⊢
 replace z:=z.aS zu;refine lL z ac (aE (lR 54 161 0 ([]) z (fun zj _ _ z=>lL z aF (lC 57 z (jZ a A c hc oM s oM _ _ z.g z.f.r.2.1) ?_))));rintro _ _ _ z ⟨zk,yf,rfl,zU,zv⟩;rw[hva] at zU zv ⊢
 replace z:=z.aS zv;refine Iy 58 161 1 aW 0 zj zk H yf 4 (uW 0) z z.f.1 oM (fun _ _=>by kernel_rfl) (fun yg yi _ _ z=>lR 59 161 2 ([uW 0,uW 0]) z (fun ze _ _ z=>?_));replace z:=z.aS (SlO.of_flat (sz:=1) (f:=aW) (d:=0) (l:=[0,0]) (fun _=>rfl) z.f.1);refine I2 60 0 161 1 yi yg H aW 0 (sB ze) ([0,0]) 2 4 (uW 0) z z.f.1 oM (fun zR zS _ _ z=>lL z ac (aE (lL z [.c,.v (nV e.length),.c] (aE (lL z aF (bg 65 ((e.length:Nat)-1) (e.length-1) ?_))))));refine lX 66 V e.length c8 1 (e.length-1:Nat) (e.length-1) ((z.f.q.1).ok oM) (lH 67 (mW (e.getD (e.length-1) 0)) z ((z.f.q.1).el (e.length-1) oM) (lV 68 (mV (e.getD (e.length-1) 0)) ?_ (hr:=rU (((e.getD (e.length-1) 0:Nat):Int)) kR (az oM oM))));refine lL z ac (aE (lL z aF (bg 71 ((e.length:Nat)-2) (e.length-2) ?_)));refine lX 72 V e.length c8 1 (e.length-2:Nat) (e.length-2) ((z.f.q.1).ok oM) (lH 73 (mW (e.getD (e.length-2) 0)) z ((z.f.q.1).el (e.length-2) oM) (lV 74 (mV (e.getD (e.length-2) 0)) ?_ (hr:=rU (((e.getD (e.length-2) 0:Nat):Int)) kR (az oM oM))));refine lL z ac (lN (bG [(4,sZ),(5,sZ),(8,nV s),(9,qS V e.length c8),(10,qS zR ((H++([0,0])).length) zS),(11,nV e.length),(12,mV (e.getD (e.length-1) 0)),(13,mV (e.getD (e.length-2) 0))] ?_));refine aa z [.c,.v (nV ((H++([0,0])).length)),.c] (bg 78 (((H++([0,0])).length:Nat)-(e.length:Nat)) ((H.length+2)-e.length) ?_);refine lK 79 161 ((H.length+2)-e.length) 1 4 (uW 0) aW 0 z (fun O _ yj z=>?_);have zW:(ta ((H.length+2)-e.length) 0).length=((H.length+2)-e.length):=by simp
 refine lL z ac (ai (aa z [.c,.v (nV ((H++([0,0])).length)),.c] (bg 83 (((H++([0,0])).length:Nat)-(e.length:Nat)) (((H++([0,0])).length:Nat)-e.length) ?_)));refine lV 84 (iV ((((H.length+2)-e.length:Nat):Int)-1)) ?_ (hr:=rS (((((H++([0,0])).length:Nat)-e.length:Nat)-1)) kR ((dS oM oM).trans oM));refine lL z ac (bE ?_);refine bG _ (CG.loop (fun μ_ Γ w_=>∃ (m:Nat)(rA:Z9)(S:Nat)(u:List Nat)(X:List Nat)(M:Hp),μ_=m/\Γ=[(4,sZ),(5,sZ),(8,nV s),(9,qS V e.length c8),(10,qS rA ((u).length) S),(11,nV e.length),(12,mV (e.getD (e.length-1) 0)),(13,mV (e.getD (e.length-2) 0)),(14,qS (sB O) ((H.length+2)-e.length) ((H.length+2)-e.length)),(15,iV ((m:Int)-1))]/\SS w h w_ M [⟨O,161,(X).flatMap aW⟩] [⟨161,1,rA,S,(u).length,(u).flatMap aW⟩] [S3 (sB ze) ([0,0]),fun M=>Seg M ze 0 ([uW 0,uW 0]),S3 zk (H),fun M=>Seg M zj 0 ([]),S3 V (e),S3 D (lim b),S3 A (lim a)]/\m<=(H.length+2)-e.length/\u.length=(H.length+2)/\Ld u/\X.length=(H.length+2)-e.length/\Ld X/\bc u<4294967296^m*bc e/\a*2^s=bc X*bc e+bc u/\(∀ k,k<m->X.getD k 0=0)) _ ⟨(H.length+2)-e.length,zR,zS,H++[0,0],ta ((H.length+2)-e.length) 0,yj,rfl,rfl,z.to _ _,nR _,bt,(Dg.append (hva▸Ld.lim _) (Dg.cons kD (Dg.one kD))),zW,Ld.rep _,(by rw[<-hva,<-hvb];exact vD (hvb▸hvn) hb2 (by rw[hva];omega) (Jn hbp (z8 s))),(by rw[<-hva];exact FB),fun k _=>dG⟩ ?_);rintro _ _ _ ⟨m,rA,S,u,X,_,cr,rfl,z,hm,hul,W,hql,hWq,hR,inv,hq0⟩;refine cQ (aa z ac ?_);cases zm:(decide ((0:Int)<=((m:Int)-1:Int)))
 .
  have zE:=oF zm;refine lB 86 zm (ah (CG.exit ?_))
  show CG _ _ _ _ _ _ _ _
  refine aa z ac ?_;have hm0:m=0:=by omega
  rw[hm0,JI,I8] at hR
  obtain ⟨hQ,hRm⟩:=Fb (show bc e=b*2^s by rw[<-hvb];exact cu _) rfl inv hR;obtain ⟨_,z,br,b9,cm⟩:=z.pub 0;replace z:=(z.to [] [⟨161,1,rA,S,(u).length,(u).flatMap aW⟩]).aS (SlO.of_flat (sz:=1) (f:=aW) (d:=0) (b:=O) (o:=0) (l:=X) (fun _=>rfl) br);refine aq 252 z (iE (sB O) ((H.length+2)-e.length) X ((H.length+2)-e.length) hql oM oM _ _ z.g z.f.1) (fun _ _ z=>lL z ac ?_);obtain ⟨_,z,zX⟩:=z.pubr 0 (A:=rA) (c:=S) (l:=u) (f:=aW) (ty:=161) (sz:=1) 0 (fun _=>rfl);refine aq 254 z (iE rA S u ((u).length) rfl oM zX _ _ z.g z.f.1) (fun _ _ z=>lL z ac (lV 256 (iV (-(s:Int))) ?_ (hr:=rS ((0-(s:Int))) kR (by rw[IntKind.wrap_i64];omega))));refine lC 257 z (CB (bc u) rA S (tl u ((u).length)) (lm W rfl) (by have:=fY u u.length;omega) (by have:=fY u u.length;omega) s oM _ _ z.g (by rw[rB (n:=bc u) W rfl];exact (z.f.1).take _)) ?_;rintro _ _ _ z ⟨yk,yl,rfl,ya,yb⟩;replace z:=z.aS yb;exact lL z aF (af z [] (.tuple #[qS (sB O) (tl X ((H.length+2)-e.length)) ((H.length+2)-e.length),qS yk ((lim (bc u/2^s)).length) yl]) (⟨_,_,rfl,RN.trim hWq hQ hql (nR _) z.f.r.1,by rw[<-hRm];exact ⟨_,_,rfl,ya,z.f.1⟩⟩))
 have zE:=oT zm;refine lB 86 zm (aj (cK (cQ (kZ (cQ (cR 17 [] mixed z aw ?_))))));have hm1:0<m:=by omega
 have hn2:2<=e.length:=by omega
 have hjn:m-1+e.length<u.length:=by omega
 have hR1:bc u<4294967296^(m-1+1)*bc e:=by rw[show m-1+1=m by omega];exact hR
 have hle:=DE hn2 rfl Z W hjn hR1;have hu2:=W.get (m-1+e.length);have hu1:=W.get (m-1+e.length-1);have hu0:=W.get (m-1+e.length-2);refine eV 0 89 (qS rA ((u).length) S) (eV 1 90 (iV ((m:Int)-1)) (eV 2 91 (nV e.length) (iO 3 92 (((m:Int)-1)+(e.length:Nat)) (m-1+e.length) ?_)));obtain ⟨zb,zG⟩:=z.rowA 0 (A:=rA) (c:=S) (m:=(u).length) (ty:=161) (sz:=1) (cs:=(u).flatMap aW) oM;subst zG;refine eX 4 93 (sB zb) ((u).length) S 1 (m-1+e.length:Nat) (m-1+e.length) rfl (HX (ty:=161) (sz:=1) (c:=S) (m:=(u).length) (b:=zb) (cs:=(u).flatMap aW) 5 94 0 (mW (u.getD (m-1+e.length) 0)) (aW (u.getD (m-1+e.length) 0)) z (gM (f:=aW) (sz:=1) (fun _=>rfl) 0 u (m-1+e.length) oM) (eV 6 95 (mV (u.getD (m-1+e.length) 0)) ?_ (hv:=fun _=>rU (((u.getD (m-1+e.length) 0:Nat):Int)) kR (az oM oM))));refine eV 7 96 (mV ((u.getD (m-1+e.length) 0)*4294967296%18446744073709551616)) ?_ (hv:=fun _=>rU ((((u.getD (m-1+e.length) 0:Nat):Int)*4294967296)) kR (iQ (u.getD (m-1+e.length) 0) 4294967296));refine eV 8 97 (qS (sB zb) ((u).length) S) (eV 9 98 (iV ((m:Int)-1)) (eV 10 99 (nV e.length) (iO 11 100 (((m:Int)-1)+(e.length:Nat)) (m-1+e.length) (iO 12 101 ((m-1+e.length:Nat)-1) (m-1+e.length-1) (eX 13 102 (sB zb) ((u).length) S 1 (m-1+e.length-1:Nat) (m-1+e.length-1) rfl (HX (ty:=161) (sz:=1) (c:=S) (m:=(u).length) (b:=zb) (cs:=(u).flatMap aW) 14 103 0 (mW (u.getD (m-1+e.length-1) 0)) (aW (u.getD (m-1+e.length-1) 0)) z (gM (f:=aW) (sz:=1) (fun _=>rfl) 0 u (m-1+e.length-1) oM) (eV 15 104 (mV (u.getD (m-1+e.length-1) 0)) ?_ (hv:=fun _=>rU (((u.getD (m-1+e.length-1) 0:Nat):Int)) kR (az oM oM)))))))));refine eV 16 105 (mV ((u.getD (m-1+e.length) 0)*4294967296+u.getD (m-1+e.length-1) 0)) ?_ (hv:=fun _=>aN (gl (t:=24) (u:=24) (x:=.tmp 96) (y:=.tmp 104) (a:=((u.getD (m-1+e.length) 0)*4294967296%18446744073709551616:Nat)) (b:=(u.getD (m-1+e.length-1) 0)) kR kR kR oM oM _) (by rw[tv (show (u.getD (m-1+e.length) 0)*4294967296<18446744073709551616 by omega),qR hu1]));refine cG z (fun _ ym z=>tV 17 16 (mV ((u.getD (m-1+e.length) 0)*4294967296+u.getD (m-1+e.length-1) 0)) (Av (lL z aF (lV 108 (mV (((u.getD (m-1+e.length) 0)*4294967296+u.getD (m-1+e.length-1) 0:Nat)/(e.getD (e.length-1) 0))) ?_ (hr:=aN (cZ (t:=24) (u:=24) (x:=.tmp 106) (y:=.tmp 107) (k:=.u64) (a:=(((u.getD (m-1+e.length) 0)*4294967296+u.getD (m-1+e.length-1) 0:Nat):Int)) (b:=((e.getD (e.length-1) 0:Nat):Int)) kR kR kR oM _) (jT ((u.getD (m-1+e.length) 0)*4294967296+u.getD (m-1+e.length-1) 0:Nat) (e.getD (e.length-1) 0) oM))))));refine lL z ac (aE (lL z aF (lV 111 (mV (((u.getD (m-1+e.length) 0)*4294967296+u.getD (m-1+e.length-1) 0:Nat)%(e.getD (e.length-1) 0))) ?_ (hr:=aN (dV (t:=24) (u:=24) (x:=.tmp 109) (y:=.tmp 110) (k:=.u64) (a:=(((u.getD (m-1+e.length) 0)*4294967296+u.getD (m-1+e.length-1) 0:Nat):Int)) (b:=((e.getD (e.length-1) 0:Nat):Int)) kR kR kR oM _) (cM ((u.getD (m-1+e.length) 0)*4294967296+u.getD (m-1+e.length-1) 0:Nat) (e.getD (e.length-1) 0))))));refine lL z ac (lN (CG.join (fun Γ w_=>∃ (J:Nat)(M:Hp),Γ=[(4,sZ),(5,sZ),(8,nV s),(9,qS V e.length c8),(10,qS (sB zb) ((u).length) S),(11,nV e.length),(12,mV (e.getD (e.length-1) 0)),(13,mV (e.getD (e.length-2) 0)),(14,qS (sB O) ((H.length+2)-e.length) ((H.length+2)-e.length)),(15,iV ((m:Int)-1)),(17,mV J)]/\SS w h w_ M [⟨O,161,(X).flatMap aW⟩] [⟨161,1,sB zb,S,(u).length,(u).flatMap aW⟩] [S3 (sB ze) ([0,0]),fun M=>Seg M ze 0 ([uW 0,uW 0]),S3 zk (H),fun M=>Seg M zj 0 ([]),S3 V (e),S3 D (lim b),S3 A (lim a)]/\B7 (u.getD (m-1+e.length) 0) (u.getD (m-1+e.length-1) 0) (u.getD (m-1+e.length-2) 0) (e.getD (e.length-1) 0) (e.getD (e.length-2) 0) J) ?_ ?_))
 .
  refine kZ ?_;refine bG _ (CG.loop (fun μ_ Γ w_=>∃ (g:Nat)(Q:Nat)(M:Hp),μ_=g/\Γ=[(4,sZ),(5,sZ),(8,nV s),(9,qS V e.length c8),(10,qS (sB zb) ((u).length) S),(11,nV e.length),(12,mV (e.getD (e.length-1) 0)),(13,mV (e.getD (e.length-2) 0)),(14,qS (sB O) ((H.length+2)-e.length) ((H.length+2)-e.length)),(15,iV ((m:Int)-1)),(17,mV g),(18,mV Q)]/\SS w h w_ M [⟨O,161,(X).flatMap aW⟩] [⟨161,1,sB zb,S,(u).length,(u).flatMap aW⟩] [S3 (sB ze) ([0,0]),fun M=>Seg M ze 0 ([uW 0,uW 0]),S3 zk (H),fun M=>Seg M zj 0 ([]),S3 V (e),S3 D (lim b),S3 A (lim a)]/\Gk (u.getD (m-1+e.length) 0) (u.getD (m-1+e.length-1) 0) (u.getD (m-1+e.length-2) 0) (e.getD (e.length-1) 0) (e.getD (e.length-2) 0) g Q/\Q<4294967296/\g<18446744073709551616) _ ⟨(((u.getD (m-1+e.length) 0)*4294967296+u.getD (m-1+e.length-1) 0:Nat)/(e.getD (e.length-1) 0):Nat),(((u.getD (m-1+e.length) 0)*4294967296+u.getD (m-1+e.length-1) 0:Nat)%(e.getD (e.length-1) 0):Nat),ym,rfl,rfl,z.to _ _,(Gk.start oM hu0),(by have:=ua (u.getD (m-1+e.length) 0*4294967296+u.getD (m-1+e.length-1) 0) (show 0<e.getD (e.length-1) 0 by omega);omega),(by have:=Nat.div_le_self ((u.getD (m-1+e.length) 0)*4294967296+u.getD (m-1+e.length-1) 0) (e.getD (e.length-1) 0);omega)⟩ ?_);rintro _ _ _ ⟨g,Q,zl,b3,rfl,z,hG,hrh,hgb⟩;have cz:=fun hg=>hG.big hg hle hu1
  refine cQ (aa z ac ?_);cases zn:(decide ((4294967296:Int)<=(g:Int)))
  .
   have zH:=oF zn;refine lB 113 zn (lL z aF ?_);cases zo:(decide ((Q:Int)<(4294967296:Int)))
   .
    have zI:=oF zo;refine lB 116 zo (lL z ac (lG 118 ?_));refine lG 119 (lG 120 (lG 121 (lG 122 (lG 123 (lG 124 (lG 125 (lG 126 (lG 127 (lG 128 (lG 129 (lG 130 (lG 131 (lG 132 (lL z [.v qF,.v qF] (ah (CG.exit ?_))))))))))))))));intro a_ Y;exact ⟨_,⟨g,zl,rfl,z.to _ _,(hG.fin oM hv0 (by first|exact .inr oM|exact .inl oM))⟩,Y.to _ kR⟩
   have zI:=oT zo;refine lB 116 zo (lL z dL (lV 120 (mV (g*(e.getD (e.length-2) 0))) ?_ (hr:=rU (((g:Int)*((e.getD (e.length-2) 0:Nat):Int))) kR (fu g (e.getD (e.length-2) 0) (by have:=u5 (show g<4294967296 by omega) hv0;omega)))));refine lL z ac (lV 122 (mV (Q*4294967296)) ?_ (hr:=rU (((Q:Int)*4294967296)) kR ((az oM oM).trans oM)));refine lL z dL (bg 126 (((m:Int)-1)+(e.length:Nat)) (m-1+e.length) ?_);refine bg 127 ((m-1+e.length:Nat)-2) (m-1+e.length-2) (lX 128 (sB zb) ((u).length) S 1 (m-1+e.length-2:Nat) (m-1+e.length-2) rfl (F3 (ty:=161) (sz:=1) (c:=S) (m:=(u).length) (b:=zb) (cs:=(u).flatMap aW) 129 0 (mW (u.getD (m-1+e.length-2) 0)) (aW (u.getD (m-1+e.length-2) 0)) z (gM (f:=aW) (sz:=1) (fun _=>rfl) 0 u (m-1+e.length-2) oM) (lV 130 (mV (u.getD (m-1+e.length-2) 0)) ?_ (hr:=rU (((u.getD (m-1+e.length-2) 0:Nat):Int)) kR (az oM oM)))));refine lV 131 (mV (Q*4294967296+u.getD (m-1+e.length-2) 0)) ?_ (hr:=aN (gl (t:=24) (u:=24) (x:=.tmp 122) (y:=.tmp 130) (a:=(Q*4294967296)) (b:=(u.getD (m-1+e.length-2) 0)) kR kR kR oM oM _) (by rw[qR hu0]));cases zp:(decide (((Q*4294967296+u.getD (m-1+e.length-2) 0:Nat):Int)<((g*(e.getD (e.length-2) 0):Nat):Int)))
   .
    have zJ:=oF zp;refine lB 132 zp (lL z [.v qF,.v qF] (ah (CG.exit ?_)));intro a_ Y;exact ⟨_,⟨g,zl,rfl,z.to _ _,(hG.fin oM hv0 (by first|exact .inr oM|exact .inl oM))⟩,Y.to _ kR⟩
   have zJ:=oT zp;refine lB 132 zp (lL z [.v qT,.v qT] (aj (cK (kZ (aG ?_)))));have hG2:Gk (u.getD (m-1+e.length) 0) (u.getD (m-1+e.length-1) 0) (u.getD (m-1+e.length-2) 0) (e.getD (e.length-1) 0) (e.getD (e.length-2) 0) (g-1) (Q+e.getD (e.length-1) 0):=by first|exact hG.decB oM|exact (hG.decT oM).2
   have hg0:0<g:=by first|omega|exact (hG.decT oM).1
   refine lL z ac (lV 136 (mV (g-1)) ?_ (hr:=rU (((g:Int)-(1:Int))) kR (fc g 1 oM oM)));refine lL z ac (aE (lL z aF (lV 139 (mV (Q+(e.getD (e.length-1) 0))) ?_ (hr:=rU (((Q:Int)+((e.getD (e.length-1) 0:Nat):Int))) kR (dr Q (e.getD (e.length-1) 0) oM)))));refine lL z ac (aE (lL z ac ?_));cases zq:(decide ((4294967296:Int)<=((Q+(e.getD (e.length-1) 0):Nat):Int)))
   .
    have zK:=oF zq;refine lB 141 zq (lN (bG [(4,sZ),(5,sZ),(8,nV s),(9,qS V e.length c8),(10,qS (sB zb) ((u).length) S),(11,nV e.length),(12,mV (e.getD (e.length-1) 0)),(13,mV (e.getD (e.length-2) 0)),(14,qS (sB O) ((H.length+2)-e.length) ((H.length+2)-e.length)),(15,iV ((m:Int)-1)),(17,mV (g-1)),(18,mV (Q+(e.getD (e.length-1) 0))),(141,qF)] ?_));refine da (CG.skip ?_);intro a_ Y;refine ⟨_,_,?_,⟨g-1,(Q+(e.getD (e.length-1) 0):Nat),zl,rfl,rfl,z.to _ _,hG2,oM,oM⟩,Y.to _ kR⟩
    omega
   have zK:=oT zq;refine lB 141 zq (lN (bG [(4,sZ),(5,sZ),(8,nV s),(9,qS V e.length c8),(10,qS (sB zb) ((u).length) S),(11,nV e.length),(12,mV (e.getD (e.length-1) 0)),(13,mV (e.getD (e.length-2) 0)),(14,qS (sB O) ((H.length+2)-e.length) ((H.length+2)-e.length)),(15,iV ((m:Int)-1)),(17,mV (g-1)),(18,mV (Q+(e.getD (e.length-1) 0))),(141,qT)] ?_));refine ci (CG.exit ?_);have bq:=fun hg=>hG2.big hg hle hu1
   intro a_ Y;exact ⟨_,⟨(g-1),zl,rfl,z.to _ _,(hG2.fin oM hv0 (.inl oM))⟩,Y.to _ kR⟩
  have zH:=oT zn;refine lB 113 zn (lL z ac (lG 115 ?_));refine lG 116 (lG 117 (lG 118 (lG 119 (lG 120 (lG 121 (lG 122 (lG 123 (lG 124 (lG 125 (lG 126 (lG 127 (lG 128 (lG 129 (lG 130 (lG 131 (lG 132 (lG 133 (lL z [.v qT] (aj (cK (kZ (aG ?_))))))))))))))))))))));have hG2:Gk (u.getD (m-1+e.length) 0) (u.getD (m-1+e.length-1) 0) (u.getD (m-1+e.length-2) 0) (e.getD (e.length-1) 0) (e.getD (e.length-2) 0) (g-1) (Q+e.getD (e.length-1) 0):=by first|exact hG.decB oM|exact (hG.decT oM).2
  have hg0:0<g:=by first|omega|exact (hG.decT oM).1
  refine lL z ac (lV 136 (mV (g-1)) ?_ (hr:=rU (((g:Int)-(1:Int))) kR (fc g 1 oM oM)));refine lL z ac (aE (lL z aF (lV 139 (mV (Q+(e.getD (e.length-1) 0))) ?_ (hr:=rU (((Q:Int)+((e.getD (e.length-1) 0:Nat):Int))) kR (dr Q (e.getD (e.length-1) 0) oM)))));refine lL z ac (aE (lL z ac ?_));cases zr:(decide ((4294967296:Int)<=((Q+(e.getD (e.length-1) 0):Nat):Int)))
  .
   have zL:=oF zr;refine lB 141 zr (lN (bG [(4,sZ),(5,sZ),(8,nV s),(9,qS V e.length c8),(10,qS (sB zb) ((u).length) S),(11,nV e.length),(12,mV (e.getD (e.length-1) 0)),(13,mV (e.getD (e.length-2) 0)),(14,qS (sB O) ((H.length+2)-e.length) ((H.length+2)-e.length)),(15,iV ((m:Int)-1)),(17,mV (g-1)),(18,mV (Q+(e.getD (e.length-1) 0))),(141,qF)] ?_));refine da (CG.skip ?_);intro a_ Y;refine ⟨_,_,?_,⟨g-1,(Q+(e.getD (e.length-1) 0):Nat),zl,rfl,rfl,z.to _ _,hG2,oM,oM⟩,Y.to _ kR⟩
   omega
  have zL:=oT zr;refine lB 141 zr (lN (bG [(4,sZ),(5,sZ),(8,nV s),(9,qS V e.length c8),(10,qS (sB zb) ((u).length) S),(11,nV e.length),(12,mV (e.getD (e.length-1) 0)),(13,mV (e.getD (e.length-2) 0)),(14,qS (sB O) ((H.length+2)-e.length) ((H.length+2)-e.length)),(15,iV ((m:Int)-1)),(17,mV (g-1)),(18,mV (Q+(e.getD (e.length-1) 0))),(141,qT)] ?_));refine ci (CG.exit ?_);have bq:=fun hg=>hG2.big hg hle hu1
  intro a_ Y;exact ⟨_,⟨(g-1),zl,rfl,z.to _ _,(hG2.fin oM hv0 (.inl oM))⟩,Y.to _ kR⟩
 rintro _ _ ⟨J,yn,rfl,z,hH⟩;refine aG ?_;have hgl:=hH.2.2;have hGd:=vE (n:=e.length) (j:=m-1) hn2 rfl Z W hjn bb hR1 hH;refine lL z ac (aE (lL z ac (ai (aa z ac (bE ?_)))));refine bG _ (CG.loop (fun μ_ Γ w_=>∃ (i:Nat)(raA:Z9)(I:Nat)(C:List Nat)(K:Nat)(U:Nat)(M:Hp),μ_=e.length-i/\Γ=[(4,sZ),(5,sZ),(8,nV s),(9,qS V e.length c8),(10,qS raA ((C).length) I),(11,nV e.length),(12,mV (e.getD (e.length-1) 0)),(13,mV (e.getD (e.length-2) 0)),(14,qS (sB O) ((H.length+2)-e.length) ((H.length+2)-e.length)),(15,iV ((m:Int)-1)),(17,mV J),(21,nV i),(19,mV K),(20,mV U)]/\SS w h w_ M [⟨O,161,(X).flatMap aW⟩] [⟨161,1,raA,I,(C).length,(C).flatMap aW⟩] [S3 (sB ze) ([0,0]),fun M=>Seg M ze 0 ([uW 0,uW 0]),S3 zk (H),fun M=>Seg M zj 0 ([]),S3 V (e),S3 D (lim b),S3 A (lim a)]/\i<=e.length/\C.length=(H.length+2)/\Ld C/\K<4294967296/\U<=1/\am 4294967296 C+4294967296^(m-1)*(J*am 4294967296 (e.take i))=bc u+4294967296^(m-1+i)*(K+U)/\Above C u (m-1+e.length+1)) _ ⟨0,sB zb,S,u,0,0,yn,rfl,rfl,z.to _ _,JH _,hul,W,oM,oM,(by show am _ u+_=am _ u+_;simp[am]),Above.refl _ _⟩ ?_);rintro _ _ _ ⟨i,raA,I,C,K,U,zw,b5,rfl,z,hi,hua,hWa,hcy,hbo,bk,bm⟩;have cx:=hWa.get (m-1+i);have hvi:=Z.get i;refine cQ (aa z aF ?_);cases zs:(decide ((i:Int)<(e.length:Int)))
 .
  have zM:=oF zs;refine lB 144 zs (ah (CG.exit ?_))
  show CG _ _ _ _ _ _ _ _
  refine aG ?_;have cq:=hWa.get (m-1+e.length);refine lL z dL (bg 182 (((m:Int)-1)+(e.length:Nat)) (m-1+e.length) ?_);obtain ⟨zd,zN⟩:=z.rowA 0 (A:=raA) (c:=I) (m:=(C).length) (ty:=161) (sz:=1) (cs:=(C).flatMap aW) oM;subst zN;refine lX 183 (sB zd) ((C).length) I 1 (m-1+e.length:Nat) (m-1+e.length) rfl (F3 (ty:=161) (sz:=1) (c:=I) (m:=(C).length) (b:=zd) (cs:=(C).flatMap aW) 184 0 (mW (C.getD (m-1+e.length) 0)) (aW (C.getD (m-1+e.length) 0)) z (gM (f:=aW) (sz:=1) (fun _=>rfl) 0 C (m-1+e.length) oM) (lV 185 (mV (C.getD (m-1+e.length) 0)) ?_ (hr:=rU (((C.getD (m-1+e.length) 0:Nat):Int)) kR (az oM oM))));refine lL z ac (lV 187 (mV (((C.getD (m-1+e.length) 0)+(18446744073709551616-K))%18446744073709551616)) ?_ (hr:=rU ((((C.getD (m-1+e.length) 0:Nat):Int)-(K:Int))) kR (j5 (C.getD (m-1+e.length) 0) K oM)));refine lL z ac (lV 189 (mV (((((C.getD (m-1+e.length) 0)+(18446744073709551616-K))%18446744073709551616:Nat)+(18446744073709551616-U))%18446744073709551616)) ?_ (hr:=rU ((((((C.getD (m-1+e.length) 0)+(18446744073709551616-K))%18446744073709551616:Nat):Int)-(U:Int))) kR (j5 (((C.getD (m-1+e.length) 0)+(18446744073709551616-K))%18446744073709551616:Nat) U oM)));refine lL z ac (aE ?_);obtain ⟨t3_,ht3_⟩:∃ x:Nat,x=(((((C.getD (m-1+e.length) 0)+(18446744073709551616-K))%18446744073709551616:Nat)+(18446744073709551616-U))%18446744073709551616:Nat):=⟨_,rfl⟩;rw[<-ht3_];rw[show i=e.length by omega] at bk
  obtain ⟨hT1,hT2⟩:=xF (t:=t3_) (hWa.get (m-1+e.length)) hcy hbo ht3_;have hE:=vn oM bk (s:=(t3_%4294967296)) (bo':=t3_/9223372036854775808) oM;refine lL z dL (bg 193 (((m:Int)-1)+(e.length:Nat)) (m-1+e.length) ?_);refine lL z ac (lV 195 (mW (t3_%4294967296)) ?_ (hr:=rT ((t3_:Int)) kR (fV _)));refine lX 196 (sB zd) ((C).length) I 1 (m-1+e.length:Nat) (m-1+e.length) rfl (Hq (ty:=161) (c:=I) (b:=zd) 0 (m-1+e.length) 0 ([mW (t3_%4294967296)]) C aW 1 0 (t3_%4294967296) z oM (fun _ z=>?_));replace z:=z.to [⟨O,161,(X).flatMap aW⟩] [⟨161,1,sB zd,I,(C).length,(C.set (m-1+e.length) (t3_%4294967296)).flatMap aW⟩];refine lN (CG.join (fun Γ w_=>∃ (gz:Nat)(rzA:Z9)(rzc:Nat)(uz:List Nat)(M:Hp),Γ=[(4,sZ),(5,sZ),(8,nV s),(9,qS V e.length c8),(11,nV e.length),(12,mV (e.getD (e.length-1) 0)),(13,mV (e.getD (e.length-2) 0)),(14,qS (sB O) ((H.length+2)-e.length) ((H.length+2)-e.length)),(15,iV ((m:Int)-1)),(17,mV gz),(10,qS rzA ((uz).length) rzc)]/\SS w h w_ M [⟨O,161,(X).flatMap aW⟩] [⟨161,1,rzA,rzc,(uz).length,(uz).flatMap aW⟩] [S3 (sB ze) ([0,0]),fun M=>Seg M ze 0 ([uW 0,uW 0]),S3 zk (H),fun M=>Seg M zj 0 ([]),S3 V (e),S3 D (lim b),S3 A (lim a)]/\uz.length=(H.length+2)/\Ld uz/\gz<4294967296/\bc uz<4294967296^(m-1)*bc e/\bc uz+4294967296^(m-1)*(gz*bc e)=bc u) ?_ ?_)
  .
   refine aG ?_;have hW4:Ld (C.set (m-1+e.length) (t3_%4294967296)):=hWa.set _ (ua _ kD);have bd:Above (C.set (m-1+e.length) (t3_%4294967296)) u (m-1+e.length+1):=bm.set oM oM;have hl4:(C.set (m-1+e.length) (t3_%4294967296)).length=(H.length+2):=by rw[Jt];exact hua
   refine lL z ac (lV 198 (mV (t3_/9223372036854775808)) ?_ (hr:=aN (n:=JF (t3_:Int) 9223372036854775808) kR (dH _ 9223372036854775808)));cases zt:(((t3_/9223372036854775808:Nat):Int) == (1:Int))
   .
    have zP:=ao zt;refine lB 199 zt (ah (CG.skip ?_));have hD_:=BR hn2 rfl Z W hW4 hjn bb hR1 hGd bd (by rw[show t3_/9223372036854775808=0 by omega] at hE;exact hE);have hDw:=hW4;have hDg:=hgl;have hDu:=hD_.1;have hDe:=hD_.2;have hDl:=hl4;intro a_ Y;replace z:=z.rown [⟨161,1,sB zd,I,(C.set (m-1+e.length) (t3_%4294967296)).length,(C.set (m-1+e.length) (t3_%4294967296)).flatMap aW⟩] (by simp only[Jt]);exact ⟨_,⟨J,sB zd,I,C.set (m-1+e.length) (t3_%4294967296),zw,rfl,z.to _ _,hDl,hDw,hDg,hDu,hDe⟩,Y.to _ (by simp only[Jt];kernel_rfl)⟩
   have zP:=eq_of_beq zt;refine lB 199 zt (aj (aa z ac ?_));have hE1:=hE;rw[show t3_/9223372036854775808=1 by omega] at hE1
   have hgp:=D5 hn2 rfl Z W hW4 hjn bb hR1 hGd bd hE1;refine lV 201 (mV (J-1)) ?_ (hr:=rU (((J:Int)-(1:Int))) kR (fc J 1 oM oM));refine lL z ac (lN (bG [(4,sZ),(5,sZ),(8,nV s),(9,qS V e.length c8),(10,qS (sB zd) ((C).length) I),(11,nV e.length),(12,mV (e.getD (e.length-1) 0)),(13,mV (e.getD (e.length-2) 0)),(14,qS (sB O) ((H.length+2)-e.length) ((H.length+2)-e.length)),(15,iV ((m:Int)-1)),(17,mV (J-1)),(19,mV K)] ?_));refine aa z ac (ai (aa z ac (bE ?_)));replace z:=z.rown [⟨161,1,sB zd,I,(C.set (m-1+e.length) (t3_%4294967296)).length,(C.set (m-1+e.length) (t3_%4294967296)).flatMap aW⟩] (by simp only[Jt]);refine bG _ (CG.loop (fun μ_ Γ w_=>∃ (F:Nat)(rbA:Z9)(L:Nat)(B:List Nat)(c2:Nat)(M:Hp),μ_=e.length-F/\Γ=[(4,sZ),(5,sZ),(8,nV s),(9,qS V e.length c8),(10,qS rbA ((B).length) L),(11,nV e.length),(12,mV (e.getD (e.length-1) 0)),(13,mV (e.getD (e.length-2) 0)),(14,qS (sB O) ((H.length+2)-e.length) ((H.length+2)-e.length)),(15,iV ((m:Int)-1)),(17,mV (J-1)),(24,nV F),(19,mV c2)]/\SS w h w_ M [⟨O,161,(X).flatMap aW⟩] [⟨161,1,rbA,L,(B).length,(B).flatMap aW⟩] [S3 (sB ze) ([0,0]),fun M=>Seg M ze 0 ([uW 0,uW 0]),S3 zk (H),fun M=>Seg M zj 0 ([]),S3 V (e),S3 D (lim b),S3 A (lim a)]/\F<=e.length/\B.length=(H.length+2)/\Ld B/\c2<=1/\am 4294967296 B+4294967296^(m-1+F)*c2=am 4294967296 (C.set (m-1+e.length) (t3_%4294967296))+4294967296^(m-1)*am 4294967296 (e.take F)/\Above B u (m-1+e.length+1)) _ ⟨0,sB zd,I,C.set (m-1+e.length) (t3_%4294967296),0,zw,rfl,(by simp only[Jt]<;>rfl),z.to _ _,JH _,hl4,hW4,oM,(by simp[am]),bd⟩ ?_);rintro _ _ _ ⟨F,rbA,L,B,c2,yc,b0,rfl,z,hi2,hub,hWb,hc2,bl,bp⟩;refine cQ (aa z aF ?_);cases zi:(decide ((F:Int)<(e.length:Int)))
   .
    have zx:=oF zi;refine lB 204 zi (ah (CG.exit ?_))
    show CG _ _ _ _ _ _ _ _
    refine kQ ?_;have ch:=hWb.get (m-1+e.length);refine lL z dL (bg 234 (((m:Int)-1)+(e.length:Nat)) (m-1+e.length) ?_);refine lL z dL (bg 238 (((m:Int)-1)+(e.length:Nat)) (m-1+e.length) ?_);obtain ⟨zf,zA⟩:=z.rowA 0 (A:=rbA) (c:=L) (m:=(B).length) (ty:=161) (sz:=1) (cs:=(B).flatMap aW) oM;subst zA;refine lX 239 (sB zf) ((B).length) L 1 (m-1+e.length:Nat) (m-1+e.length) rfl (F3 (ty:=161) (sz:=1) (c:=L) (m:=(B).length) (b:=zf) (cs:=(B).flatMap aW) 240 0 (mW (B.getD (m-1+e.length) 0)) (aW (B.getD (m-1+e.length) 0)) z (gM (f:=aW) (sz:=1) (fun _=>rfl) 0 B (m-1+e.length) oM) (lV 241 (mV (B.getD (m-1+e.length) 0)) ?_ (hr:=rU (((B.getD (m-1+e.length) 0:Nat):Int)) kR (az oM oM))));refine lL z ac (lV 243 (mV ((B.getD (m-1+e.length) 0)+c2)) ?_ (hr:=rU ((((B.getD (m-1+e.length) 0:Nat):Int)+(c2:Int))) kR (dr (B.getD (m-1+e.length) 0) c2 oM)));refine lV 244 (mW (((B.getD (m-1+e.length) 0)+c2:Nat)%4294967296)) ?_ (hr:=rT ((((B.getD (m-1+e.length) 0)+c2:Nat):Int)) kR (fV _));refine lX 245 (sB zf) ((B).length) L 1 (m-1+e.length:Nat) (m-1+e.length) rfl (Hq (ty:=161) (c:=L) (b:=zf) 0 (m-1+e.length) 0 ([mW (((B.getD (m-1+e.length) 0)+c2:Nat)%4294967296)]) B aW 1 0 (((B.getD (m-1+e.length) 0)+c2:Nat)%4294967296:Nat) z oM (fun _ z=>?_));replace z:=z.to [⟨O,161,(X).flatMap aW⟩] [⟨161,1,sB zf,L,(B).length,(B.set (m-1+e.length) (((B.getD (m-1+e.length) 0)+c2:Nat)%4294967296:Nat)).flatMap aW⟩];refine lD ?_;rw[show F=e.length by omega] at bl
    have hE3:=uI (s:=(B.getD (m-1+e.length) 0+c2)%4294967296) (c':=(B.getD (m-1+e.length) 0+c2)/4294967296) oM bl (Js _ _);have hDw:Ld (B.set (m-1+e.length) (((B.getD (m-1+e.length) 0)+c2:Nat)%4294967296:Nat)):=hWb.set _ (ua _ kD);obtain ⟨hDu,hDe,hDp⟩:=EY hn2 rfl Z W hW4 hDw hjn bb hR1 hGd bd (bp.set oM oM) hE1 hE3;have hDg:J-1<4294967296:=by omega
    have hDl:(B.set (m-1+e.length) (((B.getD (m-1+e.length) 0)+c2:Nat)%4294967296:Nat)).length=(H.length+2):=by rw[Jt];exact hub
    intro a_ Y;replace z:=z.rown [⟨161,1,sB zf,L,(B.set (m-1+e.length) (((B.getD (m-1+e.length) 0)+c2:Nat)%4294967296:Nat)).length,(B.set (m-1+e.length) (((B.getD (m-1+e.length) 0)+c2:Nat)%4294967296:Nat)).flatMap aW⟩] (by simp only[Jt]);exact ⟨_,⟨(J-1),sB zf,L,B.set (m-1+e.length) (((B.getD (m-1+e.length) 0)+c2:Nat)%4294967296:Nat),yc,rfl,z.to _ _,hDl,hDw,hDg,hDu,hDe⟩,Y.to _ (by simp only[Jt];kernel_rfl)⟩
   have zx:=oT zi;refine lB 204 zi (aj (cK (cQ (kZ (cQ (cR 15 [] mixed z aw ?_))))));have b4:=Z.get F;have b2:=hWb.get (m-1+F);refine eV 0 207 (mV c2) (eV 1 208 (qS rbA ((B).length) L) (eV 2 209 (iV ((m:Int)-1)) (eV 3 210 (nV F) (iO 4 211 (((m:Int)-1)+(F:Nat)) (m-1+F) ?_))));obtain ⟨zg,zB⟩:=z.rowA 0 (A:=rbA) (c:=L) (m:=(B).length) (ty:=161) (sz:=1) (cs:=(B).flatMap aW) oM;subst zB;refine eX 5 212 (sB zg) ((B).length) L 1 (m-1+F:Nat) (m-1+F) rfl (HX (ty:=161) (sz:=1) (c:=L) (m:=(B).length) (b:=zg) (cs:=(B).flatMap aW) 6 213 0 (mW (B.getD (m-1+F) 0)) (aW (B.getD (m-1+F) 0)) z (gM (f:=aW) (sz:=1) (fun _=>rfl) 0 B (m-1+F) oM) (eV 7 214 (mV (B.getD (m-1+F) 0)) ?_ (hv:=fun _=>rU (((B.getD (m-1+F) 0:Nat):Int)) kR (az oM oM))));refine eV 8 215 (mV (c2+(B.getD (m-1+F) 0))) ?_ (hv:=fun _=>rU (((c2:Int)+((B.getD (m-1+F) 0:Nat):Int))) kR (dr c2 (B.getD (m-1+F) 0) oM));refine eV 9 216 (qS V e.length c8) (eV 10 217 (nV F) (eX 11 218 V e.length c8 1 (F:Nat) F ((z.f.q.1).ok oM) (eH 12 219 (mW (e.getD F 0)) z ((z.f.q.1).el F oM) (eV 13 220 (mV (e.getD F 0)) ?_ (hv:=fun _=>rU (((e.getD F 0:Nat):Int)) kR (az oM oM))))));refine eV 14 221 (mV ((c2+(B.getD (m-1+F) 0):Nat)+(e.getD F 0))) ?_ (hv:=fun _=>rU ((((c2+(B.getD (m-1+F) 0):Nat):Int)+((e.getD F 0:Nat):Int))) kR (dr (c2+(B.getD (m-1+F) 0):Nat) (e.getD F 0) oM));refine cG z (fun _ yd z=>tV 15 19 (mV ((c2+(B.getD (m-1+F) 0):Nat)+(e.getD F 0))) (Av (lL z dL (bg 225 (((m:Int)-1)+(F:Nat)) (m-1+F) ?_))));refine lL z ac (lV 227 (mW (((c2+(B.getD (m-1+F) 0):Nat)+(e.getD F 0):Nat)%4294967296)) ?_ (hr:=rT ((((c2+(B.getD (m-1+F) 0):Nat)+(e.getD F 0):Nat):Int)) kR (fV _)));refine lX 228 (sB zg) ((B).length) L 1 (m-1+F:Nat) (m-1+F) rfl (Hq (ty:=161) (c:=L) (b:=zg) 0 (m-1+F) 0 ([mW (((c2+(B.getD (m-1+F) 0):Nat)+(e.getD F 0):Nat)%4294967296)]) B aW 1 0 (((c2+(B.getD (m-1+F) 0):Nat)+(e.getD F 0):Nat)%4294967296:Nat) z oM (fun _ z=>?_));replace z:=z.to [⟨O,161,(X).flatMap aW⟩] [⟨161,1,sB zg,L,(B).length,(B.set (m-1+F) (((c2+(B.getD (m-1+F) 0):Nat)+(e.getD F 0):Nat)%4294967296:Nat)).flatMap aW⟩];refine lN (kQ (lL z ac (lV 230 (mV (((c2+(B.getD (m-1+F) 0):Nat)+(e.getD F 0):Nat)/4294967296)) ?_ (hr:=aN (n:=JF (((c2+(B.getD (m-1+F) 0):Nat)+(e.getD F 0):Nat):Int) 4294967296) kR (dH _ 4294967296)))));refine lL z ac (lN (kQ (lL z ac (bg 206 ((F:Nat)+1) (F+1) ?_))));refine lL z ac (lD ?_);intro a_ Y;replace z:=z.rown [⟨161,1,sB zg,L,(B.set (m-1+F) (((c2+(B.getD (m-1+F) 0):Nat)+(e.getD F 0):Nat)%4294967296:Nat)).length,(B.set (m-1+F) (((c2+(B.getD (m-1+F) 0):Nat)+(e.getD F 0):Nat)%4294967296:Nat)).flatMap aW⟩] (by simp only[Jt]);refine ⟨_,_,?_,⟨F+1,sB zg,L,B.set (m-1+F) (((c2+(B.getD (m-1+F) 0):Nat)+(e.getD F 0):Nat)%4294967296:Nat),(((c2+(B.getD (m-1+F) 0):Nat)+(e.getD F 0):Nat)/4294967296:Nat),yd,rfl,rfl,z.to _ _,oM,(by rw[Jt];exact hub),(hWb.set _ (ua _ kD)),oM,(rX oM bl (Js _ _ |>.trans oM)),(bp.set oM oM)⟩,Y.to _ (by simp only[Jt];kernel_rfl)⟩
   omega
  rintro _ _ ⟨gz,rzA,rzc,uz,ye,rfl,z,hDl,hDw,hDg,hDu,hDe⟩;refine kQ (lL z dL (lV 249 (mW gz) ?_ (hr:=rT ((gz:Int)) kR (ns oM oM))));refine lX 250 (sB O) ((H.length+2)-e.length) ((H.length+2)-e.length) 1 ((m:Int)-1) (m-1) rfl (lW 0 X aW 1 (m-1) gz z oM (fun _ z=>?_));have zQ:((X).set (m-1) gz).length=((H.length+2)-e.length):=by rw[Jt];exact hql
  replace z:=z.to [⟨O,161,((X).set (m-1) gz).flatMap aW⟩] [⟨161,1,rzA,rzc,(uz).length,(uz).flatMap aW⟩];refine lN (kQ (lL z ac (lV 88 (iV (((m-1:Nat):Int)-1)) ?_ (hr:=rS ((((m:Int)-1)-1)) kR ((dS oM oM).trans oM)))));refine lL z ac (lD ?_);intro a_ Y;refine ⟨_,_,?_,⟨m-1,rzA,rzc,uz,(X).set (m-1) gz,ye,rfl,rfl,z.to _ _,oM,hDl,hDw,zQ,(hWq.set _ hDg),hDu,(DN oM (hq0 _ oM) inv hDe),(fun k hk=>by rw[bC oM,if_neg oM];exact hq0 k oM)⟩,Y.to _ kR⟩
  omega
 have zM:=oT zs;refine lB 144 zs (aj (cK (cQ (kZ (aG ?_)))));have hgv:=u5 hgl hvi;refine lL z m4 (lX 151 V e.length c8 1 (i:Nat) i ((z.f.q.1).ok oM) ?_);refine lH 152 (mW (e.getD i 0)) z ((z.f.q.1).el i oM) (lV 153 (mV (e.getD i 0)) ?_ (hr:=rU (((e.getD i 0:Nat):Int)) kR (az oM oM)));refine lV 154 (mV (J*(e.getD i 0))) ?_ (hr:=rU (((J:Int)*((e.getD i 0:Nat):Int))) kR (fu J (e.getD i 0) oM));refine lV 155 (mV (K+(J*(e.getD i 0)))) ?_ (hr:=rU (((K:Int)+((J*(e.getD i 0):Nat):Int))) kR (dr K (J*(e.getD i 0)) oM));refine lL z ac (aE (lL z dL (bg 159 (((m:Int)-1)+(i:Nat)) (m-1+i) ?_)));obtain ⟨zc,zD⟩:=z.rowA 0 (A:=raA) (c:=I) (m:=(C).length) (ty:=161) (sz:=1) (cs:=(C).flatMap aW) oM;subst zD;refine lX 160 (sB zc) ((C).length) I 1 (m-1+i:Nat) (m-1+i) rfl (F3 (ty:=161) (sz:=1) (c:=I) (m:=(C).length) (b:=zc) (cs:=(C).flatMap aW) 161 0 (mW (C.getD (m-1+i) 0)) (aW (C.getD (m-1+i) 0)) z (gM (f:=aW) (sz:=1) (fun _=>rfl) 0 C (m-1+i) oM) (lV 162 (mV (C.getD (m-1+i) 0)) ?_ (hr:=rU (((C.getD (m-1+i) 0:Nat):Int)) kR (az oM oM))));refine lL z ac (lV 164 (mV ((K+(J*(e.getD i 0)):Nat)%4294967296)) ?_ (hr:=qK (t:=24) (u:=24) (x:=.tmp 163) (y:=.const (uV 4294967295)) (a:=(K+(J*(e.getD i 0)):Nat)) (m:=4294967295) 32 kR kR kR oM kD _));refine lV 165 (mV (((C.getD (m-1+i) 0)+(18446744073709551616-((K+(J*(e.getD i 0)):Nat)%4294967296:Nat)))%18446744073709551616)) ?_ (hr:=rU ((((C.getD (m-1+i) 0:Nat):Int)-(((K+(J*(e.getD i 0)):Nat)%4294967296:Nat):Int))) kR (j5 (C.getD (m-1+i) 0) ((K+(J*(e.getD i 0)):Nat)%4294967296:Nat) oM));refine lL z ac (lV 167 (mV (((((C.getD (m-1+i) 0)+(18446744073709551616-((K+(J*(e.getD i 0)):Nat)%4294967296:Nat)))%18446744073709551616:Nat)+(18446744073709551616-U))%18446744073709551616)) ?_ (hr:=rU ((((((C.getD (m-1+i) 0)+(18446744073709551616-((K+(J*(e.getD i 0)):Nat)%4294967296:Nat)))%18446744073709551616:Nat):Int)-(U:Int))) kR (j5 (((C.getD (m-1+i) 0)+(18446744073709551616-((K+(J*(e.getD i 0)):Nat)%4294967296:Nat)))%18446744073709551616:Nat) U oM)));refine lL z ac (aE ?_);obtain ⟨hS1,hS2⟩:=xF (t:=(((((C.getD (m-1+i) 0)+(18446744073709551616-((K+(J*(e.getD i 0)):Nat)%4294967296:Nat)))%18446744073709551616:Nat)+(18446744073709551616-U))%18446744073709551616:Nat)) (hWa.get (m-1+i)) (ua ((K+(J*(e.getD i 0)):Nat)) (show 0<4294967296 by decide)) hbo rfl;refine lL z dL (bg 171 (((m:Int)-1)+(i:Nat)) (m-1+i) ?_);refine lL z ac (lV 173 (mW ((((((C.getD (m-1+i) 0)+(18446744073709551616-((K+(J*(e.getD i 0)):Nat)%4294967296:Nat)))%18446744073709551616:Nat)+(18446744073709551616-U))%18446744073709551616:Nat)%4294967296)) ?_ (hr:=rT (((((((C.getD (m-1+i) 0)+(18446744073709551616-((K+(J*(e.getD i 0)):Nat)%4294967296:Nat)))%18446744073709551616:Nat)+(18446744073709551616-U))%18446744073709551616:Nat):Int)) kR (fV _)));refine lX 174 (sB zc) ((C).length) I 1 (m-1+i:Nat) (m-1+i) rfl (Hq (ty:=161) (c:=I) (b:=zc) 0 (m-1+i) 0 ([mW ((((((C.getD (m-1+i) 0)+(18446744073709551616-((K+(J*(e.getD i 0)):Nat)%4294967296:Nat)))%18446744073709551616:Nat)+(18446744073709551616-U))%18446744073709551616:Nat)%4294967296)]) C aW 1 0 ((((((C.getD (m-1+i) 0)+(18446744073709551616-((K+(J*(e.getD i 0)):Nat)%4294967296:Nat)))%18446744073709551616:Nat)+(18446744073709551616-U))%18446744073709551616:Nat)%4294967296:Nat) z oM (fun _ z=>?_));replace z:=z.to [⟨O,161,(X).flatMap aW⟩] [⟨161,1,sB zc,I,(C).length,(C.set (m-1+i) ((((((C.getD (m-1+i) 0)+(18446744073709551616-((K+(J*(e.getD i 0)):Nat)%4294967296:Nat)))%18446744073709551616:Nat)+(18446744073709551616-U))%18446744073709551616:Nat)%4294967296:Nat)).flatMap aW⟩];refine lN (bG [(4,sZ),(5,sZ),(8,nV s),(9,qS V e.length c8),(10,qS (sB zc) ((C).length) I),(11,nV e.length),(12,mV (e.getD (e.length-1) 0)),(13,mV (e.getD (e.length-2) 0)),(14,qS (sB O) ((H.length+2)-e.length) ((H.length+2)-e.length)),(15,iV ((m:Int)-1)),(17,mV J),(21,nV i),(19,mV (K+(J*(e.getD i 0)))),(20,mV U),(22,mV (((((C.getD (m-1+i) 0)+(18446744073709551616-((K+(J*(e.getD i 0)):Nat)%4294967296:Nat)))%18446744073709551616:Nat)+(18446744073709551616-U))%18446744073709551616))] ?_);refine aa z ac (lV 176 (mV ((((((C.getD (m-1+i) 0)+(18446744073709551616-((K+(J*(e.getD i 0)):Nat)%4294967296:Nat)))%18446744073709551616:Nat)+(18446744073709551616-U))%18446744073709551616:Nat)/9223372036854775808)) ?_ (hr:=aN (n:=JF ((((((C.getD (m-1+i) 0)+(18446744073709551616-((K+(J*(e.getD i 0)):Nat)%4294967296:Nat)))%18446744073709551616:Nat)+(18446744073709551616-U))%18446744073709551616:Nat):Int) 9223372036854775808) kR (dH _ 9223372036854775808)));refine lL z ac (lN (kQ (lL z ac (lV 178 (mV ((K+(J*(e.getD i 0)):Nat)/4294967296)) ?_ (hr:=aN (n:=JF ((K+(J*(e.getD i 0)):Nat):Int) 4294967296) kR (dH _ 4294967296))))));refine lL z ac (lN (kQ (lL z ac (bg 146 ((i:Nat)+1) (i+1) ?_))));refine lL z ac (lD ?_);intro a_ Y;replace z:=z.rown [⟨161,1,sB zc,I,(C.set (m-1+i) ((((((C.getD (m-1+i) 0)+(18446744073709551616-((K+(J*(e.getD i 0)):Nat)%4294967296:Nat)))%18446744073709551616:Nat)+(18446744073709551616-U))%18446744073709551616:Nat)%4294967296:Nat)).length,(C.set (m-1+i) ((((((C.getD (m-1+i) 0)+(18446744073709551616-((K+(J*(e.getD i 0)):Nat)%4294967296:Nat)))%18446744073709551616:Nat)+(18446744073709551616-U))%18446744073709551616:Nat)%4294967296:Nat)).flatMap aW⟩] (by simp only[Jt]);refine ⟨_,_,?_,⟨i+1,sB zc,I,C.set (m-1+i) ((((((C.getD (m-1+i) 0)+(18446744073709551616-((K+(J*(e.getD i 0)):Nat)%4294967296:Nat)))%18446744073709551616:Nat)+(18446744073709551616-U))%18446744073709551616:Nat)%4294967296:Nat),((K+(J*(e.getD i 0)):Nat)/4294967296:Nat),((((((C.getD (m-1+i) 0)+(18446744073709551616-((K+(J*(e.getD i 0)):Nat)%4294967296:Nat)))%18446744073709551616:Nat)+(18446744073709551616-U))%18446744073709551616:Nat)/9223372036854775808:Nat),zw,rfl,rfl,z.to _ _,oM,(by rw[Jt];exact hua),(hWa.set _ (ua _ kD)),oM,hS2,(rM (t:=((K+(J*(e.getD i 0)):Nat))%4294967296) oM bk (Js _ _ |>.trans oM) oM),(bm.set oM oM)⟩,Y.to _ (by simp only[Jt];kernel_rfl)⟩
 omega
theorem na (a:Nat)(A:Z9)(c:Nat)(i:(lim a).length<=c)(b:Nat)(D:Z9)(d:Nat)(l:(lim b).length<=d)(e:(lim a).length<=3000000000)(f:(lim b).length<=3000000000)(u:0<b)(w:World)(h:Hp)(g:G w h)(j:S3 A (lim a) h)(k:S3 D (lim b) h):CR 198 #[.slice A (lim a).length c,.slice D (lim b).length d] w h (fun v h1=>∃ o p,v=.tuple #[o,p]/\RN h1 o (a/b)/\RN h1 p (a%b)):=by
 have x:=bI.2 u
 rcases co a b with h1|h1
 ·exact tU a A c i b D d l e f h1 w h g j k
 ·rcases co (lim b).length 2 with h2|h2
  ·exact rj a A c i b D d l e f h1 oM w h g j k
  ·exact p6 a A c i b D d l e f h1 h2 _ rfl _ _ rfl rfl w h g j k
theorem mg (x y:Nat):JK y (x%y)=JK x y:=by rw[JL y,<-Nat.gcd_rec,JL]
theorem Bi (a:Nat)(A:Z9)(c:Nat)(O:(lim a).length<=c)(b:Nat)(D:Z9)(d:Nat)(hd:(lim b).length<=d)(u:(lim a).length<=3000000000)(C:(lim b).length<=3000000000)(w:World)(h:Hp)(g:G w h)(W:S3 A (lim a) h)(Z:S3 D (lim b) h):CR 197 #[.slice A ((lim a).length) c,.slice D ((lim b).length) d] w h (fun v h1=>RN h1 v (JK a b)):=by
 have e:=(((sS g).aS W).aS Z);refine go Tryz.func197 [(0,qS A ((lim a).length) c),(1,qS D ((lim b).length) d)] rfl (aa e ac (ai (kZ ?_)));replace e:=e.aS e.f.1;replace e:=e.aS e.f.r.1;refine bG _ (CG.loop (fun z Γ w_=>∃ (x:Nat)(j:Z9)(c1:Nat)(y:Nat)(l:Z9)(c2:Nat)(F:Hp),z=y/\Γ=[(4,sZ),(0,qS j ((lim x).length) c1),(1,qS l ((lim y).length) c2)]/\SS w h w_ F [] [] [S3 j (lim x),S3 l (lim y),S3 D (lim b),S3 A (lim a)]/\(lim x).length<=c1/\(lim y).length<=c2/\(lim x).length<=3000000000/\(lim y).length<=3000000000/\JK x y=JK a b) _ ⟨a,A,c,b,D,d,h,rfl,rfl,e.to _ _,O,hd,u,C,rfl⟩ ?_);rintro _ _ w1 ⟨x,j,c1,y,l,c2,h2,Q,rfl,e,p,k,hl1,B,K⟩;refine cQ (aa e [.c,.v (nV ((lim y).length))] ?_);cases i:(decide ((0:Int)<(((lim y).length:Nat):Int)))
 .
  have o:=oF i;refine lB 9 i (ah (CG.exit ?_))
  show CG _ _ _ _ _ _ _ _
  refine aa e aF (lN (kX ?_));have I:y=0:=Nat.eq_zero_of_not_pos (fun F=>by have:=bI.2 F;omega);exact e.ret [] (qS j ((lim x).length) c1) (by rw[<-K,I,Nat.gcd_zero_right];exact ⟨j,c1,rfl,p,e.f.1⟩)
 have o:=oT i;refine lB 9 i (aj (cK (kZ (aa e aF (lC 13 e (na x j c1 p y l c2 k oM oM (bI.1 oM) _ _ e.g e.f.1 e.f.2.1) ?_)))));rintro _ w5 Y e ⟨_,_,rfl,⟨U,cq,rfl,X,hq⟩,⟨L,J,rfl,H,hr⟩⟩;replace e:=e.aS hr;have S:=ua x (bI.1 (show 0<(lim y).length by omega));have M:=de (show x%y<=y by omega);refine lL e [.c,.v (qS U (lim (x/y)).length cq),.v (qS L ((lim (x%y)).length) J),.c,.c] (aE (lL e aF (lN (kQ (lL e aF (lD ?_))))));intro a_ V;replace e:=((e.tl.tl.tl.aS e.f.1).aS e.f.r.1);refine ⟨_,_,?_,⟨y,l,c2,x%y,L,J,Y,rfl,rfl,e.to _ _,k,H,B,oM,(by rw[mg];exact K)⟩,V.to _ kR⟩
 omega
def ar (x:Nat):List Value:=[.int .u64 (x:Nat)]
theorem wY {l:List Nat}{m:Nat}(h:0<m)(h0:l.getD (m-1) 0=0):tl l m=tl l (m-1):=by
 obtain ⟨k,rfl⟩:∃ k,m=k+1:=⟨m-1,by omega⟩;rw[kB,if_pos (by simpa using h0)];rfl
theorem pq (s:ByteArray)(d:8<=s.size)(w:World)(h:Hp)(g:G w h):CV 131 #[.string s] w h (mV (wv s)):=by
 have c:=sS g;have z:=bh s 0;have o:=bh s 1;have C:=bh s 2;have D:=bh s 3;have f:=bh s 4;have e:=bh s 5;have B:=bh s 6;have l:=bh s 7;refine go Tryz.func131 [(0,.string s)] rfl (aa c ac (ai (cR 38 [] mixed c aw ?_)));refine eV 0 3 (.string s) (eV 1 4 (.int .u8 (ak s 0:Nat)) ?_ (hv:=fun _=>aU (tx:=9) (x:=.tmp 3) (i:=.const (iV 0)) (k:=.i64) (s:=s) (n:=0) (j:=(0:Int)) kR kR kR kR oM oM _));refine eV 2 5 (mV (ak s 0)) ?_ (hv:=fun _=>rU (((ak s 0:Nat):Int)) kR (az oM oM));refine eV 3 6 (.string s) (eV 4 7 (.int .u8 (ak s 1:Nat)) ?_ (hv:=fun _=>aU (tx:=9) (x:=.tmp 6) (i:=.const (iV 1)) (k:=.i64) (s:=s) (n:=1) (j:=(1:Int)) kR kR kR kR oM oM _));refine eV 5 8 (mV (ak s 1)) ?_ (hv:=fun _=>rU (((ak s 1:Nat):Int)) kR (az oM oM));refine eV 6 9 (mV ((ak s 1)*256)) ?_ (hv:=fun _=>rU ((((ak s 1:Nat):Int)*256)) kR ((az oM oM).trans oM));refine eV 7 10 (mV (ak s 0+ak s 1*256)) ?_ (hv:=fun _=>aN (gl (t:=24) (u:=24) (x:=.tmp 5) (y:=.tmp 9) (a:=(ak s 0)) (b:=((ak s 1)*256)) kR kR kR oM oM _) (by rw[fP 8 oM];first|done|omega));refine eV 8 11 (.string s) (eV 9 12 (.int .u8 (ak s 2:Nat)) ?_ (hv:=fun _=>aU (tx:=9) (x:=.tmp 11) (i:=.const (iV 2)) (k:=.i64) (s:=s) (n:=2) (j:=(2:Int)) kR kR kR kR oM oM _));refine eV 10 13 (mV (ak s 2)) ?_ (hv:=fun _=>rU (((ak s 2:Nat):Int)) kR (az oM oM));refine eV 11 14 (mV ((ak s 2)*65536)) ?_ (hv:=fun _=>rU ((((ak s 2:Nat):Int)*65536)) kR ((az oM oM).trans oM));refine eV 12 15 (mV (ak s 0+ak s 1*256+ak s 2*65536)) ?_ (hv:=fun _=>aN (gl (t:=24) (u:=24) (x:=.tmp 10) (y:=.tmp 14) (a:=(ak s 0+ak s 1*256)) (b:=((ak s 2)*65536)) kR kR kR oM oM _) (by rw[fP 16 oM];first|done|omega));refine eV 13 16 (.string s) (eV 14 17 (.int .u8 (ak s 3:Nat)) ?_ (hv:=fun _=>aU (tx:=9) (x:=.tmp 16) (i:=.const (iV 3)) (k:=.i64) (s:=s) (n:=3) (j:=(3:Int)) kR kR kR kR oM oM _));refine eV 15 18 (mV (ak s 3)) ?_ (hv:=fun _=>rU (((ak s 3:Nat):Int)) kR (az oM oM));refine eV 16 19 (mV ((ak s 3)*16777216)) ?_ (hv:=fun _=>rU ((((ak s 3:Nat):Int)*16777216)) kR ((az oM oM).trans oM));refine eV 17 20 (mV (ak s 0+ak s 1*256+ak s 2*65536+ak s 3*16777216)) ?_ (hv:=fun _=>aN (gl (t:=24) (u:=24) (x:=.tmp 15) (y:=.tmp 19) (a:=(ak s 0+ak s 1*256+ak s 2*65536)) (b:=((ak s 3)*16777216)) kR kR kR oM oM _) (by rw[fP 24 oM];first|done|omega));refine eV 18 21 (.string s) (eV 19 22 (.int .u8 (ak s 4:Nat)) ?_ (hv:=fun _=>aU (tx:=9) (x:=.tmp 21) (i:=.const (iV 4)) (k:=.i64) (s:=s) (n:=4) (j:=(4:Int)) kR kR kR kR oM oM _));refine eV 20 23 (mV (ak s 4)) ?_ (hv:=fun _=>rU (((ak s 4:Nat):Int)) kR (az oM oM));refine eV 21 24 (mV ((ak s 4)*4294967296)) ?_ (hv:=fun _=>rU ((((ak s 4:Nat):Int)*4294967296)) kR ((az oM oM).trans oM));refine eV 22 25 (mV (ak s 0+ak s 1*256+ak s 2*65536+ak s 3*16777216+ak s 4*4294967296)) ?_ (hv:=fun _=>aN (gl (t:=24) (u:=24) (x:=.tmp 20) (y:=.tmp 24) (a:=(ak s 0+ak s 1*256+ak s 2*65536+ak s 3*16777216)) (b:=((ak s 4)*4294967296)) kR kR kR oM oM _) (by rw[fP 32 oM];first|done|omega));refine eV 23 26 (.string s) (eV 24 27 (.int .u8 (ak s 5:Nat)) ?_ (hv:=fun _=>aU (tx:=9) (x:=.tmp 26) (i:=.const (iV 5)) (k:=.i64) (s:=s) (n:=5) (j:=(5:Int)) kR kR kR kR oM oM _));refine eV 25 28 (mV (ak s 5)) ?_ (hv:=fun _=>rU (((ak s 5:Nat):Int)) kR (az oM oM));refine eV 26 29 (mV ((ak s 5)*1099511627776)) ?_ (hv:=fun _=>rU ((((ak s 5:Nat):Int)*1099511627776)) kR ((az oM oM).trans oM));refine eV 27 30 (mV (ak s 0+ak s 1*256+ak s 2*65536+ak s 3*16777216+ak s 4*4294967296+ak s 5*1099511627776)) ?_ (hv:=fun _=>aN (gl (t:=24) (u:=24) (x:=.tmp 25) (y:=.tmp 29) (a:=(ak s 0+ak s 1*256+ak s 2*65536+ak s 3*16777216+ak s 4*4294967296)) (b:=((ak s 5)*1099511627776)) kR kR kR oM oM _) (by rw[fP 40 oM];first|done|omega));refine eV 28 31 (.string s) (eV 29 32 (.int .u8 (ak s 6:Nat)) ?_ (hv:=fun _=>aU (tx:=9) (x:=.tmp 31) (i:=.const (iV 6)) (k:=.i64) (s:=s) (n:=6) (j:=(6:Int)) kR kR kR kR oM oM _));refine eV 30 33 (mV (ak s 6)) ?_ (hv:=fun _=>rU (((ak s 6:Nat):Int)) kR (az oM oM));refine eV 31 34 (mV ((ak s 6)*281474976710656)) ?_ (hv:=fun _=>rU ((((ak s 6:Nat):Int)*281474976710656)) kR ((az oM oM).trans oM));refine eV 32 35 (mV (ak s 0+ak s 1*256+ak s 2*65536+ak s 3*16777216+ak s 4*4294967296+ak s 5*1099511627776+ak s 6*281474976710656)) ?_ (hv:=fun _=>aN (gl (t:=24) (u:=24) (x:=.tmp 30) (y:=.tmp 34) (a:=(ak s 0+ak s 1*256+ak s 2*65536+ak s 3*16777216+ak s 4*4294967296+ak s 5*1099511627776)) (b:=((ak s 6)*281474976710656)) kR kR kR oM oM _) (by rw[fP 48 oM];first|done|omega));refine eV 33 36 (.string s) (eV 34 37 (.int .u8 (ak s 7:Nat)) ?_ (hv:=fun _=>aU (tx:=9) (x:=.tmp 36) (i:=.const (iV 7)) (k:=.i64) (s:=s) (n:=7) (j:=(7:Int)) kR kR kR kR oM oM _));refine eV 35 38 (mV (ak s 7)) ?_ (hv:=fun _=>rU (((ak s 7:Nat):Int)) kR (az oM oM));refine eV 36 39 (mV ((ak s 7)*72057594037927936)) ?_ (hv:=fun _=>rU ((((ak s 7:Nat):Int)*72057594037927936)) kR ((az oM oM).trans oM));refine eV 37 40 (mV (ak s 0+ak s 1*256+ak s 2*65536+ak s 3*16777216+ak s 4*4294967296+ak s 5*1099511627776+ak s 6*281474976710656+ak s 7*72057594037927936)) ?_ (hv:=fun _=>aN (gl (t:=24) (u:=24) (x:=.tmp 35) (y:=.tmp 39) (a:=(ak s 0+ak s 1*256+ak s 2*65536+ak s 3*16777216+ak s 4*4294967296+ak s 5*1099511627776+ak s 6*281474976710656)) (b:=((ak s 7)*72057594037927936)) kR kR kR oM oM _) (by rw[fP 56 oM];first|done|omega));exact cG c (fun w1 p c=>tV 38 2 (mV (ak s 0+ak s 1*256+ak s 2*65536+ak s 3*16777216+ak s 4*4294967296+ak s 5*1099511627776+ak s 6*281474976710656+ak s 7*72057594037927936)) (tN (kX (c.ret [] (mV (ak s 0+ak s 1*256+ak s 2*65536+ak s 3*16777216+ak s 4*4294967296+ak s 5*1099511627776+ak s 6*281474976710656+ak s 7*72057594037927936)) rfl))))
theorem Dd (A:Z9)(c:Nat)(l:List Nat)(D:l.length<=1099511627776)(C:l.length<=c)(w:World)(h:Hp)(g:G w h)(x:SlO 1 ar 0 h A l):CV 141 #[.slice A l.length c] w h (.slice A (tl l l.length) c):=by
 have a:=((sS g).aS x);refine go Tryz.func141 [(0,qS A l.length c)] rfl (aa a ac (ai (kZ ?_)));refine bG _ (CG.loop (fun j Γ z=>∃ (m:Nat)(k:Hp),j=m/\Γ=[(2,sZ),(0,qS A m c)]/\SS w h z k [] [] [fun k=>SlO 1 ar 0 k A l]/\m<=l.length/\tl l l.length=tl l m) _ ⟨l.length,h,rfl,rfl,a.to _ _,nR _,rfl⟩ ?_);rintro _ _ w1 ⟨m,y,p,rfl,a,B,o⟩;refine cQ (aa a [.c,.v (nV m)] ?_);cases b:(decide ((0:Int)<(m:Int)))
 .
  have i:=oF b;refine lB 5 b (lL a ac (lG 7 ?_));refine lG 8 (lG 9 (lG 10 (lG 11 (lG 12 (lG 13 (lL a [.v qF] (ah (CG.exit ?_))))))))
  show CG _ _ _ _ _ _ _ _
  exact aa a aF (af a [] (qS A m c) (by rw[o,mI oM]))
 have i:=oT b;refine lB 5 b (lL a [.c,.c,.c,.v (nV m)] (bg 10 ((m:Nat)-1) (m-1) ?_));refine lX 11 A m c 1 (m-1:Nat) (m-1) ((a.f.1).ok oM) (lH 12 (mV (l.getD (m-1) 0)) a ((a.f.1).el (m-1) oM) ?_);cases d:(((l.getD (m-1) 0:Nat):Int) == (0:Int))
 .
  have e:=ao d;refine lB 13 d (lL a [.v qF] (ah (CG.exit ?_)))
  show CG _ _ _ _ _ _ _ _
  exact aa a aF (af a [] (qS A m c) (by rw[o,mI oM]))
 have e:=eq_of_beq d;refine lB 13 d (lL a [.v qT] (aj (cK (kZ (kQ (lL a [.c,.c,.v (nV m)] (bg 18 ((m:Nat)-1) (m-1) ?_)))))));refine lT 19 A m c 1 (m-1:Nat) (m-1) (lL a ac (lD ?_));intro F u;refine ⟨_,_,?_,⟨m-1,y,rfl,rfl,a.to _ _,oM,(by rw[o];exact wY oM oM)⟩,u.to _ kR⟩
 omega
theorem oZ {l m:List Nat}(b:l.length=m.length)(h:∀ j,j<l.length->l.getD j 0=m.getD j 0):l=m:=by
 apply List.ext_getElem b
 intro i h1 a;have:=h i h1
 simpa [h1,a] using this
theorem o7 {l m:List Nat}{i x:Nat}(hi:i<l.length)(h:∀ j,j<i->l.getD j 0=m.getD j 0)(a:x=m.getD i 0):∀ j,j<i+1->(l.set i x).getD j 0=m.getD j 0:=fun j b=>by
 rw[bC hi]
 split
 ·rename_i e;rw[<-e];exact a
 ·exact h j oM
def B5 (h h1:Hp)(v:Value)(l:List Nat):Prop:=∃ b,v=.slice (some ⟨b,0,none⟩) l.length l.length/\h.size<=b/\h1[b]?=some (.cells (l.flatMap ar).toArray 24 (0,0))/\SlO 1 ar 0 h1 (some ⟨b,0,none⟩) l
theorem jj  (w:World)(h:Hp)(g:G w h):CV 112 #[nv 0] w h sZ:=by
 have a:=sS g;exact go Tryz.func112 [(0,nv 0)] rfl (aG (lA 1 26 ([uV 0,eS]) a (fun b w2 d a=>lL a ac (ai (aa a [.v (qP b 1),.o (eS) 0 1 1,.v qT,.c,.v (pB b),.o (uV 0) 0 0 1,.v qT,.v qT] (aj (aa a ac (af a [] (sZ) rfl))))))))
theorem gE (s:ByteArray)(k:Nat):(s.extract k s.size).size=s.size-k:=by
 simp[ByteArray.size_extract]
theorem oL {n L:Nat}(a:0<L):∀ j,j<1->((ta L 0).set 0 (n%18446744073709551616)).getD j 0=(wds n).getD j 0:=fun j b=>by
 have:j=0:=by omega
 subst this;rw[bC (by simpa using a),if_pos rfl];have:=qj n
 unfold lo at this
 exact Int.ofNat.inj this
theorem AY (n:Nat)(V:0<n)(hl:(wds n).length<=1000000000)(B:n<18446744073709551616)(w:World)(h:Hp)(g:G w h):CR 112 #[nv n] w h (fun v h1=>B5 h h1 v (wds n)):=by
 have e:=sS g;have hz:=ir n;have hp:=iX.2 V;have hlo:=gQ B;have K:=congrArg JC (iq V B)
 simp only[List.length_singleton] at K
 refine go Tryz.func112 [(0,nv n)] rfl (aG (lA 1 26 (nc n) e (fun p w2 h3 e=>lL e ac (ai (aa e [.v (qP p 1),.o (.string (hi n)) 0 1 1] (lV 7 qT ?_ (hr:=rb kR (iG (eu B)))))))));refine lL e [.c,.v (pB p),.o (mV (n%18446744073709551616)) 0 0 1] ?_;have D:(((n%18446744073709551616:Nat):Int) == (0:Int))=false:=gI oM;have U:=ao D;refine lB 11 D (lL e [.v qF] (ah (cK (aa e [.v (qP p 1),.o (.string (hi n)) 0 1 1,.v (nV ((hi n).size))] (lV 16 (nV (((hi n).size)/8)) ?_ (hr:=aN (cZ (t:=3) (u:=3) (x:=.tmp 15) (y:=.const (iV 8)) (k:=.i64) (a:=(((hi n).size:Nat):Int)) (b:=(8:Int)) kR kR kR oM _) (dh ((hi n).size) 8 oM)))))));refine bg 17 (1+(((hi n).size)/8:Nat)) ((wds n).length) (lK 18 24 ((wds n).length) 1 8 (uV 0) ar 0 e (fun z w6 W e=>?_));have M:(ta ((wds n).length) 0).length=((wds n).length):=by simp
 refine lL e ac (aE (lL e [.c,.v (pB p),.o (mV (n%18446744073709551616)) 1 0 1] (lX 22 (sB z) ((wds n).length) ((wds n).length) 1 0 0 rfl ?_)));refine lW 0 (ta ((wds n).length) 0) ar 1 0 (n%18446744073709551616) e oM (fun w9 e=>?_);have Z:((ta ((wds n).length) 0).set 0 (n%18446744073709551616)).length=((wds n).length):=by rw[Jt];exact M
 replace e:=e.to [⟨z,24,((ta ((wds n).length) 0).set 0 (n%18446744073709551616)).flatMap ar⟩,⟨p,26,nc n⟩] [];refine ai (aa e ac (bE ?_));refine bG _ (CG.loop (fun O Γ w_=>∃ (i:Nat)(l:List Nat)(h_:Hp),O=(wds n).length-i/\Γ=[(1,pB p),(2,sZ),(3,qS (sB z) ((wds n).length) ((wds n).length)),(4,nV i)]/\SS w h w_ h_ [⟨z,24,(l).flatMap ar⟩,⟨p,26,nc n⟩] [] []/\1<=i/\i<=(wds n).length/\l.length=(wds n).length/\(∀ j,j<i->l.getD j 0=(wds n).getD j 0)) _ ⟨1,(ta ((wds n).length) 0).set 0 (n%18446744073709551616),W,rfl,rfl,e.to _ _,nR _,by omega,Z,oL oM⟩ ?_);rintro _ _ _ ⟨i,l,_,S,rfl,e,hi1,hi2,J,Q⟩;refine cQ (aa e [.c,.c,.v (nV ((wds n).length))] ?_);cases I:(decide ((i:Int)<((((wds n).length):Nat):Int)))
 .
  have Y:=oF I;refine lB 26 I (ah (CG.exit ?_))
  show CG _ _ _ _ _ _ _ _
  refine aa e aF (lN (kX ?_));have hiL:i=(wds n).length:=by omega
  have L:l=wds n:=oZ oM (fun j hj=>Q j oM);rw[L] at e
  obtain ⟨_,e,C,H,F⟩:=e.pub 0;replace e:=(e.to [⟨p,26,nc n⟩] []).aS (SlO.of_flat (sz:=1) (f:=ar) (d:=0) (b:=z) (o:=0) (l:=wds n) (fun _=>rfl) C);exact e.ret [] (qS (sB z) ((wds n).length) ((wds n).length)) (⟨z,rfl,H,F,e.f.1⟩)
 have Y:=oT I;refine lB 26 I (aj (cK (cQ (kZ (kQ (lL e [.c,.c,.v (qP p 1),.o (.string (hi n)) 1 1 1,.c] (lI 34 ((i:Nat)-1) ?_)))))));refine bg 35 (8*((i:Nat)-1)) (8*(i-1)) (lV 36 (.string ((hi n).extract (8*(i-1)) (hi n).size)) ?_ (hr:=fF (tx:=9) (x:=.tmp 32) (i:=.tmp 35) (k:=.i64) (s:=hi n) (n:=(8*(i-1))) (j:=((8*(i-1):Nat):Int)) kR kR kR kR oM oM _));refine aq 37 e (pq ((hi n).extract (8*(i-1)) (hi n).size) (by rw[gE];omega) _ _ e.g) (fun _ ze e=>lX 38 (sB z) ((wds n).length) ((wds n).length) 1 (i:Nat) i rfl (lW 0 l ar 1 i (wv ((hi n).extract (8*(i-1)) (hi n).size):Nat) e oM (fun _ e=>?_)));have zd:((l).set i (wv ((hi n).extract (8*(i-1)) (hi n).size):Nat)).length=((wds n).length):=by rw[Jt];exact J
 replace e:=e.to [⟨z,24,((l).set i (wv ((hi n).extract (8*(i-1)) (hi n).size):Nat)).flatMap ar⟩,⟨p,26,nc n⟩] [];refine lN (kQ (lL e ac (bg 28 ((i:Nat)+1) (i+1) ?_)));refine lL e ac (lD ?_);intro a_ X;refine ⟨_,_,?_,⟨i+1,(l).set i (wv ((hi n).extract (8*(i-1)) (hi n).size):Nat),ze,rfl,rfl,e.to _ _,oM,oM,zd,(o7 oM Q (by rw[iM n (i-1) oM,show i-1+1=i by omega]))⟩,X.to _ kR⟩
 omega
theorem Ba (n:Nat)(hn:0<n)(hl:(wds n).length<=1000000000)(M:18446744073709551616<=n)(w:World)(h:Hp)(g:G w h):CR 112 #[nv n] w h (fun v h1=>B5 h h1 v (wds n)):=by
 have e:=sS g;have hz:=ir n;have hp:=iX.2 hn;refine go Tryz.func112 [(0,nv n)] rfl (aG (lA 1 26 (nc n) e (fun p w2 h3 e=>lL e ac (ai (aa e [.v (qP p 1),.o (.string (hi n)) 0 1 1] (lV 7 qF ?_ (hr:=rb kR (g7 (fv M)))))))));refine lL e ac (lG 9 ?_);refine lG 10 (lG 11 (lL e [.v qF] (ah (cK (aa e [.v (qP p 1),.o (.string (hi n)) 0 1 1,.v (nV ((hi n).size))] (lV 16 (nV (((hi n).size)/8)) ?_ (hr:=aN (cZ (t:=3) (u:=3) (x:=.tmp 15) (y:=.const (iV 8)) (k:=.i64) (a:=(((hi n).size:Nat):Int)) (b:=(8:Int)) kR kR kR oM _) (dh ((hi n).size) 8 oM))))))));refine bg 17 (1+(((hi n).size)/8:Nat)) ((wds n).length) (lK 18 24 ((wds n).length) 1 8 (uV 0) ar 0 e (fun z w5 W e=>?_));have J:(ta ((wds n).length) 0).length=((wds n).length):=by simp
 refine lL e ac (aE (lL e [.c,.v (pB p),.o (mV (n%18446744073709551616)) 1 0 1] (lX 22 (sB z) ((wds n).length) ((wds n).length) 1 0 0 rfl ?_)));refine lW 0 (ta ((wds n).length) 0) ar 1 0 (n%18446744073709551616) e oM (fun w8 e=>?_);have L:((ta ((wds n).length) 0).set 0 (n%18446744073709551616)).length=((wds n).length):=by rw[Jt];exact J
 replace e:=e.to [⟨z,24,((ta ((wds n).length) 0).set 0 (n%18446744073709551616)).flatMap ar⟩,⟨p,26,nc n⟩] [];refine ai (aa e ac (bE ?_));refine bG _ (CG.loop (fun K Γ w_=>∃ (i:Nat)(l:List Nat)(h_:Hp),K=(wds n).length-i/\Γ=[(1,pB p),(2,sZ),(3,qS (sB z) ((wds n).length) ((wds n).length)),(4,nV i)]/\SS w h w_ h_ [⟨z,24,(l).flatMap ar⟩,⟨p,26,nc n⟩] [] []/\1<=i/\i<=(wds n).length/\l.length=(wds n).length/\(∀ j,j<i->l.getD j 0=(wds n).getD j 0)) _ ⟨1,(ta ((wds n).length) 0).set 0 (n%18446744073709551616),W,rfl,rfl,e.to _ _,nR _,by omega,L,oL oM⟩ ?_);rintro _ _ _ ⟨i,l,_,Q,rfl,e,Y,X,H,O⟩;refine cQ (aa e [.c,.c,.v (nV ((wds n).length))] ?_);cases F:(decide ((i:Int)<((((wds n).length):Nat):Int)))
 .
  have U:=oF F;refine lB 26 F (ah (CG.exit ?_))
  show CG _ _ _ _ _ _ _ _
  refine aa e aF (lN (kX ?_));have Z:i=(wds n).length:=by omega
  have I:l=wds n:=oZ oM (fun j hj=>O j oM);rw[I] at e
  obtain ⟨_,e,D,B,C⟩:=e.pub 0;replace e:=(e.to [⟨p,26,nc n⟩] []).aS (SlO.of_flat (sz:=1) (f:=ar) (d:=0) (b:=z) (o:=0) (l:=wds n) (fun _=>rfl) D);exact e.ret [] (qS (sB z) ((wds n).length) ((wds n).length)) (⟨z,rfl,B,C,e.f.1⟩)
 have U:=oT F;refine lB 26 F (aj (cK (cQ (kZ (kQ (lL e [.c,.c,.v (qP p 1),.o (.string (hi n)) 1 1 1,.c] (lI 34 ((i:Nat)-1) ?_)))))));refine bg 35 (8*((i:Nat)-1)) (8*(i-1)) (lV 36 (.string ((hi n).extract (8*(i-1)) (hi n).size)) ?_ (hr:=fF (tx:=9) (x:=.tmp 32) (i:=.tmp 35) (k:=.i64) (s:=hi n) (n:=(8*(i-1))) (j:=((8*(i-1):Nat):Int)) kR kR kR kR oM oM _));refine aq 37 e (pq ((hi n).extract (8*(i-1)) (hi n).size) (by rw[gE];omega) _ _ e.g) (fun _ zd e=>lX 38 (sB z) ((wds n).length) ((wds n).length) 1 (i:Nat) i rfl (lW 0 l ar 1 i (wv ((hi n).extract (8*(i-1)) (hi n).size):Nat) e oM (fun _ e=>?_)));have V:((l).set i (wv ((hi n).extract (8*(i-1)) (hi n).size):Nat)).length=((wds n).length):=by rw[Jt];exact H
 replace e:=e.to [⟨z,24,((l).set i (wv ((hi n).extract (8*(i-1)) (hi n).size):Nat)).flatMap ar⟩,⟨p,26,nc n⟩] [];refine lN (kQ (lL e ac (bg 28 ((i:Nat)+1) (i+1) ?_)));refine lL e ac (lD ?_);intro a_ S;refine ⟨_,_,?_,⟨i+1,(l).set i (wv ((hi n).extract (8*(i-1)) (hi n).size):Nat),zd,rfl,rfl,e.to _ _,oM,oM,V,(o7 oM O (by rw[iM n (i-1) oM,show i-1+1=i by omega]))⟩,S.to _ kR⟩
 omega
theorem fk (n:Nat)(a:0<n)(b:(wds n).length<=1000000000)(w:World)(h:Hp)(g:G w h):CR 112 #[nv n] w h (fun v h1=>B5 h h1 v (wds n)):=by
 rcases co n 18446744073709551616 with hs|hs
 ·exact AY n a b hs w h g
 ·exact Ba n a b hs w h g
open Go.RowKit Go.Shelf
def xf:Go.Shelf.Ren:=⟨fun|167=>166|240=>84|276=>111|n=>n,fun|0=>0|4=>4|5=>5|9=>9|20=>20|37=>90|70=>89|72=>92|75=>107|164=>147|80=>94|n=>n,fun n=>n⟩
theorem BZ:Go.Proofs.Lays.n167 Tryz.prog xf:={
 mixed:=by kernel_rfl
 f167:=Tryz.func166.trans (congrArg some kR)
 f240:=Tryz.func84.trans (congrArg some kR)
 f276:=Tryz.func111.trans (congrArg some kR)
 t0:=Tryz.underlying0
 a0:=Tryz.isAgg0
 z0:=Tryz.sizeOf0
 v0:=Tryz.zeroValue0
 t4:=Tryz.underlying4
 a4:=Tryz.isAgg4
 z4:=Tryz.sizeOf4
 v4:=Tryz.zeroValue4
 t5:=Tryz.underlying5
 a5:=Tryz.isAgg5
 z5:=Tryz.sizeOf5
 v5:=Tryz.zeroValue5
 t9:=Tryz.underlying9
 a9:=Tryz.isAgg9
 z9:=Tryz.sizeOf9
 v9:=Tryz.zeroValue9
 t20:=Tryz.underlying20
 a20:=Tryz.isAgg20
 z20:=Tryz.sizeOf20
 v20:=Tryz.zeroValue20
 t37:=Tryz.underlying90
 a37:=Tryz.isAgg90
 z37:=Tryz.sizeOf90
 v37:=Tryz.zeroValue90
 t70:=Tryz.underlying89
 a70:=Tryz.isAgg89
 z70:=Tryz.sizeOf89
 v70:=Tryz.zeroValue89
 t72:=Tryz.underlying92
 a72:=Tryz.isAgg92
 z72:=Tryz.sizeOf92
 v72:=Tryz.zeroValue92
 t75:=Tryz.underlying107
 a75:=Tryz.isAgg107
 z75:=Tryz.sizeOf107
 v75:=Tryz.zeroValue107
 t164:=Tryz.underlying147
 a164:=Tryz.isAgg147
 z164:=Tryz.sizeOf147
 v164:=Tryz.zeroValue147 }
theorem x4:Builder.Extra Tryz.prog xf:={
 sizeBuilder:=by kernel_rfl
 liesBuilder:=by kernel_rfl
 t5:=Tryz.underlying5
 a5:=Tryz.isAgg5
 z5:=Tryz.sizeOf5
 v5:=Tryz.zeroValue5
 infoByte:=by kernel_rfl
 cellsByte:=by kernel_rfl
 sizeByte:=by kernel_rfl
 neB5:=by decide }
theorem uL (A:Z9)(c:Nat)(l:List Nat)(Z:Wd l)(hl:l.length<=1099511627776)(V:l.length<=c)(w:World)(h:Hp)(g:G w h)(hA:SlO 1 ar 0 h A l):CV 129 #[.slice A l.length c] w h (nv (aD l)):=by
 have d:=((sS g).aS hA);have htl:=fY l l.length;have hdl:(l.drop 1).length=l.length-1:=Jb;refine go Tryz.func129 [(0,qS A l.length c)] rfl (aG (lA 2 26 ([uV 0,eS]) d (fun O w2 h3 d=>aE (lL d ac (aq 8 d (Dd A c l hl V _ _ d.g d.f.1) (fun e h5 d=>lL d ac (ai (aa d [.c,.v (nV (tl l l.length))] (bE (aG ?_))))))))));cases D:((((tl l l.length):Nat):Int) == (0:Int))
 .
  have M:=ao D;refine lB 12 D (lL d ac (ah (aG ?_)));cases C:((((tl l l.length):Nat):Int) == (1:Int))
  .
   have L:=ao C;refine lB 15 C (lL d ac (ah (cK (aG ?_))));have j:=d;refine H7 3 92 [.pointer none,sZ] d (fun w8 i Y X=>?_);obtain ⟨h9,d,-⟩:=j.liftJ i;refine aE (lL d [.c,.v (nV (tl l l.length))] (bg 22 (((tl l l.length):Nat)-1) ((tl l l.length)-1) ?_));refine bg 23 (8*((tl l l.length)-1:Nat)) (8*((tl l l.length)-1)) (Aw 24 j i (Tryz.Builder_Grow_fresh e.heap.size e.heap.size (8*((tl l l.length)-1):Nat) _ (nR _) X Y oM) (fun _ ze d z B=>?_))
   clear i
   have i:=z;clear z;have F:Lib.IsBuilder 92 5 e.heap.size e.heap.size (Lib.byteCells (((l.drop 1).take 0).flatMap b8)) _:=.inr B;refine ai (aa d ac (lF 26 A (tl l l.length) c 1 1 1 ?_));replace d:=d.aS (d.f.1.drop 1 c V);replace j:=j.aS (j.f.1.drop 1 c V);refine lL d [.v (nV ((tl l l.length)-1)),.c] (bE ?_);refine bG _ (CG.loop (fun H Γ I=>∃ (k:Nat)(p:Hp),H=(tl l l.length)-k/\Γ=[(0,qS A (tl l l.length) c),(2,pB O),(3,.pointer (some ⟨e.heap.size,0,none⟩)),(26,qS (if c=1 then A else A.map (·.add (1*1))) ((tl l l.length)-1) (c-1)),(27,nV ((tl l l.length)-1)),(28,nV k)]/\SS w h I p [⟨O,26,[uV 0,eS]⟩] [] [fun p=>SlO 1 ar 0 p (if c=1 then A else A.map (·.add (1*1))) (l.drop 1),fun p=>SlO 1 ar 0 p A l]/\k<=(tl l l.length)-1/\Ext e I/\Lib.IsBuilder 92 5 e.heap.size e.heap.size (Lib.byteCells (((l.drop 1).take k).flatMap b8)) I) _ ⟨0,ze,rfl,rfl,d.to _ _,JH _,i,F⟩ ?_);rintro _ _ zf ⟨k,zg,bd,rfl,d,hk,i,F⟩;have hxk:(l.drop 1).getD k 0<18446744073709551616:=Dg.getD (Dg.drop Z 1) kD k;refine aG ?_;cases S:(decide ((k:Int)<(((tl l l.length)-1:Nat):Int)))
   .
    have zc:=oF S;refine lB 29 S (ai (da (CG.exit ?_)))
    show CG _ _ _ _ _ _ _ _
    refine cQ (Ay ⟨Cd e.heap.size zf.heap.size,none⟩ 5 mixed ?_);obtain ⟨_,d,hj⟩:=j.liftJ i.drew;refine aV 0 43 (qS A (tl l l.length) c) (aX 1 44 A (tl l l.length) c 1 0 0 ((d.f.2.1).ok oM) (aH 2 45 (mV (l.getD 0 0)) d ((d.f.2.1).el 0 oM) ?_ (fun b hb=>hj b (lh.1 hb).1 (lh.1 hb).2)));refine aC 3 46 ((Tryz.Builder_String_any e.heap.size e.heap.size (((l.drop 1).take k).flatMap b8) _ (qW F ((Ext.refl _).drew)) i.size).mono fun e_ _ ⟨U,J⟩=>⟨_,U,wd J,?_⟩);obtain ⟨_,d,-⟩:=j.liftJ (Below.trans i.drew J);refine aV 4 47 (.agg #[mV (l.getD 0 0),.string (⟨(((l.drop 1).take k).flatMap b8).toArray⟩)]) (tP 5 0 0 ([mV (l.getD 0 0),.string (⟨(((l.drop 1).take k).flatMap b8).toArray⟩)]) d (fun _ d=>tN (kX ?_)));have hkn:k=(tl l l.length)-1:=by omega
    exact d.ret [(0,0,2)] (.agg #[mV (l.getD 0 0),.string (⟨(((l.drop 1).take k).flatMap b8).toArray⟩)]) (by rw[hkn];exact Cs Z oM)
   have zc:=oT S;refine lB 29 S (ai (ci (cK (cQ (kZ (aG (lX 30 (if c=1 then A else A.map (·.add (1*1))) ((tl l l.length)-1) (c-1) 1 (k:Nat) k ((d.f.1).ok oM) ?_)))))));refine lH 31 (mV ((l.drop 1).getD k 0)) d ((d.f.1).el k oM) (lL d ac (aE (lL d ac (bE ?_))));refine bG _ (CG.loop (fun H Γ I=>∃ (m:Nat)(p:Hp),H=8-m/\Γ=[(0,qS A (tl l l.length) c),(2,pB O),(3,.pointer (some ⟨e.heap.size,0,none⟩)),(26,qS (if c=1 then A else A.map (·.add (1*1))) ((tl l l.length)-1) (c-1)),(27,nV ((tl l l.length)-1)),(28,nV k),(5,mV ((l.drop 1).getD k 0)),(32,nV m)]/\SS w h I p [⟨O,26,[uV 0,eS]⟩] [] [fun p=>SlO 1 ar 0 p (if c=1 then A else A.map (·.add (1*1))) (l.drop 1),fun p=>SlO 1 ar 0 p A l]/\m<=8/\Ext e I/\Lib.IsBuilder 92 5 e.heap.size e.heap.size (Lib.byteCells (((l.drop 1).take k).flatMap b8++(b8 ((l.drop 1).getD k 0)).take m)) I) _ ⟨0,zg,rfl,rfl,d.to _ _,JH _,i,(by simpa using F)⟩ ?_);rintro _ _ _ ⟨m,zi,bb,rfl,d,hm,i,o⟩;refine aG ?_;cases Q:(decide ((m:Int)<(8:Int)))
   .
    have zd:=oF Q;refine lB 33 Q (ai (da (CG.exit ?_)))
    show CG _ _ _ _ _ _ _ _
    refine kQ (bg 42 ((k:Nat)+1) (k+1) ?_);refine lL d ac (lD ?_);intro a_ W;refine ⟨_,_,?_,⟨k+1,zi,rfl,rfl,d.to _ _,oM,i,(by rw[show m=8 by omega,t7 oM] at o;exact o)⟩,W.to _ kR⟩
    omega
   have zd:=oT Q;refine lB 33 Q (ai (ci (cK (cQ (kZ (aa d aF (lN (kQ (lL d aF (bg 37 (8*(m:Nat)) (8*m) ?_))))))))));refine lV 38 (mV (((l.drop 1).getD k 0)/2^(8*m))) ?_ (hr:=fK (t:=24) (u:=3) (x:=.tmp 35) (y:=.tmp 37) (ky:=.i64) (a:=((l.drop 1).getD k 0)) (n:=(8*m)) kR kR kR oM _);refine lV 39 (.int .u8 ((((l.drop 1).getD k 0)/2^(8*m):Nat)%256:Nat)) ?_ (hr:=aN (n:=IntKind.wrap .u8 ((((l.drop 1).getD k 0)/2^(8*m):Nat):Int)) kR (xX _));refine Aw 40 j i (Any.Builder_WriteByte BZ x4 e.heap.size e.heap.size _ ((((l.drop 1).getD k 0)/2^(8*m)%256:Nat):Int) _ o (tH oM oM oM) i.size) (fun _ zj d z B=>?_)
   clear i
   have i:=z;clear z;rw[rD oM] at B
   have K:Lib.IsBuilder 92 5 e.heap.size e.heap.size _ _:=.inr B;refine lN (kQ (bg 41 ((m:Nat)+1) (m+1) ?_));refine lL d ac (lD ?_);intro a_ W;refine ⟨_,_,?_,⟨m+1,zj,rfl,rfl,d.to _ _,oM,i,K⟩,W.to _ kR⟩
   omega
  have L:=eq_of_beq C;refine lB 15 C (lL d ac (aj (aa d ac (lX 17 A (tl l l.length) c 1 0 0 ((d.f.1).ok oM) ?_))));exact lH 18 (mV (l.getD 0 0)) d ((d.f.1).el 0 oM) (lL d [.v (.agg #[mV (l.getD 0 0),eS])] (lP 0 0 ([mV (l.getD 0 0),eS]) d (fun _ d=>af d [(0,0,2)] (.agg #[mV (l.getD 0 0),eS]) (Ft Z oM))))
 have M:=eq_of_beq D;exact lB 12 D (lL d ac (aj (aa d [.v (.agg #[uV 0,eS])] (lP 0 0 ([uV 0,eS]) d (fun _ d=>af d [(0,0,2)] (.agg #[uV 0,eS]) (B3 oM))))))
end Go.Proofs.YtffiihfdjnmhpaaGreatDoor
