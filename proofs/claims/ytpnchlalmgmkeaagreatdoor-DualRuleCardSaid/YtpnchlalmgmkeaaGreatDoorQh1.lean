/- Laws of this claim, part 2. -/
import Derived.Test.YtpnchlalmgmkeaaGreatDoorQh0
set_option maxRecDepth 100000
set_option maxHeartbeats 4000000
namespace Go.Proofs.YtpnchlalmgmkeaaGreatDoor
open _root_.Array renaming getElem?_append_left -> po, getElem?_append_right -> yv, getElem?_eq_none -> ek, getElem?_push_size -> e6, getElem?_replicate -> yw, getElem?_setIfInBounds_ne -> g6, getElem?_setIfInBounds_self_of_lt -> yz, replicate -> o8
open Bool renaming and_eq_true -> g7, true_and -> JI
open Int renaming fdiv -> JH, toNat_natCast -> yt
open List renaming all_eq_true -> hH, drop_eq_getElem_cons -> y3, drop_eq_nil_of_le -> Jz, drop_zero -> yb, eq_nil_of_length_eq_zero -> yj, flatMap_cons -> x0, getD_eq_getElem?_getD -> zY, getElem?_append_left -> wk, getElem?_append_right -> wu, getElem?_drop -> ws, getElem?_eq_none -> pe, getElem?_eq_some_iff -> Jy, getElem?_map -> As, getElem?_range -> Aw, getElem?_take_of_lt -> wq, length_append -> yh, length_drop -> Am, length_set -> Gx, length_take -> yY, mem_map -> gs, mem_of_mem_eraseIdx -> yD, mem_range -> hP, mem_singleton -> ov, replicate -> yp, set_set -> JN, take_length -> yd, take_of_length_le -> z8, take_zero -> JK
open Nat renaming add_assoc -> xf, add_comm -> yg, add_mul -> z7, add_mul_div_left -> zT, add_mul_mod_self_left -> H1, add_sub_cancel -> A8, add_zero -> ya, div_add_mod -> Af, div_div_eq_div_mul -> zX, div_eq_of_lt -> yQ, div_eq_of_lt_le -> A9, div_le_self -> yN, div_lt_iff_lt_mul -> A7, div_mul_le_self -> A5, eq_zero_or_pos -> yA, gcd_comm -> JM, le_of_eq -> JP, le_refl -> ep, le_trans -> eu, lt_div_mul_add -> A6, lt_of_le_of_lt -> yM, lt_of_lt_of_le -> ey, lt_of_mul_lt_mul_right -> Bs, lt_or_ge -> eb, min_eq_left -> yZ, mod_add_div -> Gb, mod_eq_of_lt -> yr, mod_lt -> ys, mul_add -> yV, mul_add_div -> HA, mul_assoc -> yW, mul_comm -> yT, mul_div_mul_right -> D1, mul_le_mul -> D2, mul_le_mul_left -> y9, mul_le_mul_right -> ym, mul_lt_mul_of_pos_left -> z1, mul_lt_mul_of_pos_right -> D0, mul_mod_mul_right -> Ga, mul_succ -> A2, mul_zero -> y2, one_mul -> Ab, pos_of_ne_zero -> A4, pow_add -> y8, pow_le_pow_right -> y6, pow_mul -> zy, pow_pos -> zW, pow_succ -> yS, pow_zero -> JJ, succ_pos -> JO, two_pow_add_eq_or_of_lt -> Az, two_pow_pos -> y5, zero_add -> yl, zero_le -> JL, zero_mod -> G1, zero_mul -> yi
open Go.RowKit
theorem nN (n k:Nat):(wds n).getD k 0<18446744073709551616:=(Wd.wds n).get k
def b8 (x:Nat):List UInt8:=(List.range 8).map (fun k=>UInt8.ofNat (x/256^k))
theorem jU (x:Nat):(b8 x).length=8:=rfl
theorem E6 (m:Nat):b8 (m%18446744073709551616)=b8 m:=by
 unfold b8
 apply List.map_congr_left
 intro k hk;have a:k<8:=hP.1 hk
 apply UInt8.toNat_inj.1
 show (m%18446744073709551616/256^k)%256=(m/256^k)%256
 have:k=0\/k=1\/k=2\/k=3\/k=4\/k=5\/k=6\/k=7:=by omega
 rcases this with rfl|rfl|rfl|rfl|rfl|rfl|rfl|rfl<;>omega
theorem wd:∀ (f m:Nat),m<=f->wb f m=(ja 18446744073709551616 m).flatMap b8
  | 0,m,h=>by
    have:m=0:=by omega
    subst this;rfl
  | f+1,m,h=>by
    unfold wb
    split
    . rename_i h0;subst h0;rfl
    . rw[d5 kD oM,x0,E6,wd f _ oM];rfl
theorem BQ (n:Nat):ja 18446744073709551616 (n/18446744073709551616)=(ja 18446744073709551616 n).drop 1:=by
 rcases yA n with h|h
 ·subst h;rfl
 ·conv=>rhs;rw[d5 kD h]
  rfl
theorem oc (n:Nat):(hi n).data.toList=((wds n).drop 1).flatMap b8:=by
 unfold hi wds
 rw[wd _ _ oM,BQ]
theorem mR (l:List Nat):(l.flatMap b8).length=8*l.length:=by
 induction l with
 | nil=>rfl
 | cons x l ih=>rw[x0,yh,ih,jU,List.length_cons];omega
theorem il (n:Nat):(hi n).size=8*((wds n).length-1):=by
 have:(hi n).size=(hi n).data.toList.length:=by rw[Array.length_toList];rfl
 rw[this,oc,mR,Am]
theorem mX:∀ (l:List Nat) (j k:Nat),j<l.length->k<8->(l.flatMap b8).getD (8*j+k) 0=(b8 (l.getD j 0)).getD k 0
  | [],j,k,hj,_=>by simp at hj
  | x::l,0,k,hj,hk=>by
    rw[x0]
    simp only[zY]
    rw[wk (by rw[jU];omega)]
    simp
  | x::l,j+1,k,hj,hk=>by
    rw[x0,List.getD_cons_succ,<-mX l j k (by simpa using hj) hk]
    simp only[zY]
    rw[wu (by rw[jU];omega),jU]
    congr 2
    omega
theorem FA (x k:Nat)(hk:k<8):((b8 x).getD k 0).toNat=x/256^k%256:=by
 unfold b8
 simp only[zY,As,Aw hk]
 rfl
theorem DO (n j k:Nat)(a:j+1<(wds n).length)(hk:k<8):aU (hi n) (8*j+k)=(wds n).getD (j+1) 0/256^k%256:=by
 unfold aU
 rw[oc,mX _ _ _ (by rw[Am];omega) hk,FA _ _ hk,bF,yg 1 j]
theorem GQ {s:ByteArray}{x:Nat}(a:x<18446744073709551616)(h:∀ k,k<8->aU s k=x/256^k%256):wv s=x:=by
 unfold wv
 rw[h 0 oM,h 1 oM,h 2 oM,h 3 oM,h 4 oM,h 5 oM,h 6 oM,h 7 oM]
 simp only[Nat.reducePow,Nat.div_one]
 omega
theorem iT (n j:Nat)(a:j+1<(wds n).length):wv ((hi n).extract (8*j) (hi n).size)=(wds n).getD (j+1) 0 :=
 GQ (nN n _) (fun k hk=>by rw[oN,DO n j k a hk])
theorem em {n:Nat}(h:n<18446744073709551616):hi n=⟨#[]⟩:=li h
theorem cG {n:Nat}(h:18446744073709551616<=n):2<=(wds n).length:=by
 rcases eb (wds n).length 2 with h1|h1
 ·have a:=i8 (b:=18446744073709551616) kD n
  have:(18446744073709551616:Nat)^(ja 18446744073709551616 n).length<=18446744073709551616^1:=y6 kD (by show (wds n).length<=1;omega)
  omega
 ·exact h1
theorem eJ {n:Nat}(h:18446744073709551616<=n):(hi n).size≠0:=by rw[il];have:=cG h;omega
theorem jT {n:Nat}(h0:0<n)(h:n<18446744073709551616):wds n=[n]:=by
 unfold wds
 rw[d5 kD h0,yr h,yQ h,jj]
theorem kV:wds 0=[]:=rfl
theorem kh {n:Nat}:0<(wds n).length↔0<n:=rP kD
theorem q7 (n:Nat):lo n=(((wds n).getD 0 0:Nat):Int):=by
 unfold lo wds
 rcases yA n with h|h
 ·subst h;rfl
 ·rw[d5 kD h];rfl
theorem nZ {l:List Nat}(h:Wd l):wds (aF l)=l.take (tl l l.length):=Fv kD h
theorem kL {n:Nat}(h:0<n):(wds n).getD ((wds n).length-1) 0≠0:=pF kD n h
theorem F2 {n:Nat}{l:List UInt8}(h:l=((wds n).drop 1).flatMap b8):(⟨l.toArray⟩:ByteArray)=hi n:=by
 have:(hi n).data.toList=l:=by rw[oc,h]
 cases e:hi n with
 | mk d=>rw[e] at this;rw[<-this]
theorem cY (n:Nat):n<18446744073709551616^(wds n).length:=i8 kD n
theorem cJ {a b:Nat}(h:a<=b):(wds a).length<=(wds b).length:=fw kD (yM h (cY b))
theorem gV {a b:Nat}(k:Nat)(h:a<2^k):a ||| b*2^k=a+b*2^k:=by
 have:=Az h b;rw[Nat.or_comm,yT b,<-this];omega
def bV (a b:Nat):Int:=if a<b then -1 else if b<a then 1 else 0
theorem dw {a b:Nat}(h:a<b):bV a b = -1:=by simp[bV,h]
theorem eZ {a b:Nat}(h:b<a):bV a b=1:=by unfold bV;rw[if_neg oM,if_pos h]
theorem io {a b:Nat}(h:a=b):bV a b=0:=by unfold bV;rw[if_neg oM,if_neg oM]
theorem fJ {a b:Nat}(h:b<=a):bV a b=0\/bV a b=1:=by
 unfold bV
 rw[if_neg oM]
 split<;>simp
theorem fO {a b:Nat}(h:(wds a).length<(wds b).length):a<b:=by
 rcases eb a b with hl|hl
 ·exact hl
 ·have:=cJ hl;omega
theorem lp {a b k:Nat}(d:(wds a).length=(wds b).length)(hk:k<(wds a).length)(f:(wds a).drop (k+1)=(wds b).drop (k+1))(c:(wds a).getD k 0<(wds b).getD k 0):a<b:=by
 have e:=bT 18446744073709551616 (l:=wds a) (k:=k+1) oM;have i:=bT 18446744073709551616 (l:=wds b) (k:=k+1) oM;have e1:ak 18446744073709551616 (wds a)=a:=ay a;have e2:ak 18446744073709551616 (wds b)=b:=ay b;have o:=aZ 18446744073709551616 (l:=wds a) (k:=k) hk;have j:=aZ 18446744073709551616 (l:=wds b) (k:=k) oM;have h:=ci (Dg.take (Wd.wds a) k);rw[yY,yZ oM] at h
 have hm:18446744073709551616^k*(wds a).getD k 0+18446744073709551616^k<=18446744073709551616^k*(wds b).getD k 0:=by
  rw[<-A2];exact y9 _ c
 rw[f] at e
 omega
theorem kw {a b k:Nat}(c:(wds a).length=(wds b).length)(hk:k<(wds a).length)(d:(wds a).drop (k+1)=(wds b).drop (k+1))(e:(wds a).getD k 0≠(wds b).getD k 0):bV ((wds a).getD k 0) ((wds b).getD k 0)=bV a b:=by
 rcases eb ((wds a).getD k 0) ((wds b).getD k 0) with h|h
 ·rw[dw h,dw (lp c hk d h)]
 ·rw[eZ oM,eZ (lp c.symm oM d.symm oM)]
theorem eN {l m:List Nat}{k:Nat}(c:l.length=m.length)(hk:k<l.length)(b:l.drop (k+1)=m.drop (k+1))(a:l.getD k 0=m.getD k 0):l.drop k=m.drop k:=by
 rw[y3 hk,y3 (l:=m) (i:=k) oM,b]
 simp[hk,show k<m.length by omega] at a
 rw[a]
theorem sj (n:Nat):n%18446744073709551616=(wds n).getD 0 0:=Int.ofNat.inj (q7 n)
theorem nP {a b:Nat}(c:(wds a).length=(wds b).length)(d:(wds a).drop 1=(wds b).drop 1):bV (a%18446744073709551616) (b%18446744073709551616)=bV a b:=by
  rw[sj,sj]
  by_cases h:(wds a).getD 0 0=(wds b).getD 0 0
  . have:a=b:=by
      rcases yA (wds a).length with h0|h0
      . have e1:=ay a
        have e2:=ay b;have f:wds a=[]:=yj h0;have e:wds b=[]:=yj oM;rw[f] at e1
        rw[e] at e2
        exact e1.symm.trans e2
      . have:=eN c h0 d h
        simp only[yb] at this
        rw[<-ay a,<-ay b,this]
    rw[h,io rfl,io this]
  . refine kw c ?_ d h
    rcases yA (wds a).length with h0|h0
    . exfalso;apply h
      have e1:wds a=[]:=yj h0;have e2:wds b=[]:=yj oM;rw[e1,e2]
    . exact h0
theorem r6 {n:Nat}(h:(wds n).length<=1):n<18446744073709551616:=by
 rcases eb n 18446744073709551616 with h1|h1
 ·exact h1
 ·have:=cG h1;omega
theorem pD {a b:Nat}(c:(wds a).length-1=(wds b).length-1)(d:(wds a).drop 1=(wds b).drop 1):bV (a%18446744073709551616) (b%18446744073709551616)=bV a b:=by
 rcases eb 1 (wds a).length with h|h
 ·exact nP oM d
 ·rw[yr (r6 h),yr (r6 oM)]
theorem xP {n:Nat}(h:0<n):nb n=64*((wds n).length-1)+nb ((wds n).getD ((wds n).length-1) 0):=by
 have b:=kh.2 h;have e:=aZ 18446744073709551616 (l:=wds n) (k:=(wds n).length-1) oM;rw[show (wds n).length-1+1=(wds n).length by omega,yd] at e
 have e1:ak 18446744073709551616 (wds n)=n:=ay n;have a:=ci (Dg.take (Wd.wds n) ((wds n).length-1));rw[yY,yZ oM] at a
 have e2:(18446744073709551616:Nat)^((wds n).length-1)=2^(64*((wds n).length-1)):=by rw[zy]
 rw[e1,e2] at e
 rw[e2] at a
 have:=wo a (A4 (kL h));rw[<-e] at this
 exact this
theorem iR {n:Nat}(h:n<18446744073709551616):Value.agg #[.int .u64 (n:Int),.string ⟨#[]⟩]=nv n:=by unfold nv;rw[lM h,li h]
theorem dR {n:Nat}:(wds n).length<=1↔n<18446744073709551616:=by
 constructor
 ·intro h
  rcases eb n 18446744073709551616 with h1|h1
  ·exact h1
  ·have:=cG h1;omega
 ·intro h
  rcases yA n with h0|h0
  ·subst h0;simp[kV]
  ·rw[jT h0 h];simp
structure HalfQ (Y y1 y0 u u1 q r:Nat):Prop where
  e:q*y1+r=u
  lt:u*4294967296+u1<(q+1)*Y
  qb:q<=4294967297
theorem kS {Y y1 y0 u u1:Nat}(c:Y=y1*4294967296+y0)(h1:u1<4294967296)(h:2147483648<=y1)(h0:y0<4294967296)(e:u<Y):HalfQ Y y1 y0 u u1 (u/y1) (u-u/y1*y1):=by
 have hm:u/y1*y1<=u:=A5 u y1
 have d:u<(u/y1+1)*y1:=by
  have:=A6 (a:=u) (b:=y1) oM;rw[z7,Ab];exact this
 refine ⟨by omega,?_,?_⟩
 ·have:(u/y1+1)*Y=(u/y1+1)*y1*4294967296+(u/y1+1)*y0:=by rw[c,yV,yW]
  omega
 ·have f:u/y1<4294967298:=by
   rw[A7 oM]
   omega
  omega
theorem nk {u y1:Nat}(h:0<y1):u-u/y1*y1<y1:=by
 have:=A6 (a:=u) (b:=y1) h;have hm:u/y1*y1<=u:=A5 u y1
 omega
theorem HalfQ.dec {Y y1 y0 u u1 q r:Nat}(h:HalfQ Y y1 y0 u u1 q r)(b:Y=y1*4294967296+y0)(h1:u1<4294967296)(c:u<Y)(a:4294967296<=q\/4294967296*r+u1<q*y0):HalfQ Y y1 y0 u u1 (q-1) (r+y1):=by
 have d:0<q:=by
  rcases a with h2|h2
  ·omega
  ·rcases yA q with h3|h3
   ·subst h3;omega
   ·exact h3
 obtain ⟨p,rfl⟩:∃ p,q=p+1:=⟨q-1,by omega⟩;have e:=h.e;rw[z7,Ab] at e
 refine ⟨by rw[A8];omega,?_,by have:=h.qb;omega⟩;rw[A8]
 rcases a with h2|h2
 ·have:4294967296*Y<=(p+1)*Y:=ym _ h2
  omega
 ·have:(p+1)*Y=(p+1)*y1*4294967296+(p+1)*y0:=by rw[b,yV,yW]
  rw[z7 p 1 y1,Ab] at this
  omega
theorem HalfQ.fin {Y y1 y0 u u1 q r:Nat}(h:HalfQ Y y1 y0 u u1 q r)(c:Y=y1*4294967296+y0)(f:¬4294967296*r+u1<q*y0):q=(u*4294967296+u1)/Y/\(u*4294967296+u1)-q*Y=(u*4294967296+u1)%Y/\q*Y<=u*4294967296+u1:=by
 have a:q*Y<=u*4294967296+u1:=by
  have:q*Y=q*y1*4294967296+q*y0:=by rw[c,yV,yW]
  have:=h.e
  omega
 have b:q=(u*4294967296+u1)/Y:=(A9 a h.lt).symm;have d:=Af (u*4294967296+u1) Y;rw[<-b,yT] at d
 exact ⟨b,by omega,a⟩
theorem HalfQ.brk {Y y1 y0 u u1 q r:Nat}(h:HalfQ Y y1 y0 u u1 q r)(b:Y=y1*4294967296+y0)(h0:y0<4294967296)(hr:4294967296<=r)(a:q<=4294967296):q=(u*4294967296+u1)/Y/\(u*4294967296+u1)-q*Y=(u*4294967296+u1)%Y/\q*Y<=u*4294967296+u1 :=
 h.fin b (by
  have:q*y0<=4294967296*y0:=ym _ a
  omega)
theorem mK {A y s Y Q R:Nat}(b:Y=y*2^s)(c:A*2^s=Y*Q+R)(hm:R<Y):A=y*Q+R/2^s/\R/2^s<y:=by
 have d:0<2^s:=y5 s;have e:y*Q*2^s=Y*Q:=by rw[b];ac_rfl
 have f:y*Q<=A:=by
  have:y*Q*2^s<=A*2^s:=by rw[c,e];omega
  exact Nat.le_of_mul_le_mul_right this d
 have a:R=(A-y*Q)*2^s:=by rw[Nat.sub_mul,c,e];omega
 rw[a,Nat.mul_div_cancel _ d];refine ⟨by omega,?_⟩;have:(A-y*Q)*2^s<y*2^s:=by rw[<-a,<-b];exact hm
 exact Bs this
theorem tA {A y s a d Y u1 h o f u R:Nat}(b:Y=y*2^s)(p:A*2^s=a*18446744073709551616+d)(e:d=u1*4294967296+h)(j:0<y)
  (e1:o=(a*4294967296+u1)/Y)(e2:f=(a*4294967296+u1)%Y)(l:u=(f*4294967296+h)/Y)(i:R=(f*4294967296+h)%Y) :
  A=y*(o*4294967296+u)+R/2^s/\R/2^s<y:=by
 have c:0<Y:=by rw[b];exact Nat.mul_pos j (y5 s)
 have x:=Af (a*4294967296+u1) Y;have z:=Af (f*4294967296+h) Y;rw[<-e1,<-e2] at x
 rw[<-l,<-i] at z
 have hm:R<Y:=by rw[i];exact ys _ c
 refine mK b ?_ hm;rw[p,e,yV,<-yW]
 clear e1 e2 l i p e hm b c j
 omega
theorem rH {y:Nat}(h0:0<y)(h:y<18446744073709551616):9223372036854775808<=y*2^(64-nb y)/\y*2^(64-nb y)<18446744073709551616:=by
 obtain ⟨c,a,d⟩:=cC h0;have b:nb y<=64:=kK (k:=64) h
 have e1:(2:Nat)^(nb y-1)*2^(64-nb y)=9223372036854775808:=by
  rw[<-y8,show nb y-1+(64-nb y)=63 by omega]
 have e2:(2:Nat)^nb y*2^(64-nb y)=18446744073709551616:=by
  rw[<-y8,show nb y+(64-nb y)=64 by omega]
 have f:=ym (2^(64-nb y)) c;have e:=D0 a (y5 (64-nb y))
 omega
theorem BI {hi lo s:Nat}(c:s<=64)(a:lo<18446744073709551616):(hi*18446744073709551616+lo)*2^s=(hi*2^s+lo/2^(64-s))*18446744073709551616+lo*2^s%18446744073709551616/\lo/2^(64-s)<2^s:=by
 have e:(18446744073709551616:Nat)=2^(64-s)*2^s:=by rw[<-y8,show 64-s+s=64 by omega]
 have h1:lo*2^s/18446744073709551616=lo/2^(64-s):=by
  rw[e,D1 _ _ (y5 s)]
 have b:=Af (lo*2^s) 18446744073709551616;rw[h1] at b
 constructor
 ·rw[z7,z7]
  have:hi*18446744073709551616*2^s=hi*2^s*18446744073709551616:=by ac_rfl
  omega
 ·rw[A7 (y5 _),yT,<-e];exact a
theorem mM {a b q Y r:Nat}(h:q*Y<=a*4294967296+b)(hr:a*4294967296+b-q*Y=r)(c:r<18446744073709551616):((a*4294967296%18446744073709551616+b)%18446744073709551616+(18446744073709551616-q*Y%18446744073709551616))%18446744073709551616=r:=by
 generalize q*Y=m at *
 omega
theorem Dn {a b:Nat}(ha:a<4294967296)(hb:b<4294967296):a*b<18446744073709551616:=by
 have:a*b<=4294967295*4294967295:=D2 oM oM
 omega
theorem dO {a b c:Nat}(h:c<a*b):0<a:=by
 rcases yA a with h0|h0
 ·rw[h0,yi] at h;omega
 ·exact h0
theorem oH {u u1 Y:Nat}(h:u<Y)(h1:u1<4294967296):(u*4294967296+u1)/Y<4294967296:=by
 rw[A7 oM];have:(u+1)*4294967296<=Y*4294967296:=ym _ h
 omega
theorem uT {p:Nat}(h:p<=64):(18446744073709551616:Nat)=2^(64-p)*2^p:=by rw[<-y8,show 64-p+p=64 by omega]
theorem vp {x p o:Nat}(c:p<=64)(b:x<18446744073709551616)(d:o<2^p) :
  o ||| (x*2^p%18446744073709551616)=o+x*2^p%18446744073709551616/\o+x*2^p%18446744073709551616<18446744073709551616/\x*2^p%18446744073709551616+18446744073709551616*(x/2^(64-p))=x*2^p/\x/2^(64-p)<2^p:=by
 have e:=uT c
 have hm:x*2^p%18446744073709551616=x%2^(64-p)*2^p:=by
  conv=>lhs;rw[e]
  exact Ga _ _ _
 have a:x%2^(64-p)<2^(64-p):=ys _ (y5 _);refine ⟨by rw[hm];exact gV p d,?_,?_,?_⟩
 ·rw[hm]
  have:(x%2^(64-p)+1)*2^p<=2^(64-p)*2^p:=ym _ a;rw[<-e,z7] at this
  omega
 ·have h1:x*2^p/18446744073709551616=x/2^(64-p):=by
   conv=>lhs;rw[e]
   exact D1 _ _ (y5 _)
  rw[<-h1];exact Gb _ _
 ·rw[A7 (y5 _),yT,<-e];exact b
theorem xx {l w:List Nat}{i q p x o a c:Nat}(u:i+q+1<l.length)(hv:aF l=2^p*(18446744073709551616^q*ak 18446744073709551616 (w.take i)))(h0:l.getD (i+q+1) 0=0)(e:a+18446744073709551616*c=x*2^p)(f:x=w.getD i 0)(h:o=l.getD (i+q) 0) :
  aF ((l.set (i+q) (o+a)).set (i+q+1) c)=2^p*(18446744073709551616^q*ak 18446744073709551616 (w.take (i+1))):=by
 have d:=cV 18446744073709551616 (l:=l) (k:=i+q) (o+a) oM;have b:=cV 18446744073709551616 (l:=l.set (i+q) (o+a)) (k:=i+q+1) c (by rw[Gx];omega);rw[bG oM,if_neg oM,h0] at b
 rw[<-h] at d
 have j:2^p*(18446744073709551616^q*ak 18446744073709551616 (w.take (i+1)))=aF l+18446744073709551616^(i+q)*(x*2^p):=by
  rw[a7,hv,<-f,yV,yV,y8]
  congr 1
  ac_rfl
 rw[j,<-e];rw[yS] at b
 show ak 18446744073709551616 _=ak 18446744073709551616 l+_
 simp only[yV,<-yW] at d b ⊢
 omega
theorem xW (n:Nat):(2:Nat)^n=18446744073709551616^(n/64)*2^(n%64):=by
 have:n=64*(n/64)+n%64:=by omega
 conv=>lhs;rw[this,y8,zy]
theorem oy {x y p:Nat}(d:p<=64)(c:x<18446744073709551616) :
  (x/2^p) ||| (y*2^(64-p)%18446744073709551616)=x/2^p+y*2^(64-p)%18446744073709551616/\x/2^p+y*2^(64-p)%18446744073709551616<18446744073709551616/\2^p*(x/2^p+y*2^(64-p)%18446744073709551616)+x%2^p=x+18446744073709551616*(y%2^p):=by
 have e:=uT d;have a:(18446744073709551616:Nat)=2^p*2^(64-p):=by rw[yT];exact e
 have hm:y*2^(64-p)%18446744073709551616=y%2^p*2^(64-p):=by
  conv=>lhs;rw[a]
  exact Ga _ _ _
 have f:x/2^p<2^(64-p):=by rw[A7 (y5 _),<-e];exact c
 have b:y%2^p<2^p:=ys _ (y5 _);refine ⟨by rw[hm];exact gV (64-p) f,?_,?_⟩
 ·rw[hm]
  have:(y%2^p+1)*2^(64-p)<=2^p*2^(64-p):=ym _ b;rw[<-a,z7] at this
  omega
 ·rw[hm,yV]
  have h1:=Af x (2^p);have h:2^p*(y%2^p*2^(64-p))=18446744073709551616*(y%2^p):=by rw[a];ac_rfl
  omega
theorem qg {l W:List Nat}{i p d a:Nat}(b:i<l.length)(inv:2^p*ak 18446744073709551616 l+a=ak 18446744073709551616 (W.take i)+18446744073709551616^i*(W.getD i 0%2^p))(h0:l.getD i 0=0)(e:2^p*d+W.getD i 0%2^p=W.getD i 0+18446744073709551616*(W.getD (i+1) 0%2^p)) :
  2^p*ak 18446744073709551616 (l.set i d)+a=ak 18446744073709551616 (W.take (i+1))+18446744073709551616^(i+1)*(W.getD (i+1) 0%2^p):=by
 have f:=cV 18446744073709551616 (l:=l) (k:=i) d b;rw[h0] at f
 rw[a7,yS];have e1:18446744073709551616^i*(2^p*d+W.getD i 0%2^p)=18446744073709551616^i*(W.getD i 0+18446744073709551616*(W.getD (i+1) 0%2^p)):=by rw[e]
 have e2:ak 18446744073709551616 (l.set i d)=ak 18446744073709551616 l+18446744073709551616^i*d:=by omega
 rw[e2,yV];have c:2^p*(18446744073709551616^i*d)=18446744073709551616^i*(2^p*d):=by ac_rfl
 rw[c]
 simp only[yV,<-yW] at e1 ⊢
 simp only[yW] at e1 inv ⊢
 omega
theorem Ci {l W:List Nat}{p m:Nat}(hm:W.length<=m)(inv:2^p*ak 18446744073709551616 l+W.getD 0 0%2^p=ak 18446744073709551616 (W.take m)+18446744073709551616^m*(W.getD m 0%2^p)):aF l=aF W/2^p:=by
 rw[z8 hm] at inv
 have h0:W.getD m 0=0:=by simp[pe hm]
 rw[h0,G1,y2,ya] at inv
 have a:=y5 p;have b:=ys (W.getD 0 0) a
 show ak _ l=ak _ W/_
 rw[<-inv,HA a,yQ b,ya]
theorem ng {w:List Nat}(b:Wd w){q:Nat}(a:q<=w.length):aF (w.drop q)=aF w/18446744073709551616^q:=by
 have e:=bT 18446744073709551616 a;have h1:=ci (Dg.take b q);rw[yY,yZ a] at h1
 show ak _ _=ak _ w/_
 rw[e,zT _ _ (zW kD),yQ h1,yl]
def mr (x:Nat):List Value:=[.int .u8 (x:Nat)]
theorem qU {b:Nat}(hb:0<b){l:List Nat}(h:Dg b l)(j:Nat):l.getD j 0=ak b l/b^j%b:=by
 rcases eb j l.length with hj|hj
 ·have h1:=bT b (l:=l) (k:=j) oM
  have d:=e9 b (l:=l) (k:=j) hj;have a:=ci (Dg.take h j);rw[yY,yZ oM] at a
  have c:0<b^j:=zW hb;rw[h1,zT _ _ c,yQ a,yl,d,H1,yr (h.getD hb j)]
 ·rw[cA hj,yQ,G1]
  exact ey (ci h) (y6 hb hj)
theorem vh {b:Nat}{l:List Nat}{k P:Nat}(hk:k<l.length)(hb:0<b)(h:ak b l<b^k*P):l.getD k 0<P:=by
 have h1:=bT b (l:=l) (k:=k) oM;have c:=e9 b (l:=l) (k:=k) hk;have d:0<b^k:=zW hb;refine Nat.lt_of_mul_lt_mul_left (a:=b^k) ?_;have e:b^k*l.getD k 0<=b^k*ak b (l.drop k):=y9 _ (by rw[c];omega)
 omega
theorem rh (k:Nat):(256:Nat)^k=18446744073709551616^(k/8)*2^(8*(k%8)):=by
 have:k=8*(k/8)+k%8:=by omega
 conv=>lhs;rw[this,y8,zy]
 rw[zy 2 8]
theorem oX {l:List Nat}(a:Wd l)(k:Nat):l.getD (k/8) 0/2^(8*(k%8))%256=aF l/256^k%256:=by
 rw[qU kD a (k/8),rh,<-zX]
 show _=ak 18446744073709551616 l/_/_%256
 generalize ak 18446744073709551616 l/18446744073709551616^(k/8)=y
 have:k%8=0\/k%8=1\/k%8=2\/k%8=3\/k%8=4\/k%8=5\/k%8=6\/k%8=7:=by omega
 rcases this with h|h|h|h|h|h|h|h<;>rw[h]<;>omega
theorem wJ (n k:Nat):(wds n).getD (k/8) 0/2^(8*(k%8))%256=n/256^k%256:=by
 rw[oX (Wd.wds n),ay]
theorem wc {b k:Nat}(hb:b<256):b*2^(8*(k%8))<18446744073709551616:=by
 have:k%8=0\/k%8=1\/k%8=2\/k%8=3\/k%8=4\/k%8=5\/k%8=6\/k%8=7:=by omega
 rcases this with h|h|h|h|h|h|h|h<;>rw[h]<;>omega
theorem uq {a b k:Nat}(ha:a<2^(8*(k%8)))(hb:b<256):a+b*2^(8*(k%8))<18446744073709551616:=by
 have:k%8=0\/k%8=1\/k%8=2\/k%8=3\/k%8=4\/k%8=5\/k%8=6\/k%8=7:=by omega
 rcases this with h|h|h|h|h|h|h|h<;>rw[h] at ha ⊢ <;> omega
theorem rK {l:List Nat}{n k x:Nat}(hk:k/8<l.length)(inv:aF l=n%256^k)(c:x=n/256^k%256) :
  (l.getD (k/8) 0 ||| x*2^(8*(k%8))%18446744073709551616)=l.getD (k/8) 0+x*2^(8*(k%8))/\l.getD (k/8) 0+x*2^(8*(k%8))<18446744073709551616 /\
  aF (l.set (k/8) (l.getD (k/8) 0+x*2^(8*(k%8))))=n%256^(k+1):=by
 have hb:x<256:=by rw[c];exact ys _ oM
 have a:aF l<256^k:=by rw[inv];exact ys _ (zW oM)
 have d:l.getD (k/8) 0<2^(8*(k%8)):=vh (b:=18446744073709551616) hk kD (by rw[<-rh];exact a);refine ⟨?_,uq d hb,?_⟩
 ·rw[yr (wc hb)];exact gV _ d
 ·have e:=cV 18446744073709551616 (l:=l) (k:=k/8) (l.getD (k/8) 0+x*2^(8*(k%8))) hk
  rw[vv,<-c,<-inv]
  show ak _ _=ak _ l+_
  have e2:256^k*x=18446744073709551616^(k/8)*(x*2^(8*(k%8))):=by rw[rh k];ac_rfl
  rw[yV] at e
  rw[e2]
  omega
theorem vR (n:Nat):n<256^((nb n+7)/8):=by
 have h:=Hj n;have e:(256:Nat)^((nb n+7)/8)=2^(8*((nb n+7)/8)):=by rw[zy]
 rw[e];exact ey h (y6 oM oM)
theorem me (n:Nat):nb n<=64*(wds n).length:=by
 apply kK
 have:=cY n
 rwa [show (18446744073709551616:Nat)=2^64 by rfl,<-zy] at this
theorem lg (n:Nat):(wds n).length=(nb n+63)/64:=by
 rcases yA n with h|h
 ·subst h;rfl
 ·have h1:=xP h
  have b:=kL h;have a:=nN n ((wds n).length-1);have e:=kh.2 h
  generalize (wds n).getD ((wds n).length-1) 0=t at *
  have d:=(cC (A4 b)).2.2;have c:nb t<=64:=kK (k:=64) a
  omega
def Nw (K:Nat)(h:Hp)(b:Nat)(t:TypeId)(cs:List Value):Prop:=K<=b/\t≠0/\h[b]?=some (.cells cs.toArray t (0,0))
theorem Nw.gw {K:Nat}{h c:Hp}{b:Nat}{t:TypeId}{cs:List Value}(x:Nw K h b t cs)(u:Gw h c):Nw K c b t cs:=by
 obtain ⟨h1,d,a⟩:=x;refine ⟨h1,d,?_⟩
 rcases u.blk b (aJ a) with e|e
 ·exact e.trans a
 ·rw[e] at a
  injection a with a
  unfold bj at a
  injection a with _ h4
  exact absurd h4.symm d
theorem Nw.seg {K:Nat}{h:Hp}{b:Nat}{t:TypeId}{cs sp:List Value}(x:Nw K h b t (cs++sp)):Seg h b 0 cs:=fun i v hv=>by
 unfold dL
 rw[x.2.2];have hi:i<cs.length:=(Jy.1 hv).1
 simp only[yl,List.getElem?_toArray]
 rw[wk hi];exact hv
theorem Nw.seg0 {K:Nat}{h:Hp}{b:Nat}{t:TypeId}{cs:List Value}(x:Nw K h b t cs):Seg h b 0 cs:=Nw.seg (sp:=[]) (by rw[List.append_nil];exact x)
section laws
variable {M:Ms}{P:Program}{n:Nat}{N R:Po}{X:Nat->Po}{ops:Array Oper}{k k0:Nat}{hr:Hp}{AL:List Al}{L:Array Bool}{Γ:ck}{w:World}{h:Hp}{w0:World}{h0:Hp}{B:List Bx}{Rs:List Rw}{F:List (Hp->Prop)}
theorem SlO.flat {α:Type}{sz:Nat}{f:α->List Value}{d:α}{A:Z9}:∀ {l:List α},(∀ x,(f x).length=sz)->SlO sz f d h A l->Seg h (aB A) (aO A) (l.flatMap f)
  | l,hf,s=>fun i v hv=>by
    have hi:i<(l.flatMap f).length:=(Jy.1 hv).1;rw[dG hf] at hi
    rcases yA sz with h0'|hp
    . subst h0';simp at hi
    . have hk:i/sz<l.length:=(A7 hp).2 hi
      have hr:i%sz<sz:=ys _ hp;have a:=s.el (i/sz) hk (i%sz) v;have b:=f4 hf d l (i/sz) hk;have hm:i/sz*sz+i%sz=i:=by rw[yT];exact Af i sz
      have:=a (by rw[<-b,wq hr,ws,hm];exact hv)
      rwa [xf,hm] at this
theorem jz {b o:Nat}{news:List Value}(g:G w h)(c:Seg h b o news):∀ j u,news[j]?=some u->w.cell? ((⟨b,o,none⟩:Addr).add j)=some u:=by
 intro j u a;have:=kp g (c j u a)
 unfold Addr.add
 split
 ·rename_i h0;subst h0;exact this
 ·exact this
theorem vz {α:Type}{f:α->List Value}{l m:List α}:l.flatMap f++m.flatMap f=(l++m).flatMap f:=by simp
theorem np (j o:Nat)(cs:List Value)(s:SS w0 h0 w h B Rs F)(H:∀ w',Put (ax B j).b w w'->SS w0 h0 w' h (fy B j o cs) Rs F->LG P n N R X ops (k+1) Γ w')(c:cS ops Γ k=true:=by kernel_rfl)
  (a:(decide (j<B.length) && decide (o+cs.length<=(ax B j).vs.length))=true:=by kernel_rfl)(d:dJ P (execOp (ev Γ) (ao ops k))=some (.skip,n8 (ax B j).b o cs):=by kernel_rfl):LG P n N R X ops k Γ w :=
 LG.put j o cs s.st s.g0 (iH c).1 (iH c).2 a d (fun w' p e=>H w' p (s.put0 (oT (g7 _ _▸a).1) p e (kz (oT (g7 _ _▸a).1))))
theorem tX (i t:Nat)(A:Z9)(len a sz:Nat)(x:Int)(j:Nat)(d:A=some ⟨aB A,aO A,none⟩)(H:AG M P n N R X ops k0 (L.setIfInBounds i true) ((t,.pointer (some ⟨aB A,aO A+j*sz,none⟩))::Γ) w)(c:cT n ops k0 L Γ i t=true:=by kernel_rfl)(e:CF P (ev Γ) (ao ops i)=some (.slice A len a,.int .i64 x,sz):=by kernel_rfl)(hk:x=j:=by omega)(b:j<len:=by omega):AG M P n N R X ops k0 L Γ w :=
 T.val i t _ w (qi c).1 (qi c).2 (gt e d hk b w) H
theorem eK {α:Type}(i t:Nat)(ty:TypeId)(m sz y:Nat)(z:Value)(f:α->List Value)(d:α)(s:SS w0 h0 w h B Rs F)(H:∀ b w' h',SS w0 h0 w' h' (⟨b,ty,(yp m d).flatMap f⟩::B) Rs F->EG M P n N R X ops k0 hr AL (L.setIfInBounds i true) ((t,.slice (some ⟨b,0,none⟩) m m)::Γ) w' h')(C:C4 n ops k0 AL L Γ i t=true:=by kernel_rfl)
  (D:HH P (ev Γ) (ao ops i)=some (.int .i64 (m:Int),.int .i64 (m:Int),ty,z,sz,y):=by kernel_rfl)(o:z.cells.toList=f d:=by kernel_rfl)(e:z.cells.size=sz:=by kernel_rfl)(c:0<sz:=by decide)(hm:y*m<=140737488355328:=by omega)(j:m<9223372036854775808:=by omega):EG M P n N R X ops k0 hr AL L Γ w h :=
 Rg.event i t (iK C).1 (iK C).2 (fun w1 h1 u=>by
  have a:=s.step u;have p:Up w1 h1 (w1.alloc (.cells ((yp m d).flatMap f).toArray ty (0,0))) (h1.push bj):=Up.allocAny a.g _ _ (.inr rfl);refine .inl ⟨_,_,_,sI D o e c hm j w1,p.m M.l,H _ _ _ (a.new p (by rw[a.g.size];exact ep _) (St.new1 (x:=⟨0,0,.cells ((yp m d).flatMap f).toArray ty (0,0)⟩) a.st (a.st.step p) ⟨?_,?_,?_⟩ ty _ rfl))⟩
  ·rw[heap_alloc];exact e6
  ·rw[a.g.size];exact e6
  ·show h1.size<=w1.heap.size;rw[a.g.size];exact ep _)
theorem SS.blkp {F1:List (Hp->Prop)}{wr:World}{x:Al}{b:Nat}(a:List Bx)(j:SS w0 h0 wr hr B Rs F1)(s:SS w0 h0 w h (a++B) Rs F)(k:Blk hr w h (x,b))(t:TypeId)(vs:List Value)(p:x.o=.cells vs.toArray t (0,0))(u:a.all (fun y=>y.t != t)=true):SS w0 h0 w h (⟨b,t,vs⟩::(a++B)) Rs F :=
 ⟨s.g0,St.new j.st s.st (fun y d=>by
  rcases List.mem_append.1 d with d|d
  ·right
   intro e;have h1:=s.st.own y (List.mem_append_left _ d);have l:w.heap[b]?=some x.o:=k.1
   unfold Own at h1
   rw[e,l,p] at h1
   injection h1 with h1
   injection h1 with _ h3
   have:=(hH.1 u) y d
   simp only[bne_iff_ne,ne_eq] at this
   exact this h3.symm
  ·exact .inl (aJ (j.st.jk y d))) k t vs p,fun r i=>(s.ro r i).new b (fun c z e=>by
  have h1:=(j.ro r i).lt z;have l:hr.size<=b:=k.2.2
  omega),s.ap,s.mo,s.f⟩
theorem eP {F1:List (Hp->Prop)}{wr:World}{x:Al}(a:List Bx)(j:SS w0 h0 wr hr B Rs F1)(s:SS w0 h0 w h (a++B) Rs F)(t:TypeId)(vs:List Value)(H:∀ w' c b,SS w0 h0 w' c (⟨b,t,vs⟩::(a++B)) Rs F->AG M P n N R X ops k0 (L.setIfInBounds x.i true) ((x.t,.pointer (some ⟨b,0,none⟩))::Γ) w')(e:(fT ops [x] L && decide (x.t<n))=true:=by kernel_rfl)(f:x.o=.cells vs.toArray t (0,0):=by kernel_rfl)(d:a.all (fun y=>y.t != t)=true:=by kernel_rfl):EG M P n N R X ops k0 hr [x] L Γ w h :=
 Rg.fin1 e (fun w' c b u k=>H w' c b (SS.blkp a j (s.step u) k t vs f d))
end laws
theorem SS.at_ {w:World}{h:Hp}{rb:Nat}{t:TypeId}{vs:List Value}(g:G w h)(o:Own w rb t vs)(j:h[rb]?=some bj):∃ w0 h0,SS w0 h0 w h [⟨rb,t,vs⟩] [] []:=by
 obtain ⟨w0,h0,b,c⟩:=St.at_ g o j;exact ⟨w0,h0,b,c,fun _ a=>(by cases a),.nil,fun _ a=>(by cases a),trivial⟩
theorem SlO.take {α:Type}{sz:Nat}{f:α->List Value}{d:α}{h:Hp}{A:Z9}{l:List α}(s:SlO sz f d h A l)(k:Nat):SlO sz f d h A (l.take k) :=
 ⟨fun a=>s.ok (by rw[yY] at a;omega),fun i hi=>by
  rw[yY] at hi
  have:=s.el i oM
  rwa [zY,wq oM,<-zY]⟩
theorem SlO.drop {α:Type}{sz:Nat}{f:α->List Value}{d:α}{h:Hp}{A:Z9}{l:List α}(s:SlO sz f d h A l)(k c:Nat)(j:l.length<=c):SlO sz f d h (if c=k then A else A.map (·.add (k*sz))) (l.drop k):=by
 rcases eb k l.length with hk|hk
 ·rw[if_neg oM]
  have b:=s.ok oM
  have a:(⟨aB A,aO A,none⟩:Addr).add (k*sz)=⟨aB A,aO A+k*sz,none⟩:=by
   unfold Addr.add
   split
   ·rename_i h0;rw[h0];rfl
   ·rfl
  have e:A.map (·.add (k*sz))=some ⟨aB A,aO A+k*sz,none⟩:=by rw[b];simp only[Option.map_some,aB,aO] at a ⊢;rw[<-a]
  refine ⟨fun _=>by rw[e];rfl,fun i hi=>?_⟩;rw[e]
  show Seg h (aB A) (aO A+k*sz+i*sz) _
  rw[Am] at hi
  have:=s.el (k+i) oM;rw[z7,<-xf] at this
  rwa [zY,ws,<-zY]
 ·rw[Jz hk];exact SlO.nil
theorem pm (x y:Int):(if y>x then y else x)=max x y:=by omega
theorem uN (x y:Int):(if y<x then y else x)=min x y:=by omega
section z
variable {bs:List Nat}{P:Program}{n:Nat}{N R:Po}{X:Nat->Po}{ops:Array Oper}{k0:Nat}{hr:Hp}{AL:List Al}{L:Array Bool}{Γ:ck}{w wr:World}{h:Hp}{w0:World}{h0:Hp}{B:List Bx}{Rs:List Rw}{F F1:List (Hp->Prop)}
abbrev Mz (hr:Hp)(bs:List Nat):Ms:=⟨[],some (hr.size,bs)⟩
theorem CJ {id:Nat}{d:Bool}(k0:Nat)(AL:List Al)(bs:List Nat)(hm:P.follows .mixedOrders=true)(s:SS w0 h0 w h B Rs F)(b:∀ x∈AL,AlOk P ops k0 x)(H:EG (Mz h bs) P n N R X ops k0 h AL (o8 ops.size false) Γ w h)(a:kC ops=true:=by kernel_rfl):CG P n N R X (.region id ops d) Γ w :=
 CG.region (Mz h bs) k0 AL hm a s.g b (fun _ hb=>by cases hb) H
theorem G3 (c:SS w0 h0 wr hr B Rs F1)(s:SS w0 h0 w h B Rs F){w':World}(a:∀ b,b<hr.size->b ∉ bs->b ∉ ([]:List Nat)->w'.heap[b]?=w.heap[b]?):∀ x∈B,x.b ∉ bs->Own w' x.b x.t x.vs:=fun x hm hb =>
 (a x.b (aJ (c.st.jk x hm)) hb List.not_mem_nil).trans (s.st.own x hm)
theorem vf (i t:Nat)(ps:List (Nat × Nat × Nat))(v:Value)(f:SS w0 h0 wr hr B Rs F1)(s:SS w0 h0 w h B Rs F)(H:EG (Mz hr bs) P n N R X ops k0 hr AL (L.setIfInBounds i true) ((t,v)::Γ) w h)(hM:∀ p∈ps,(ax B p.1).b ∉ bs:=by intro _ _;exact List.not_mem_nil)(a:cE n ops k0 AL L Γ i t=true:=by kernel_rfl)(d:ce B ps=true:=by kernel_rfl)(e:bU P (execOp (ev Γ) (ao ops i)) (cO B ps)=some (.value v,bQ B ps):=by kernel_rfl):EG (Mz hr bs) P n N R X ops k0 hr AL L Γ w h :=
 Rg.loadZ i t v rfl (jR a).1 (jR a).2 (fun w' c=>bS _ _ _ _ e (gG hM (G3 f s c) ps (fun _ h=>h) d)) H
theorem EW {x y:Al}(C:SS w0 h0 wr hr B Rs F)(s:SS w0 h0 w h B Rs F)(t:TypeId)(vs:List Value)(p:TypeId)(j:List Value)(H:∀ w' z b c,hr.size<=b->hr.size<=c->SS w0 h0 w' z (⟨b,t,vs⟩::⟨c,p,j⟩::B) Rs F->AG (Mz hr bs) P n N R X ops k0 ((L.setIfInBounds y.i true).setIfInBounds x.i true) ((x.t,.pointer (some ⟨b,0,none⟩))::(y.t,.pointer (some ⟨c,0,none⟩))::Γ) w')(J:(fT ops [x,y] L && decide (x.t<n) && decide (y.t<n) && (x.t != y.t) && (x.i != y.i))=true:=by kernel_rfl)(M:x.o=.cells vs.toArray t (0,0):=by kernel_rfl)(l:y.o=.cells j.toArray p (0,0):=by kernel_rfl):EG (Mz hr bs) P n N R X ops k0 hr [x,y] L Γ w h :=
 Rg.fin2 J (fun w' z b c u k k2 D=>H w' z b c k.2.2 k2.2.2 ⟨s.g0,St.new2 C.st (s.st.step u) k k2 D t vs M p j l,fun r a=>(((s.step u).ro r a).new c (fun d I e=>by
  have h1:=(C.ro r a).lt I;have K:hr.size<=c:=k2.2.2
  omega)).new b (fun d I e=>by
  have h1:=(C.ro r a).lt I;have K:hr.size<=b:=k.2.2
  omega),s.ap,s.mo,(s.step u).f⟩)
theorem iC {b:Nat}(hb:hr.size<=b):∀ K a,(Mz hr bs).z=some (K,a)->K<=b\/b∈a:=fun K a e=>by
 injection e with e
 injection e with e1 e2
 subst e1;exact .inl hb
theorem fK {b:Nat}(hb:b∈bs):∀ K a,(Mz hr bs).z=some (K,a)->K<=b\/b∈a:=fun K a e=>by
 injection e with e
 injection e with e1 e2
 subst e2;exact .inr hb
end z
def fH (x:Nat):List Value:=[.int .u32 (x:Nat)]
abbrev S3 (A:Z9)(l:List Nat):Hp->Prop:=fun h_=>SlO 1 fH 0 h_ A l
theorem mL:∀ f n:Nat,p9 f n=o9 4294967296 f n
  | 0,_=>rfl
  | f+1,n=>by
    unfold p9 o9
    split
    . rfl
    . rw[mL f]
theorem AH (n:Nat):lim n=ja 4294967296 n:=mL n n
def Ld (l:List Nat):Prop:=Dg 4294967296 l
theorem Ld.lim (n:Nat):Ld (lim n):=fun x a=>jM n x a
theorem Ld.get {l:List Nat}(h:Ld l)(k:Nat):l.getD k 0<4294967296:=Dg.getD h kD k
theorem Ld.set {l:List Nat}(h:Ld l)(k:Nat){x:Nat}(a:x<4294967296):Ld (l.set k x):=Dg.set h k a
theorem Ld.rep (n:Nat):Ld (yp n 0):=Dg.rep kD
theorem pU (n:Nat):ak 4294967296 (lim n)=n:=by rw[<-jY];exact fl n
theorem vu {l:List Nat}(h:Ld l){n:Nat}(e:ak 4294967296 l=n):lim n=l.take (tl l l.length):=by
 rw[<-e,<-jY];exact wQ h
theorem rp {l:List Nat}(h:Ld l){n:Nat}(e:ak 4294967296 l=n):(lim n).length=tl l l.length:=by
 rw[vu h e,yY];have:=iO l l.length;omega
theorem i5 (n:Nat):n<4294967296^(lim n).length:=by rw[AH];exact i8 kD n
theorem gH {a b:Nat}(h:a<=b):(lim a).length<=(lim b).length:=gn (yM h (i5 b))
theorem oE {a b k:Nat}(h:a<=b)(hb:(lim b).length<=k):(lim a).length<=k:=eu (gH h) hb
theorem sf (n:Nat):(lim n).length<=2*(wds n).length:=by
 refine gn ?_;have:=cY n
 rwa [show (18446744073709551616:Nat)=4294967296^2 by rfl,<-zy] at this
theorem BG (n:Nat):(wds n).length<=(lim n).length:=by
 refine fw kD ?_;have:=i5 n;exact ey this (Nat.pow_le_pow_left kD _)
theorem fM {a b:Nat}(h:(lim a).length<(lim b).length):a<b:=by
 rcases eb a b with hl|hl
 ·exact hl
 ·have:=gH hl;omega
theorem BW {a b:Nat}(h:lim a=lim b):a=b:=by rw[<-fl a,<-fl b,h]
theorem gI {a b k:Nat}(e:(lim a).length=(lim b).length)(hk:k<(lim a).length)(f:(lim a).drop (k+1)=(lim b).drop (k+1))(c:(lim a).getD k 0<(lim b).getD k 0):a<b:=by
 have d:=bT 4294967296 (l:=lim a) (k:=k+1) oM;have h:=bT 4294967296 (l:=lim b) (k:=k+1) oM;rw[pU] at d h
 rw[f] at d
 have o:=aZ 4294967296 (l:=lim a) (k:=k) hk;have j:=aZ 4294967296 (l:=lim b) (k:=k) oM;have i:=ci (Dg.take (Ld.lim a) k);rw[yY,yZ oM] at i
 have hm:4294967296^k*(lim a).getD k 0+4294967296^k<=4294967296^k*(lim b).getD k 0:=by
  rw[<-A2];exact y9 _ c
 omega
def RN (h:Hp)(v:Value)(n:Nat):Prop:=HG 1 fH 0 h v (lim n)
def RI (h:Hp)(v:Value)(z:Int):Prop:=∃ A c,v=.agg #[.bool (aw z),.slice A (lim (ab z)).length c]/\(lim (ab z)).length<=c/\SlO 1 fH 0 h A (lim (ab z))
def RP (h:Hp)(v:Value)(z:Int)(n:Nat):Prop:=∃ A c B d,v=.agg #[.bool (aw z),.slice A (lim (ab z)).length c,.slice B (lim n).length d]/\(lim (ab z)).length<=c/\(lim n).length<=d/\SlO 1 fH 0 h A (lim (ab z))/\SlO 1 fH 0 h B (lim n)
def RQ (h:Hp)(v:Value)(q:Rat):Prop:=RP h v q.num q.den
theorem RP.gw {h a:Hp}{v:Value}{z:Int}{n:Nat}(r:RP h v z n)(u:Gw h a):RP a v z n:=by
 obtain ⟨A,c,B,d,h1,i,e,b,f⟩:=r;exact ⟨A,c,B,d,h1,i,e,b.gw u,f.gw u⟩
theorem RQ.gw {h a:Hp}{v:Value}{q:Rat}(r:RQ h v q)(u:Gw h a):RQ a v q:=RP.gw r u
theorem RN.trim {h:Hp}{A:Z9}{l:List Nat}{n m a:Nat}(b:Ld l)(e:ak 4294967296 l=n)(hm:l.length=m)(c:m<=a)(s:SlO 1 fH 0 h A l):RN h (.slice A (tl l m) a) n:=by
 subst hm;have e1:=rp b e;have:=iO l l.length;refine ⟨A,a,by rw[e1],by omega,?_⟩;rw[vu b e];exact s.take _
theorem qp {h:Hp}{p b:Bool}{n a:Nat}{A:Z9}(hb:b=(p && decide (0<n)))(d:(lim n).length<=a)(c:SlO 1 fH 0 h A (lim n)):RI h (.agg #[.bool b,.slice A (lim n).length a]) (cF p n):=by
 subst hb;refine ⟨A,a,?_,?_,?_⟩
 ·rw[jp,eD]
 ·rw[eD];exact d
 ·rw[eD];exact c
theorem xZ {l:List Nat}{m:Nat}(h:0<m)(h0:l.getD (m-1) 0=0):tl l m=tl l (m-1):=by
 obtain ⟨k,rfl⟩:∃ k,m=k+1:=⟨m-1,by omega⟩;rw[kv,if_pos (by simpa using h0)];rfl
theorem EZ {r x:Nat}(a:x<4294967296):r*4294967296 ||| x=r*4294967296+x:=by
 have:=Az (i:=32) (b:=x) oM r;rw[yT];exact this.symm
theorem tF {r x d:Nat}(a:0<d)(hr:r<d)(b:x<4294967296)(c:d<4294967296) :
  (r*4294967296+x)/d%4294967296=(r*4294967296+x)/d/\r*4294967296+x=d*((r*4294967296+x)/d)+(r*4294967296+x)%d/\(r*4294967296+x)%d<d:=by
 refine ⟨yr ?_,(Af _ _).symm,ys _ a⟩;rw[A7 a];have h1:(r+1)*4294967296<=d*4294967296:=ym _ hr;rw[yT]
 omega
theorem uZ {b:Nat}{l z:List Nat}{m d r a q X:Nat}(hm:0<m)(h:m-1<z.length)(h0:z.getD (m-1) 0=0)(inv:X=d*ak b z+(b^m*r+ak b (l.take m)))(e:r*b+l.getD (m-1) 0=d*q+a) :
  X=d*ak b (z.set (m-1) q)+(b^(m-1)*a+ak b (l.take (m-1))):=by
 obtain ⟨k,rfl⟩:∃ k,m=k+1:=⟨m-1,by omega⟩;rw[A8] at *
 have h1:=cV b q h;rw[h0,y2,ya] at h1
 have e2:=congrArg (b^k * ·) e
 simp only[yV] at e2
 rw[inv,h1,a7,yS,yV];have f:b^k*(r*b)=b^k*b*r:=by rw[yT r b,yW]
 have c:b^k*(d*q)=d*(b^k*q):=by ac_rfl
 rw[f,c] at e2
 omega
section bld
variable {P:Program}{n:Nat}{N R:Po}{X:Nat->Po}{ops:Array Oper}{k:Nat}{Γ:ck}{w0:World}{h0:Hp}{B:List Bx}{Rs:List Rw}{F:List (Hp->Prop)}{wB:World}{hB:Hp}
theorem SS.liftJ (s:SS w0 h0 wB hB B Rs F){w:World}(x:Ext wB w):∃ a,SS w0 h0 w a B Rs F/\∀ b,wB.heap.size<=b->b<w.heap.size->a[b]?=some bj:=by
 have c:=x.size;have d:=s.g.size;refine ⟨hB++o8 (w.heap.size-wB.heap.size) bj,s.step ⟨x,⟨by simp,fun b hb=>po hb⟩,⟨by simp;omega,fun b=>?_⟩⟩,fun b h1 f=>?_⟩
 ·rcases eb b hB.size with hb|hb
  ·rw[po hb]
   have e:=Below.block x b oM
   rcases s.g.blk b with h1|h1
   ·exact .inl (h1.trans e.symm)
   ·exact .inr h1
  ·rw[yv hb,yw]
   by_cases hl:b<w.heap.size
   ·right;rw[if_pos oM]
   ·left;rw[if_neg oM,ek oM]
 ·rw[yv oM,yw,if_pos oM]
theorem Jh (t:Nat)(ty:TypeId)(vs:List Value){w:World}{h:Hp}(s:SS w0 h0 w h B Rs F)(H:∀ w',Ext w w'->w.heap.size<=w'.heap.size->w'.heap[w.heap.size]?=some (.cells vs.toArray ty (0,0))->LG P n N R X ops (k+1) ((t,.pointer (some ⟨w.heap.size,0,none⟩))::Γ) w')(a:cL ops Γ k t n=true:=by kernel_rfl)
  (hr:(execOp (ev Γ) (ao ops k)).run P w=.ok (.value (.pointer (some ⟨w.heap.size,0,none⟩))) (w.alloc (.cells vs.toArray ty (0,0))):=by kernel_rfl):LG P n N R X ops k Γ w :=
 LG.val t _ (w.alloc (.cells vs.toArray ty (0,0))) (bR a).1 (bR a).2 hr (H _ ((Ext.refl _).alloc _) (by rw[heap_alloc];simp) (by rw[heap_alloc];simp))
theorem I4 (t:Nat){f:FuncId}{args:Array Value}{V:Value}{Q:World->Prop}{w:World}(s:SS w0 h0 wB hB B Rs F)(x:Ext wB w)(c:Calls P f args w fun e w'=>e=.returned V/\(Q w'/\Below wB.heap.size w w'))(H:∀ w' a,SS w0 h0 w' a B Rs F->Ext wB w'->Q w'->LG P n N R X ops (k+1) ((t,V)::Γ) w')(h:cL ops Γ k t n=true:=by kernel_rfl)
  (hr:(execOp (ev Γ) (ao ops k)).run P w=.ok (.enter f args) w:=by kernel_rfl):LG P n N R X ops k Γ w :=
 LG.call t f args (bR h).1 (bR h).2 hr (c.mono fun e w' ⟨i,q,b⟩=>by
  have d:Ext wB w':=Below.trans x b;obtain ⟨a,j,_⟩:=s.liftJ d;exact ⟨V,i,H w' a j d q⟩)
def Bc (a b:Nat):List Nat:=(List.range b).filter (fun c=>decide (a<=c))
theorem kT {a b c:Nat}:c∈Bc a b↔a<=c/\c<b:=by
 unfold Bc;rw[List.mem_filter,hP];simp;omega
theorem A.takeK {M:Ms}{Q:Exit->Act->World->Prop}{k0:Nat}{L:Array Bool}{a:Act}{w:World}{i:Nat}{o:Oper}{v:Value}{S:World->Prop}
  (hi:ops[i]?=some o)(hk:i<k0)(d:Region.noSelect ops=true)(hf:Region.free .any ops L i=true)(hr:i∈Region.ready .any ops L)(C:∀ c a w,¬Q (.panic c) a w)
  (u:∀ w w',S w->Mo M.l w w'->S w')(z:S w)(x:YieldsIf P ops S o v a)
  (b:(∀ w,S w)\/(∀ w w',S w->Tl M w w'->S w')\/∀ j f,ops[j]?=some f->k0<=j->j≠i->∃ e∈f.after,Region.binds .any e=true/\e.on=i)
  (H:A M P ops Q k0 (L.setIfInBounds i true) (a.put o.dst v) w):A M P ops Q k0 L a w:=by
 unfold A at *
 rw[e8 hr]
 exact ml hi (Region.noSelect_spec d) (fun c a w y=>absurd y (C _ _ _)) u _ _ _ _
  (fun j f B p h=>Region.free_spec hi hf j f B p h) b hr x z H hk
variable {M:Ms}{k0:Nat}{L:Array Bool}{w:World}
theorem aV (i t:Nat)(v:Value)(H:AG M P n N R X ops k0 (L.setIfInBounds i true) ((t,v)::Γ) w)(h:cE n ops k0 [] L Γ i t=true:=by kernel_rfl)(hv:∀ w,(execOp (ev Γ) (ao ops i)).run P w=.ok (.value v) w:=by intro _;kernel_rfl):AG M P n N R X ops k0 L Γ w:=by
 obtain ⟨b,f⟩:=jR h;rw[g7] at b
 have c:=dB b.1;intro a d;have e1:=d.exec (Region.noSelect_spec c.sel i _ · · c.get) b.2;refine A.takeK (v:=v) (S:=fun _=>True) c.get c.lt c.sel c.free c.ready (fun _ _ _ e=>e) (fun _ _ _ _=>trivial) trivial (.inl ⟨d.want f,fun w _=>by rw[e1];exact hv w⟩) (.inl fun _=>trivial) ?_;rw[c.dst];exact H _ (d.put c.tn v)
theorem aL (i t:Nat)(v:Value)(hr:∀ w',Mo M.l w w'->(execOp (ev Γ) (ao ops i)).run P w'=.ok (.value v) w')(H:AG M P n N R X ops k0 (L.setIfInBounds i true) ((t,v)::Γ) w)(o:BY n ops k0 [] L Γ i t=true:=by kernel_rfl):AG M P n N R X ops k0 L Γ w:=by
 obtain ⟨b,u⟩:=je o;rw[g7,g7] at b
 obtain ⟨⟨e,f⟩,h⟩:=b;have c:=dB e;intro a d;have e1:=d.exec (Region.noSelect_spec c.sel i _ · · c.get) f;refine A.takeK (v:=v) (S:=fun w'=>Mo M.l w w') c.get c.lt c.sel c.free c.ready (fun _ _ _ j=>j) (fun _ _ h1 p=>h1.trans p) (Mo.refl _ _) (.inl ⟨d.want u,fun w' x=>by rw[e1];exact hr w' x⟩) (.inr (.inr (jH h))) ?_;rw[c.dst];exact H _ (d.put c.tn v)
theorem aH (i t:Nat)(v:Value){h:Hp}{b o:Nat}{cs:List Value}(s:SS w0 h0 w h B Rs F)(a:Seg h b o cs)(H:AG M P n N R X ops k0 (L.setIfInBounds i true) ((t,v)::Γ) w)(hM:∀ b∈M.l,h[b]?=some bj)(d:BY n ops k0 [] L Γ i t=true:=by kernel_rfl)(e:bU P (execOp (ev Γ) (ao ops i)) cs=some (.value v,mC b o cs.length):=by kernel_rfl):AG M P n N R X ops k0 L Γ w :=
 aL i t v (fun _ c=>Seg.runM a s.g hM c e) H d
def FQ (ops:Array Oper)(k0:Nat)(L:Array Bool)(i:Nat):Bool:=decide (i<ops.size) && decide (i<k0) && Region.noSelect ops && (Region.ready .any ops L == [i])
theorem aC (i t:Nat){f:FuncId}{args:Array Value}(c:Calls P f args w fun e w'=>∃ v,e=.returned v/\Mo M.l w w'/\AG M P n N R X ops k0 (L.setIfInBounds i true) ((t,v)::Γ) w')(h:(FQ ops k0 L i && bp Γ (ao ops i) && ((ao ops i).dst == some t) && decide (t<n))=true:=by kernel_rfl)(x:bA ops Γ (ao ops i)=some true:=by kernel_rfl)
  (hr:(execOp (ev Γ) (ao ops i)).run P w=.ok (.enter f args) w:=by kernel_rfl):AG M P n N R X ops k0 L Γ w:=by
 simp only[g7,decide_eq_true_eq,beq_iff_eq] at h
 obtain ⟨⟨⟨h1,u⟩,y⟩,z⟩:=h
 unfold FQ at h1
 simp only[g7,decide_eq_true_eq,beq_iff_eq] at h1
 have p:=bC (ops:=ops) h1.1.1.1;intro a b;refine A.intro (fun h0=>by rw[h1.2] at h0;cases h0) (fun j o=>?_);rw[h1.2,ov] at o
 subst o;refine OpR.wpOp (R:=fun v w'=>Mo M.l w w'/\AG M P n N R X ops k0 (L.setIfInBounds j true) ((t,v)::Γ) w') p ⟨b.want x,.inr (.inr ⟨f,args,?_,c⟩)⟩ (fun v w' d=>⟨Rl.mo h1.1.1.2 d.1,?_⟩)
 ·rw[b.exec (Region.noSelect_spec h1.1.2 j _ · · p) u];exact hr
 ·rw[y];exact d.2 _ (b.put z v)
theorem mq {id:Nat}(M:Ms)(k0:Nat)(hm:P.follows .mixedOrders=true)(H:AG M P n N R X ops k0 (o8 ops.size false) Γ w.drew):CG P n N R X (.region id ops true) Γ w:=by
 intro a b;refine wp_region_any hm ?_;have h1:=H a b
 unfold A at h1
 rw[iI] at h1
 exact l6 _ _ _ _ _ _ _ _ _ h1
theorem SS.drew {h:Hp}(s:SS w0 h0 w h B Rs F):SS w0 h0 w.drew h B Rs F:=s.step (Up.drew (Up.refl s.g))
theorem wZ {K:Nat}{w w':World}(x:Below K w w'):Mo (Bc K w.heap.size) w w':=⟨x.os,x.tape,x.output,x.size,fun c a b=>by
 rcases eb c K with h|h
 ·exact Below.block x c h
 ·exact absurd (kT.2 ⟨h,a⟩) b⟩
theorem rq {K:Nat}{T e:TypeId}{b:Nat}{bs:List Value}{w w1:World}(h:Lib.IsBuilder T e K b bs w)(x:Ext w w1):Lib.IsBuilder T e K b bs w1:=by
 have key:∀ p,Lib.BuilderAt T e K b p bs w->Lib.BuilderAt T e K b p bs w1:=by
  rintro p ⟨h1,v,a,f,j⟩
  have d:b<w.heap.size:=by
   rcases eb b w.heap.size with h'|h'
   ·exact h'
   ·rw[ek h'] at a;cases a
  exact ⟨h1,v,(Below.block x b d).trans a,ef f (fun c i=>Below.block x c (iX f i)),j⟩
 rcases h with h|h
 ·exact .inl (key _ h)
 ·exact .inr (key _ h)
theorem aX (i t:Nat)(A:Z9)(len a sz:Nat)(x:Int)(j:Nat)(c:A=some ⟨aB A,aO A,none⟩)(H:AG M P n N R X ops k0 (L.setIfInBounds i true) ((t,.pointer (some ⟨aB A,aO A+j*sz,none⟩))::Γ) w)(d:cE n ops k0 [] L Γ i t=true:=by kernel_rfl)(e:CF P (ev Γ) (ao ops i)=some (.slice A len a,.int .i64 x,sz):=by kernel_rfl)(hk:x=j:=by omega)(b:j<len:=by omega):AG M P n N R X ops k0 L Γ w :=
 aV i t _ H d (fun w=>gt e c hk b w)
theorem q9 {P:List UInt8}{x m:Nat}(hm:m<8):Lib.byteCells (P++(b8 x).take m)++[.int .u8 ((x/2^(8*m)%256:Nat):Int)]=Lib.byteCells (P++(b8 x).take (m+1)):=by
 have e:(b8 x).take (m+1)=(b8 x).take m++[UInt8.ofNat (x/256^m)]:=by
  rw[List.take_add_one]
  congr 1
  unfold b8
  rw[As,Aw hm];rfl
 rw[e,<-List.append_assoc]
 unfold Lib.byteCells
 rw[List.map_append (l₁:=P++_)]
 congr 1
 show _=[Value.int .u8 ((x/256^m%256:Nat):Int)]
 rw[zy]
theorem uu {l:List Nat}{k:Nat}(hk:k<l.length):((l.take k).flatMap b8)++(b8 (l.getD k 0)).take 8=(l.take (k+1)).flatMap b8:=by
 have e:(b8 (l.getD k 0)).take 8=b8 (l.getD k 0):=z8 (by rw[jU];omega);rw[gy hk,List.flatMap_append,e];simp
theorem t8 {l:List Nat}{k m x:Nat}(hk:k<=l.length)(hm:m<=8)(a:l.length<=1099511627776):(Lib.byteCells ((l.take k).flatMap b8++(b8 x).take m)).length+1<=140737488355328:=by
 rw[Lib.byteCells_length,yh,mR,yY,yY,jU];omega
theorem Cn {l:List Nat}(h:tl l l.length=0):Value.agg #[.int .u64 0,.string ⟨#[]⟩]=nv (aF l):=by
 have e:=jA 18446744073709551616 l l.length (ep _);rw[h,yd] at e
 have:aF l=0:=e.symm;rw[this];rfl
theorem Fc {l:List Nat}(a:Wd l)(h:tl l l.length=1):Value.agg #[.int .u64 (l.getD 0 0:Nat),.string ⟨#[]⟩]=nv (aF l):=by
 have e:=jA 18446744073709551616 l l.length (ep _);have b:=iO l l.length;rw[h,yd,a7] at e
 have e2:aF l=l.getD 0 0:=by show ak _ l=_;rw[<-e];simp[ak]
 rw[e2];have:=a.get 0
 unfold nv
 rw[lM this,li this]
theorem AO {l:List Nat}(a:Wd l)(h:0<tl l l.length):Value.agg #[.int .u64 (l.getD 0 0:Nat),.string ⟨(((l.drop 1).take (tl l l.length-1)).flatMap b8).toArray⟩]=nv (aF l):=by
 have e:=nZ a;have e1:((l.drop 1).take (tl l l.length-1))=(wds (aF l)).drop 1:=by rw[e,List.drop_take]
 unfold nv
 rw[F2 (n:=aF l) (by rw[e1]),q7,e,i7 h]
end bld
section
variable {P:Program}{Γ:ck}{o:Oper}
theorem dK {f:FuncId}{args:Array Value}{v:Value}{w:World}(h:(execOp (ev Γ) o).run P w=(callFunc f args).run P w)(k:(callFunc f args).run P w=.ok (.value v) w):(execOp (ev Γ) o).run P w=.ok (.value v) w:=h.trans k
end
theorem d4 (x y c:Nat)(a:x<18446744073709551616)(b:y<18446744073709551616)(d:c<=1):∃ s c':Nat,s+18446744073709551616*c'=x+y+c/\s<18446744073709551616/\c'<=1/\∀ w,(callFunc 153 #[.int .u64 x,.int .u64 y,.int .u64 c]).run Tryz.prog w=.ok (.value (.tuple #[.int .u64 s,.int .u64 c'])) w:=by
 refine ⟨(x+y+c)%18446744073709551616,(x+y+c)/18446744073709551616,by omega,by omega,by omega,fun w=>?_⟩;rw[run_callFunc_extern Tryz.func153 kR kR kR (e:=add64Entry) kR,run_add64 x y c oM oM oM oM]
 simp only[Result.andThen]
 congr 5<;>omega
theorem iU (x y b:Nat)(c:x<18446744073709551616)(d:y<18446744073709551616)(hb:b<=1):∃ s a:Nat,s+y+b=x+18446744073709551616*a/\s<18446744073709551616/\a<=1/\∀ w,(callFunc 179 #[.int .u64 x,.int .u64 y,.int .u64 b]).run Tryz.prog w=.ok (.value (.tuple #[.int .u64 s,.int .u64 a])) w:=by
 refine ⟨(x+18446744073709551616-y-b)%18446744073709551616,if x<y+b then 1 else 0,by split<;>omega,by omega,by split<;>omega,fun w=>?_⟩;rw[run_callFunc_extern Tryz.func179 kR kR kR (e:=sub64Entry) kR,run_sub64 x y b hb]
 rfl
theorem Ret.of_same {f:FuncId}{args:Array Value}{V:Value}{P:Program}{w:World}{h:Hp}(g:G w h)(c:Calls P f args w fun e w'=>e=.returned V/\w'=w):Calls P f args w (Ret w h fun v _=>v=V) :=
 c.mono fun e w' ⟨b,a⟩=>by subst a;exact ⟨V,h,b,Up.refl g,rfl⟩
theorem ny (x y:Nat)(a:x<18446744073709551616)(b:y<18446744073709551616)(w:World)(h:Hp)(g:G w h):CR 132 #[uV x,uV y] w h (fun v _=>∃ hi lo:Nat,v=.tuple #[uV hi,uV lo]/\lo+18446744073709551616*hi=x*y/\lo<18446744073709551616/\hi<18446744073709551616/\hi<=18446744073709551614):=by
 refine (Ret.of_same g (Tryz.bits_Mul64 x y a b w)).mono ?_;rintro e w' ⟨v,c,d,u,rfl⟩;have h1:x*y<=18446744073709551615*18446744073709551615:=D2 oM oM;exact ⟨_,c,d,u,x*y/18446744073709551616,x*y%18446744073709551616,rfl,by omega,by omega,by omega,by omega⟩
theorem m7 {n:Nat}(h:n<18446744073709551616):Lib.bitLen n=nb n:=by
 rcases yA n with h0|h0
 ·subst h0;rfl
 ·obtain ⟨b,d,c⟩:=cC h0
  have a:nb n<=64:=kK (k:=64) h;have:=Lib.bitLen_shift (nb n-1) n b h
  have h1:n/2^(nb n-1)=1:=by
   have:n<2^(nb n-1)*2:=by rw[<-yS];rwa [show (nb n-1).succ=nb n by omega]
   refine A9 oM oM
  rw[h1] at this
  have e1:Lib.bitLen 1=1:=by decide
  omega
theorem xp (x:Nat)(a:x<18446744073709551616)(w:World)(h:Hp)(g:G w h):CV 92 #[uV x] w h (nV (nb x)):=by
 have:=Ret.of_same g (Tryz.bits_Len64 x w oM oM);rw[yt,m7 a] at this
 exact this
theorem Do (x:Nat)(a:x<18446744073709551616)(w:World)(h:Hp)(g:G w h):CV 181 #[uV x] w h (nV (64-nb x)):=by
 have:=Ret.of_same g (Tryz.bits_LeadingZeros64 x w oM oM);have b:nb x<=64:=kK (k:=64) a;rw[yt,m7 a,show (64:Int)-(nb x:Nat)=((64-nb x:Nat):Int) by omega] at this
 exact this
theorem ju {a b:Nat}(ha:a<18446744073709551616)(hb:b<18446744073709551616):a*b<=340282366920938463426481119284349108225:=by
 have h1:a<=18446744073709551615:=by omega
 have c:b<=18446744073709551615:=by omega
 exact D2 h1 c
theorem xG (A:Z9)(c:Nat)(l:List Nat)(m:Nat)(hm:l.length=m)(D:l.length<=1099511627776)(C:l.length<=c)(w:World)(h:Hp)(g:G w h)(p:S3 A l h):CV 79 #[.slice A m c] w h (.slice A (tl l m) c):=by
 have a:=((sS g).aS p);refine go Tryz.func79 [(0,qS A m c)] rfl (aa a ac (aR (lL a [.c,.v (nV m),.c] (af (kZ ?_)))));refine cj _ (CG.loop (fun j Γ u=>∃ (n:Nat)(h_:Hp),j=n/\Γ=[(0,qS A m c),(2,sZ),(3,nV n)]/\SS w h u h_ [] [] [S3 A l]/\n<=m/\tl l m=tl l n) _ ⟨m,h,rfl,rfl,a.to _ _,nR _,rfl⟩ ?_);rintro _ _ w1 ⟨n,y,z,rfl,a,B,o⟩;refine cQ (aa a ac ?_);cases d:(decide ((0:Int)<(n:Int)))
 .
  have e:=oF d;refine lB 7 d (lL a ac (lG 9 ?_));refine lG 10 (lG 11 (lG 12 (lG 13 (lG 14 (lL a [.v qF] (ah (CG.exit ?_)))))))
  show CG _ _ _ _ _ _ _ _
  refine aa a aK (lT 20 A m c 1 (n:Nat) n ?_);exact lL a ac (ae a [] (qS A n c) (by rw[o,mY oM]))
 have e:=oT d;refine lB 7 d (lL a fE (bI 11 ((n:Nat)-1) (n-1) ?_));refine lX 12 A m c 1 (n-1:Nat) (n-1) ((a.f.1).ok oM) (lH 13 (mW (l.getD (n-1) 0)) a ((a.f.1).el (n-1) oM) ?_);cases b:(((l.getD (n-1) 0:Nat):Int) == (0:Int))
 .
  have i:=ag b;refine lB 14 b (lL a [.v qF] (ah (CG.exit ?_)))
  show CG _ _ _ _ _ _ _ _
  refine aa a aK (lT 20 A m c 1 (n:Nat) n ?_);exact lL a ac (ae a [] (qS A n c) (by rw[o,mY oM]))
 have i:=eq_of_beq b;refine lB 14 b (lL a [.v qT] (au (cK (kZ (kQ (lL a ac (bI 17 ((n:Nat)-1) (n-1) ?_)))))));refine lL a ac (lD ?_);intro F x;refine ⟨_,_,?_,⟨n-1,y,rfl,rfl,a.to _ _,oM,(by rw[o];exact xZ oM oM)⟩,x.to _ kR⟩
 omega
theorem tT {h:Hp}{A:Z9}{n a:Nat}(c:n<18446744073709551616)(b:2<=a)(s:SlO 1 fH 0 h A [n%4294967296,n/4294967296]):RN h (.slice A (tl [n%4294967296,n/4294967296] 2) a) n :=
 RN.trim (Dg.cons oM (Dg.one oM)) (by simp only[ak];omega) rfl b s
theorem nI (n:Nat)(c:n<18446744073709551616)(w:World)(h:Hp)(g:G w h):CR 47 #[mV n] w h (fun v h=>RN h v n):=by
 have a:=sS g;refine go Tryz.func47 [(0,mV n)] rfl (aa a ac (aR (lL a ac (lV 4 (mW (n%4294967296)) ?_ (hr:=rT ((n:Int)) kR (v6 _))))));refine lL a ac (lV 6 (mV (n/4294967296)) ?_ (hr:=be (n:=JH (n:Int) 4294967296) kR (kF _ 4294967296)));refine lV 7 (mW (n/4294967296)) ?_ (hr:=rT (((n/4294967296:Nat):Int)) kR (qB oM oM));refine lR 8 150 2 ([mW (n%4294967296),mW (n/4294967296)]) a (fun b w2 i a=>?_);replace a:=a.aS (SlO.of_flat (sz:=1) (f:=fH) (d:=0) (l:=[(n%4294967296),(n/4294967296)]) (fun _=>rfl) a.f.1);exact am 9 a (xG (sB b) 2 ([(n%4294967296),(n/4294967296)]) 2 (by first|rfl|omega|assumption) (by simp) (by simp) _ _ a.g a.f.1) (fun e j a=>lL a ac (ae a [] (qS (sB b) (tl ([(n%4294967296),(n/4294967296)]) 2) 2) (tT c oM a.f.1)))
theorem HU (n:Nat)(A:Z9)(a:Nat)(e:(lim n).length<=a)(w:World)(h:Hp)(g:G w h)(d:S3 A (lim n) h):CR 78 #[.bool false,.slice A ((lim n).length) a] w h (fun v h=>RI h v (cF false n)):=by
 have b:=((sS g).aS d);refine go Tryz.func78 [(0,qF),(1,qS A ((lim n).length) a)] rfl (aD (lA 4 37 ([qF,sZ]) b (fun i w2 j b=>aR (lL b aK (lG 7 ?_)))));exact lG 8 (lG 9 (lL b [.v qF,.c,.v (.agg #[qF,qS A ((lim n).length) a])] (lP 0 0 ([qF,qS A ((lim n).length) a]) b (fun w4 b=>ae b [(0,0,2)] (.agg #[qF,qS A ((lim n).length) a]) (qp rfl e b.f.1)))))
theorem HQ (n:Nat)(A:Z9)(a:Nat)(i:(lim n).length<=a)(w:World)(h:Hp)(g:G w h)(j:S3 A (lim n) h):CR 78 #[.bool true,.slice A ((lim n).length) a] w h (fun v h=>RI h v (cF true n)):=by
 have b:=((sS g).aS j);have o:=@dN n;refine go Tryz.func78 [(0,qT),(1,qS A ((lim n).length) a)] rfl (aD (lA 4 37 ([qF,sZ]) b (fun p w2 x b=>aR (lL b [.c,.c,.c,.v (nV ((lim n).length))] ?_))));cases d:(decide ((0:Int)<(((lim n).length:Nat):Int)))
 .
  have e:=oF d;exact lB 9 d (lL b [.v qF,.c,.v (.agg #[qF,qS A ((lim n).length) a])] (lP 0 0 ([qF,qS A ((lim n).length) a]) b (fun u b=>ae b [(0,0,2)] (.agg #[qF,qS A ((lim n).length) a]) (qp (by simp only[JI];first|(symm;exact decide_eq_true oM)|(symm;exact decide_eq_false oM)) i b.f.1))))
 have e:=oT d;exact lB 9 d (lL b [.v qT,.c,.v (.agg #[qT,qS A ((lim n).length) a])] (lP 0 0 ([qT,qS A ((lim n).length) a]) b (fun l b=>ae b [(0,0,2)] (.agg #[qT,qS A ((lim n).length) a]) (qp (by simp only[JI];first|(symm;exact decide_eq_true oM)|(symm;exact decide_eq_false oM)) i b.f.1))))
theorem rI (p:Bool)(n:Nat)(A:Z9)(a:Nat)(c:(lim n).length<=a)(w:World)(h:Hp)(g:G w h)(b:S3 A (lim n) h):CR 78 #[.bool p,.slice A (lim n).length a] w h (fun v h=>RI h v (cF p n)):=by
 cases p
 ·exact HU n A a c w h g b
 ·exact HQ n A a c w h g b
theorem qt (z:Int)(h0:z<0)(h1 : -9223372036854775808<=z)(w:World)(h:Hp)(g:G w h):CR 46 #[iV z] w h (fun v h=>RI h v (cF true (ab z))):=by
 have a:=sS g;have hi:ab z<=9223372036854775808:=by unfold ab;omega
 refine go Tryz.func46 [(0,iV z)] rfl (aD (lA 2 37 ([qF,sZ]) a (fun y w2 C a=>af (aa a ac ?_))));have ⟨c,i⟩:=dT (p:=(z:Int)<(0:Int)) oM;refine lB 4 c (au (aa a ac (lV 6 (mV (18446744073709551616-ab z)) ?_ (hr:=rU (z) kR (by rw[IntKind.wrap_u64];unfold ab;omega)))));refine lV 7 (mV (ab z)) ?_ (hr:=rU ((0-((18446744073709551616-ab z:Nat):Int))) kR (by rw[IntKind.wrap_u64];omega));refine lC 8 a (nI (ab z) oM _ _ a.g) ?_;rintro _ B _ a ⟨u,l,rfl,b,d⟩;replace a:=a.aS d;refine lC 9 a (rI true (ab z) u l b _ _ a.g a.f.1) ?_;rintro _ _ _ a ⟨e,j,rfl,x,o⟩;replace a:=a.aS o;exact lP 0 0 ([.bool (aw (cF true (ab z))),qS e ((lim (ab (cF true (ab z)))).length) j]) a (fun _ a=>ae a [(0,0,2)] (.agg #[.bool (aw (cF true (ab z))),qS e ((lim (ab (cF true (ab z)))).length) j]) (⟨_,_,rfl,x,a.f.1⟩))
theorem rD (z:Nat)(h1:z<9223372036854775808)(w:World)(h:Hp)(g:G w h):CR 46 #[nV z] w h (fun v h=>RI h v (cF false z)):=by
 have a:=sS g;refine go Tryz.func46 [(0,nV z)] rfl (aD (lA 2 37 ([qF,sZ]) a (fun y w2 C a=>af (aa a ac ?_))));have ⟨c,i⟩:=dF (p:=(z:Int)<(0:Int)) oM;refine lB 4 c (ah (cK (aa a ac (lV 11 (mV z) ?_ (hr:=rU ((z:Int)) kR (bM oM oM))))));refine lC 12 a (nI z oM _ _ a.g) ?_;rintro _ B _ a ⟨u,l,rfl,b,d⟩;replace a:=a.aS d;refine lC 13 a (rI false z u l b _ _ a.g a.f.1) ?_;rintro _ _ _ a ⟨e,j,rfl,x,o⟩;replace a:=a.aS o;exact lP 0 0 ([.bool (aw (cF false z)),qS e ((lim (ab (cF false z))).length) j]) a (fun _ a=>ae a [(0,0,2)] (.agg #[.bool (aw (cF false z)),qS e ((lim (ab (cF false z))).length) j]) (⟨_,_,rfl,x,a.f.1⟩))
theorem rj (z:Int)(h0 : -9223372036854775808<=z)(h1:z<9223372036854775808)(w:World)(h:Hp)(g:G w h):CR 46 #[iV z] w h (fun v h=>RI h v z):=by
 rcases Int.lt_or_le z 0 with hz|hz
 ·have e:cF true (ab z)=z:=by unfold cF ab;simp;omega
  have:=qt z hz h0 w h g;rw[e] at this
  exact this
 ·obtain ⟨n,rfl⟩:=Int.eq_ofNat_of_zero_le hz
  exact rD n oM w h g
theorem kH (a:Nat)(A:Z9)(c:Nat)(U:(lim a).length<=c)(b:Nat)(D:Z9)(d:Nat)(Y:(lim b).length<=d)(K:(lim a).length<=4000000000)(O:(lim b).length<=4000000000)(w:World)(h:Hp)(g:G w h)(F:S3 A (lim a) h)(M:S3 D (lim b) h):CV 91 #[.slice A ((lim a).length) c,.slice D ((lim b).length) d] w h (iV (bV a b)):=by
 have e:=(((sS g).aS F).aS M);refine go Tryz.func91 [(0,qS A ((lim a).length) c),(1,qS D ((lim b).length) d)] rfl (aa e ac (af (aa e [.c,.v (nV ((lim a).length)),.c,.v (nV ((lim b).length))] ?_)));cases o:((((lim a).length:Nat):Int) != (((lim b).length:Nat):Int))
 .
  have y:=aY o;refine lB 10 o (ah (cK (cQ (aa e [.c,.v (nV ((lim a).length))] (lV 18 (iV ((((lim a).length:Nat):Int)-1)) ?_ (hr:=rS ((((lim a).length:Nat)-1)) kR ((gj oM oM).trans oM)))))));refine lL e ac (bh ?_);refine cj _ (CG.loop (fun C Γ H=>∃ (m:Nat)(h_:Hp),C=m/\Γ=[(0,qS A ((lim a).length) c),(1,qS D ((lim b).length) d),(5,iV ((m:Int)-1))]/\SS w h H h_ [] [] [S3 D (lim b),S3 A (lim a)]/\m<=(lim a).length/\(lim a).length=(lim b).length/\(lim a).drop m=(lim b).drop m) _ ⟨(lim a).length,h,rfl,rfl,e.to _ _,nR _,oM,(by rw[Jz oM,Jz oM])⟩ ?_);rintro _ _ w2 ⟨m,V,L,rfl,e,hm,p,i⟩;refine cQ (aa e ac ?_);cases j:(decide ((0:Int)<=((m:Int)-1:Int)))
  .
   have u:=oF j;refine lB 20 j (ah (CG.exit ?_))
   show CG _ _ _ _ _ _ _ _
   exact aa e ac (ae e [] (iV 0) (by rw[io (BW (by obtain rfl:m=0:=oM;simpa using i))]))
  have u:=oT j;refine lB 20 j (au (cK (cQ (kZ (cQ (cR 9 [] mixed e aq ?_))))));refine eV 0 23 (qS A ((lim a).length) c) (eV 1 24 (iV ((m:Int)-1)) (eX 2 25 A ((lim a).length) c 1 ((m:Int)-1) (m-1) ((e.f.2.1).ok oM) (eH 3 26 (mW ((lim a).getD (m-1) 0)) e ((e.f.2.1).el (m-1) oM) (eV 4 27 (qS D ((lim b).length) d) (eV 5 28 (iV ((m:Int)-1)) (eX 6 29 D ((lim b).length) d 1 ((m:Int)-1) (m-1) ((e.f.1).ok oM) (eH 7 30 (mW ((lim b).getD (m-1) 0)) e ((e.f.1).el (m-1) oM) ?_)))))));cases l:((((lim a).getD (m-1) 0:Nat):Int) != (((lim b).getD (m-1) 0:Nat):Int))
  .
   have x:=aY l;refine eB 8 31 l (bY e (fun W J e=>tN (cW (cK (kQ (lL e ac (lV 22 (iV (((m-1:Nat):Int)-1)) ?_ (hr:=rS ((((m:Int)-1)-1)) kR ((gj oM oM).trans oM)))))))));refine lL e ac (lD ?_);intro X I;refine ⟨_,_,?_,⟨m-1,J,rfl,rfl,e.to _ _,oM,p,(eN (k:=m-1) p oM (by rw[show m-1+1=m by omega];exact i) oM)⟩,I.to _ kR⟩
   omega
  have x:=a6 l;refine eB 8 31 l (bY e (fun _ _ e=>tN (cl (cQ (cQ (cR 9 [] mixed e aq ?_))))));refine eV 0 32 (qS A ((lim a).length) c) (eV 1 33 (iV ((m:Int)-1)) (eX 2 34 A ((lim a).length) c 1 ((m:Int)-1) (m-1) ((e.f.2.1).ok oM) (eH 3 35 (mW ((lim a).getD (m-1) 0)) e ((e.f.2.1).el (m-1) oM) (eV 4 36 (qS D ((lim b).length) d) (eV 5 37 (iV ((m:Int)-1)) (eX 6 38 D ((lim b).length) d 1 ((m:Int)-1) (m-1) ((e.f.1).ok oM) (eH 7 39 (mW ((lim b).getD (m-1) 0)) e ((e.f.1).el (m-1) oM) ?_)))))));cases z:(decide ((((lim a).getD (m-1) 0:Nat):Int)<(((lim b).getD (m-1) 0:Nat):Int)))
  .
   have S:=oF z;exact eB 8 40 z (bY e (fun _ _ e=>tN (cW (cK (aa e ac (ae e [] (iV 1) (by rw[eZ (by first|exact fM oM|exact gI (k:=m-1) oM oM (by rw[show m-1+1=m by omega];exact i.symm) oM)])))))))
  have S:=oT z;exact eB 8 40 z (bY e (fun _ _ e=>tN (cl (aa e ac (ae e [] (iV (-1)) (by rw[dw (by first|exact fM oM|exact gI (k:=m-1) oM oM (by rw[show m-1+1=m by omega];exact i) oM)]))))))
 have y:=a6 o;refine lB 10 o (au (cQ (aa e [.c,.v (nV ((lim a).length)),.c,.v (nV ((lim b).length))] ?_)));cases B:(decide ((((lim a).length:Nat):Int)<(((lim b).length:Nat):Int)))
 .
  have Q:=oF B;exact lB 15 B (ah (cK (aa e ac (ae e [] (iV 1) (by rw[eZ (by first|exact fM oM|exact gI (k:=m-1) oM oM (by rw[show m-1+1=m by omega];exact i.symm) oM)])))))
 have Q:=oT B;exact lB 15 B (au (aa e ac (ae e [] (iV (-1)) (by rw[dw (by first|exact fM oM|exact gI (k:=m-1) oM oM (by rw[show m-1+1=m by omega];exact i) oM)]))))
theorem xi {a b q r:Nat}(h:a=b*q+r)(hr:r<b):q=a/b/\r=a%b:=by
 subst h;rw[HA oM,yQ hr,Nat.mul_add_mod,yr hr];simp
theorem IU (a:Nat)(A:Z9)(c:Nat)(hc:(lim a).length<=c)(hLa:(lim a).length<=4000000000)(d:Nat)(C:0<d)(hd:d<4294967296)(w:World)(h:Hp)(g:G w h)(X:S3 A (lim a) h):CR 142 #[.slice A ((lim a).length) c,mW d] w h (fun v h1=>∃ Q,∃ r:Nat,v=.tuple #[Q,mW r]/\RN h1 Q (a/d)/\r=a%d):=by
 have e:=((sS g).aS X);refine go Tryz.func142 [(0,qS A ((lim a).length) c),(1,mW d)] rfl (aa e aK (aR (lL e [.c,.v (nV ((lim a).length))] (lK 11 150 ((lim a).length) 1 4 (uW 0) fH 0 e (fun j w2 h3 e=>?_)))));have L:(yp ((lim a).length) 0).length=((lim a).length):=by simp
 refine lL e ac (aR (lL e ac (af (aa e [.c,.v (nV ((lim a).length))] (lV 14 (iV ((((lim a).length:Nat):Int)-1)) ?_ (hr:=rS ((((lim a).length:Nat)-1)) kR ((gj oM oM).trans oM)))))));refine lL e ac (bh ?_);refine cj _ (CG.loop (fun K Γ Y=>∃ (m:Nat)(z:List Nat)(r:Nat)(h_:Hp),K=m/\Γ=[(0,qS A ((lim a).length) c),(1,mW d),(4,sZ),(5,uW 0),(6,qS (sB j) ((lim a).length) ((lim a).length)),(8,iV ((m:Int)-1)),(7,mV r)]/\SS w h Y h_ [⟨j,150,(z).flatMap fH⟩] [] [S3 A (lim a)]/\m<=(lim a).length/\z.length=(lim a).length/\Ld z/\a=d*ak 4294967296 z+(4294967296^m*r+ak 4294967296 ((lim a).take m))/\r<d/\(∀ k,k<m->z.getD k 0=0)) _ ⟨(lim a).length,yp ((lim a).length) 0,0,h3,rfl,rfl,e.to _ _,nR _,L,Ld.rep _,(by rw[ff,yd,pU];simp),C,fun k _=>gc⟩ ?_);rintro _ _ w5 ⟨m,z,r,h6,hm7,rfl,e,hm,p,U,inv,hr,hz⟩;have H:=(Ld.lim a).get (m-1);refine cQ (aa e ac ?_);cases i:(decide ((0:Int)<=((m:Int)-1:Int)))
 .
  have D:=oF i;refine lB 16 i (ah (CG.exit ?_))
  show CG _ _ _ _ _ _ _ _
  refine aa e ac ?_;have O:m=0:=by omega
  rw[O,JJ,Ab,JK] at inv
  have I:a=d*ak 4294967296 z+r:=by simpa [ak] using inv
  obtain ⟨J,M⟩:=xi I hr;have Z:ak 4294967296 z=a/d:=J;obtain ⟨h9,e,F,S,V⟩:=e.pub 0;replace e:=(e.to [] []).aS (SlO.of_flat (sz:=1) (f:=fH) (d:=0) (b:=j) (o:=0) (l:=z) (fun _=>rfl) F);refine am 40 e (xG (sB j) ((lim a).length) z ((lim a).length) p oM oM _ _ e.g e.f.1) (fun _ _ e=>lL e ac (lV 42 (mW r) ?_ (hr:=be (be (n:=IntKind.wrap .u32 (r:Int)) kR (v6 _)) oM)));exact lL e aK (ae e [] (.tuple #[qS (sB j) (tl z ((lim a).length)) ((lim a).length),mW r]) (⟨_,r,rfl,RN.trim U Z p (nR _) e.f.1,M⟩))
 have D:=oT i;refine lB 16 i (au (cK (cQ (kZ (aa e ac (lV 20 (mV (r*4294967296%18446744073709551616)) ?_ (hr:=rU (((r:Int)*4294967296)) kR (mn r 4294967296))))))));refine lL e aK (lX 23 A ((lim a).length) c 1 ((m:Int)-1) (m-1) ((e.f.1).ok oM) ?_);refine lH 24 (mW ((lim a).getD (m-1) 0)) e ((e.f.1).el (m-1) oM) (lV 25 (mV ((lim a).getD (m-1) 0)) ?_ (hr:=rU ((((lim a).getD (m-1) 0:Nat):Int)) kR (bM oM oM)));refine lV 26 (mV (r*4294967296+(lim a).getD (m-1) 0)) ?_ (hr:=be (jC (t:=23) (u:=23) (x:=.tmp 20) (y:=.tmp 25) (a:=(r*4294967296%18446744073709551616)) (b:=((lim a).getD (m-1) 0)) kR kR kR oM oM _) (by rw[yr (show r*4294967296<18446744073709551616 by omega),EZ H]));refine lL e ac (aR (lL e pR (lV 31 (mV d) ?_ (hr:=rU ((d:Int)) kR (bM oM oM)))));have B:=tF (r:=r) (x:=(lim a).getD (m-1) 0) C hr H hd;refine lV 32 (mV ((r*4294967296+(lim a).getD (m-1) 0)/d)) ?_ (hr:=be (dD (t:=23) (u:=23) (x:=.tmp 29) (y:=.tmp 31) (k:=.u64) (a:=((r*4294967296+(lim a).getD (m-1) 0:Nat):Int)) (b:=(d:Int)) kR kR kR oM _) (kO (r*4294967296+(lim a).getD (m-1) 0) d oM));refine lV 33 (mW (((r*4294967296+(lim a).getD (m-1) 0)/d:Nat)%4294967296)) ?_ (hr:=rT ((((r*4294967296+(lim a).getD (m-1) 0)/d:Nat):Int)) kR (v6 _));refine lX 34 (sB j) ((lim a).length) ((lim a).length) 1 ((m:Int)-1) (m-1) rfl (lW 0 z fH 1 (m-1) (((r*4294967296+(lim a).getD (m-1) 0)/d:Nat)%4294967296:Nat) e oM (fun _ e=>?_));have W:((z).set (m-1) (((r*4294967296+(lim a).getD (m-1) 0)/d:Nat)%4294967296:Nat)).length=((lim a).length):=by rw[Gx];exact p
 replace e:=e.to [⟨j,150,((z).set (m-1) (((r*4294967296+(lim a).getD (m-1) 0)/d:Nat)%4294967296:Nat)).flatMap fH⟩] [];refine lN (kQ (lL e aK (lV 37 (mV d) ?_ (hr:=rU ((d:Int)) kR (bM oM oM)))));refine lV 38 (mV ((r*4294967296+(lim a).getD (m-1) 0)%d)) ?_ (hr:=be (fR (t:=23) (u:=23) (x:=.tmp 35) (y:=.tmp 37) (k:=.u64) (a:=((r*4294967296+(lim a).getD (m-1) 0:Nat):Int)) (b:=(d:Int)) kR kR kR oM _) (dx (r*4294967296+(lim a).getD (m-1) 0) d));refine lL e ac (lN (kQ (lL e ac (lV 18 (iV (((m-1:Nat):Int)-1)) ?_ (hr:=rS ((((m:Int)-1)-1)) kR ((gj oM oM).trans oM))))));refine lL e ac (lD ?_);intro a_ ka;refine ⟨_,_,?_,⟨m-1,(z).set (m-1) (((r*4294967296+(lim a).getD (m-1) 0)/d:Nat)%4294967296:Nat),((r*4294967296+(lim a).getD (m-1) 0)%d:Nat),h6,rfl,rfl,e.to _ _,oM,W,(U.set _ (ys _ kD)),(by rw[B.1];exact uZ oM oM (hz _ oM) inv B.2.1),B.2.2,(fun k hk=>by rw[bG oM,if_neg oM];exact hz k oM)⟩,ka.to _ kR⟩
 omega
theorem ri {B:List Bx}:∀ (ps:List (Nat × Nat × Nat)) (q:Nat) (a:Addr),(bQ B ps)[q]?=some a->∃ p∈ps,a.block=(ax B p.1).b:=by
  intro ps
  induction ps with
  | nil=>intro q a h;simp[bQ] at h
  | cons p ps ih =>
    intro q a h
    unfold bQ at h
    rcases eb q (mC (ax B p.1).b p.2.1 p.2.2).length with hl|hl
    . rw[wk hl] at h
      exact ⟨p,by simp,by rw[eL _ _ _ _ _ h]⟩
    . rw[wu hl] at h
      obtain ⟨d,c,e⟩:=ih _ _ h;exact ⟨d,by simp[c],e⟩
section
variable {M:Ms}{P:Program}{n:Nat}{N R:Po}{X:Nat->Po}{ops:Array Oper}{k k0:Nat}{L:Array Bool}{Γ:ck}{w:World}{h:Hp}{w0:World}{h0:Hp}{B:List Bx}{Rs:List Rw}{F:List (Hp->Prop)}
theorem HB {α:Type}(j:Nat)(l:List α)(f:α->List Value)(sz e:Nat)(x:α)(s:SS w0 h0 w h B Rs F)(hk:e<l.length)(H:∀ w',Put (ax B j).b w w'->SS w0 h0 w' h (gN B j ((l.set e x).flatMap f)) Rs F->LG P n N R X ops (k+1) Γ w')(c:cS ops Γ k=true:=by kernel_rfl)
  (a:decide (j<B.length)=true:=by kernel_rfl)(hB:(ax B j).vs=l.flatMap f:=by kernel_rfl)(hf:∀ x,(f x).length=sz:=by intro _;rfl)
  (d:dJ P (execOp (ev Γ) (ao ops k))=some (.skip,n8 (ax B j).b (0+e*sz) (f x)):=by kernel_rfl):LG P n N R X ops k Γ w :=
 LG.putA j l f sz e x s.st s.g0 (iH c).1 (iH c).2 a hB hf hk d (fun w' p i=>H w' p (s.put0 (oT a) p i (jS (oT a))))
theorem Jp {α:Type}(i j:Nat)(l:List α)(f:α->List Value)(sz e:Nat)(x:α)(s:SS w0 h0 w h B Rs F)(hk:e<l.length)(H:∀ w',Put (ax B j).b w w'->SS w0 h0 w' h (gN B j ((l.set e x).flatMap f)) Rs F->AG M P n N R X ops k0 (L.setIfInBounds i true) Γ w')(c:FJ ops k0 L Γ i=true:=by kernel_rfl)
  (a:decide (j<B.length)=true:=by kernel_rfl)(hB:(ax B j).vs=l.flatMap f:=by kernel_rfl)(hf:∀ x,(f x).length=sz:=by intro _;rfl)
  (d:dJ P (execOp (ev Γ) (ao ops i))=some (.skip,n8 (ax B j).b (0+e*sz) (f x)):=by kernel_rfl)(hz:∀ K bs,M.z=some (K,bs)->K<=(ax B j).b\/(ax B j).b∈bs:=by intro _ _ e;cases e):AG M P n N R X ops k0 L Γ w :=
 T.putA i j l f sz e x s.st s.g0 (j9 c).1 (j9 c).2 a hB hf hk d (fun w' p o=>H w' p (s.put0 (oT a) p o (jS (oT a)))) hz
theorem aQ {α:Type}(i t j:Nat)(l:List α)(f:α->List Value)(sz:Nat)(d:α)(e:Nat)(v:Value)(s:SS w0 h0 w h B Rs F)(hk:e<l.length)(H:AG M P n N R X ops k0 (L.setIfInBounds i true) ((t,v)::Γ) w)(hM:(ax B j).b ∉ M.l:=by exact List.not_mem_nil)(y:BY n ops k0 [] L Γ i t=true:=by kernel_rfl)
  (C:decide (j<B.length)=true:=by kernel_rfl)(hB:(ax B j).vs=l.flatMap f:=by kernel_rfl)(hf:∀ x,(f x).length=sz:=by intro _;rfl)
  (o:bU P (execOp (ev Γ) (ao ops i)) (f (l.getD e d))=some (.value v,mC (ax B j).b (0+e*sz) (f (l.getD e d)).length):=by kernel_rfl):AG M P n N R X ops k0 L Γ w :=
 aL i t v (fun w' z=>bS _ _ _ _ o (fun q a u ha c=>by
  rw[eL _ _ _ _ _ ha,((s.st.own _ (bu (oT C))).mo z hM).cell,hB];rw[<-f4 hf d l e hk] at c
  have p:q<sz:=by
   rcases eb q sz with hl|hl
   ·exact hl
   ·rw[pe (by simp;omega)] at c;cases c
  rw[wq p,ws] at c
  rw[yl];exact c)) H y
theorem B0 (t j:Nat){f:FuncId}{args:Array Value}{Φ:Value->Prop}(s:SS w0 h0 w h B Rs F)(c:∀ hp,G w hp->AllF F hp->Seg hp (ax B j).b 0 (ax B j).vs->Calls P f args w (Ret w hp (fun v _=>Φ v)))(H:∀ v w' a,Up w h w' a->SS w0 h0 w' a B Rs F->Φ v->LG P n N R X ops (k+1) ((t,v)::Γ) w')(e:decide (j<B.length)=true:=by kernel_rfl)(i:cL ops Γ k t n=true:=by kernel_rfl)(hr:(execOp (ev Γ) (ao ops k)).run P w=.ok (.enter f args) w:=by kernel_rfl):LG P n N R X ops k Γ w :=
 j6 t (s.lends (oT e) c) (fun v w' a u d=>H v w' a u (s.step u) d) i hr
theorem SS.lends2 (s:SS w0 h0 w h B Rs F){i j:Nat}(hi:i<B.length)(D:j<B.length)(C:i≠j){f:FuncId}{args:Array Value}{Φ:Value->Prop}(c:∀ a,G w a->AllF F a->Seg a (ax B i).b 0 (ax B i).vs->Seg a (ax B j).b 0 (ax B j).vs->Calls P f args w (Ret w a (fun v _=>Φ v))):Calls P f args w (Ret w h (fun v _=>Φ v)):=by
 have hm:=bu hi;have l:=bu D;have hb:(ax B j).b≠(ax B i).b:=fI s.st (decide_eq_true D) (decide_eq_true hi) (by simpa using C.symm);obtain ⟨a,g,gw,L,H⟩:=B2 s.g (s.st.jk _ hm) (s.st.own _ hm);have d:a[(ax B j).b]?=some bj:=by rw[H _ hb];exact s.st.jk _ l
 obtain ⟨x,I,o,z,p⟩:=B2 g d (s.st.own _ l);refine (c x I ((s.f.gw s.mo gw).gw s.mo o) (L.gw o) z).mono ?_;rintro e w' ⟨v,O,J,u,y⟩;obtain ⟨h1,u1⟩:=qW d p (g.sz I) u;obtain ⟨K,M⟩:=qW (s.st.jk _ hm) H (s.g.sz g) u1;exact ⟨v,K,J,M,y⟩
theorem HR (t i j:Nat){f:FuncId}{args:Array Value}{Φ:Value->Prop}(s:SS w0 h0 w h B Rs F)(c:∀ hp,G w hp->AllF F hp->Seg hp (ax B i).b 0 (ax B i).vs->Seg hp (ax B j).b 0 (ax B j).vs->Calls P f args w (Ret w hp (fun v _=>Φ v)))(H:∀ v w' h',SS w0 h0 w' h' B Rs F->Φ v->LG P n N R X ops (k+1) ((t,v)::Γ) w')(a:(decide (i<B.length) && decide (j<B.length) && (i != j))=true:=by kernel_rfl)(d:cL ops Γ k t n=true:=by kernel_rfl)(hr:(execOp (ev Γ) (ao ops k)).run P w=.ok (.enter f args) w:=by kernel_rfl):LG P n N R X ops k Γ w:=by
 simp only[g7,decide_eq_true_eq,bne_iff_ne,ne_eq] at a
 exact lC t s (s.lends2 a.1.1 a.1.2 a.2 c) H d hr
theorem By {w w':World}{h j f:Hp}{b:Nat}{M:List Nat}(l:h[b]?=some bj)(p:∀ c,c≠b->j[c]?=h[c]?)(i:j.size=h.size)(u:UpM M w j w' f):∃ d,UpM M w h w' d/\(∀ c,c≠b->d[c]?=f[c]?):=by
 have x:=aJ l;have a:b<f.size:=ey oM u.gr.size;refine ⟨f.setIfInBounds b bj,⟨u.mo,⟨by simp;rw[<-i];exact u.gr.size,fun c o=>?_⟩,⟨by simp;exact u.g.size,fun c=>?_⟩⟩,fun c o=>g6 (Ne.symm o)⟩
 ·by_cases e:b=c
  ·subst e;rw[yz a,l]
  ·rw[g6 e,u.gr.blk c oM,p c (Ne.symm e)]
 ·by_cases e:b=c
  ·subst e;right;rw[yz a]
  ·rw[g6 e];exact u.g.blk c
theorem Ht (t i j:Nat){f:FuncId}{args:Array Value}{Φ:Value->World->Prop}(s:SS w0 h0 w h B Rs F)(c:∀ l,G w l->AllF F l->l[(ax B i).b]?=some bj->Seg l (ax B j).b 0 (ax B j).vs->Calls P f args w (dX (ax B i).b w l (fun v w' _=>Φ v w')))(H:∀ v w' o,UpM [(ax B i).b] w h w' o->Φ v w'->LG P n N R X ops (k+1) ((t,v)::Γ) w')(a:(decide (i<B.length) && decide (j<B.length) && (i != j))=true:=by kernel_rfl)(z:cL ops Γ k t n=true:=by kernel_rfl)(hr:(execOp (ev Γ) (ao ops k)).run P w=.ok (.enter f args) w:=by kernel_rfl):LG P n N R X ops k Γ w:=by
 simp only[g7,decide_eq_true_eq,bne_iff_ne,ne_eq] at a
 have hm:=bu a.1.2;have hb:(ax B i).b≠(ax B j).b:=fI s.st (decide_eq_true a.1.1) (decide_eq_true a.1.2) (by simpa using a.2);obtain ⟨l,g,gw,C,x⟩:=B2 s.g (s.st.jk _ hm) (s.st.own _ hm);refine fD (rb:=(ax B i).b) (Φ:=fun v w' _=>Φ v w') (h:=h) t ((c l g (s.f.gw s.mo gw) (by rw[x _ hb];exact s.st.jk _ (bu a.1.1)) C).mono ?_) (fun v w' o u d=>H v w' o u d) z hr;rintro e w' ⟨v,o,y,u,d⟩;obtain ⟨p,D,_⟩:=By (s.st.jk _ hm) x (s.g.sz g) u;exact ⟨v,p,y,D,d⟩
theorem Je {α:Type}(t j:Nat)(x y:Operand)(D e:TypeId)(f:α->List Value)(d:α)(A:Z9)(l2:List α)(m m2 c V:Nat)(s:SS w0 h0 w h B Rs F)(so:SlO 1 f d h A l2)(L:l2.length=m2)(O:m2=m)(U:0<m)(i:(ax B j).vs.length=m)
  (H:∀ w',SS w0 h0 w' h (gN B j (l2.flatMap f)) Rs F->LG P n N R X ops (k+1) ((t,.int .i64 (m:Nat))::Γ) w')(Q:m<=1099511627776:=by omega)(I:cL ops Γ k t n=true:=by kernel_rfl)(Z:decide (j<B.length)=true:=by kernel_rfl)
  (hf:∀ x,(f x).length=1:=by intro _;rfl)(h1:∀ x,(f x).all (·.oneCell')=true:=by intro _;kernel_rfl)(ho:(ao ops k).op=.call { callee:=.builtin .copy,args:=#[x,y],argTypes:=#[D,D] }:=by kernel_rfl)(Y:ev Γ x=.slice (some ⟨(ax B j).b,0,none⟩) m V:=by kernel_rfl)(S:ev Γ y=.slice A m2 c:=by kernel_rfl)
  (J:P.underlying D=some (.slice e):=by kernel_rfl)(hi:(P.info? e).map (·.size)=some 1:=by kernel_rfl):LG P n N R X ops k Γ w:=by
 subst O;have hm:=L;have o:=oT Z;have z:=s.st.own _ (bu o);have C:(l2.flatMap f).length=m2:=by rw[dG hf,hm];omega
 rw[so.ok oM] at S
 have l:=run_copy_row (P:=P) w D D (ao ops k).type e (ax B j).b 0 m2 V ⟨aB A,aO A,none⟩ m2 c (ax B j).vs.toArray (ax B j).t (l2.flatMap f) J hi z (by rw[C];exact (Nat.min_self m2).symm) (jz s.g (so.flat hf)) (by rw[C];simp[i]) (fun u J=>by
  obtain ⟨a,_,ha⟩:=List.mem_flatMap.1 J;exact (hH.1 (h1 a)) u ha)
 have e1:((ax B j).vs.toArray.toList.take 0++l2.flatMap f++(ax B j).vs.toArray.toList.drop (0+(l2.flatMap f).length)).toArray=(l2.flatMap f).toArray:=by
  rw[C];simp[Jz,i]
 rw[e1,C] at l
 have p:Put (ax B j).b w (w.setRow (ax B j).b (l2.flatMap f).toArray):=⟨rfl,rfl,rfl,by simp,fun c I=>setRow_other _ _ _ _ I⟩
 have M:Own (w.setRow (ax B j).b (l2.flatMap f).toArray) (ax B j).b (ax B j).t (fk (ax B j).vs 0 (l2.flatMap f)):=by
  have e2:fk (ax B j).vs 0 (l2.flatMap f)=l2.flatMap f:=by
   have:=jV (l2.flatMap f) (ax B j).vs [] (by rw[i,C])
   simpa using this
  rw[e2];exact setRow_heap _ _ _ _ _ _ z
 have K:=s.st.put s.g0 o p M
 have e2:fk (ax B j).vs 0 (l2.flatMap f)=l2.flatMap f:=by
  have:=jV (l2.flatMap f) (ax B j).vs [] (by rw[i,C])
  simpa using this
 unfold fy at K
 rw[e2] at K
 refine LG.val t _ _ (bR I).1 (bR I).2 ?_ (H _ (s.put0 o p K (jS o)))
 unfold execOp
 have W:goInt m2=.int .i64 (m2:Nat):=rfl;rw[W] at l
 simp only[ho,resolve,invoke,builtin,Sem.run_bind,Sem.run_pure,Result.andThen_ok,List.map_toArray,List.map_cons,List.map_nil,Y,S,l]
theorem oQ {Q:Exit->Act->World->Prop}{i:Nat}{y:Oper}{v:Value}{S:World->Prop}(hi:ops[i]?=some y)(p:∀ (j:Nat) (o:Oper) cs b,ops[j]?=some o->o.op≠.select cs b)
    (hQ:∀ c a w,Q (.panic c) (a.put y.dst v) w->Q (.panic c) a w)(U:∀ w w',S w->Tl M w w'->S w') :
    ∀ (n:Nat) (L:Array Bool) (a:Act) (w:World),
      (∀ j x,ops[j]?=some x->j≠i->L.getD j true=false->(∀ e∈x.after,Region.binds .any e=true->e.on≠i)->y.apart ops x=true) ->
      i∈Region.ready .any ops L->YieldsIf P ops S y v a->S w->ru M P ops Q 0 n (L.setIfInBounds i true) (a.put y.dst v) w->ru M P ops Q 0 (n+1) L a w:=by
  intro n
  induction n with
  | zero =>
    intro L a w _ hr D F H;refine ⟨fun h=>(by rw[h] at hr;cases hr),fun j I=>?_⟩
    by_cases hji:j=i
    . subst hji;exact D.wpOp hi F ⟨Rl.refl _ _ _ _,H⟩
    . have:=ready_mono I hji
      rw[H.1] at this
      cases this
  | succ n ih =>
    intro L a w d hr D F H;refine ⟨fun h=>(by rw[h] at hr;cases hr),fun j I=>?_⟩
    by_cases hji:j=i
    . subst hji;exact D.wpOp hi F ⟨Rl.refl _ _ _ _,H⟩
    . have h1:=H.2 j (ready_mono I hji)
      obtain ⟨l,x,u,B⟩:=mem_ready.1 I
      have C:∀ e∈x.after,Region.binds .any e=true->e.on≠i:=fun e X hb V=>by
        have h1:=B e X hb;have h0:=(mem_ready.1 hr).1;rw[V] at h1
        obtain ⟨hl,W⟩:=FE h0
        simp[Array.getD,hl,W] at h1
      have Y:=wpOp_putIf u (d j x u hji l C) (fun cs b=>p i y cs b hi) (fun cs b=>p j x cs b u) hQ D h1
      have f:∀ k ok,ops[k]?=some ok->k≠i->(L.setIfInBounds j true).getD k true=false ->
          (∀ e∈ok.after,Region.binds .any e=true->e.on≠i)->y.apart ops ok=true:=fun k ok hk O z K=>by
        refine d k ok hk O ?_ K
        by_cases hjk:j=k
        . subst hjk;exact l
        . rw[getD_set_ne true hjk] at z;exact z
      refine wpOp_mono (fun Z w' J=>⟨J.2.1,ih (L.setIfInBounds j true) Z w' f (ready_mono hr (Ne.symm hji)) J.1 (U _ _ F (J.2.1.2 (JL _))) ?_⟩) Y;rw[Array.setIfInBounds_comm _ _ hji];exact J.2.2
def Bb (n:Nat)(ops:Array Oper)(L:Array Bool)(Γ:ck)(i t:Nat):Bool :=
  decide (i<ops.size) && Region.noSelect ops && Region.free .any ops L i && (Region.ready .any ops L).contains i && ((ao ops i).dst == some t) && decide (t<n) && bp Γ (ao ops i) && (bA ops Γ (ao ops i) == some true)
theorem CI (i t:Nat)(v:Value){S:World->Prop}(h:∀ w w',S w->Tl M w w'->S w')(y:S w)(hv:∀ w',S w'->(execOp (ev Γ) (ao ops i)).run P w'=.ok (.value v) w')(H:AG M P n N R X ops 0 (L.setIfInBounds i true) ((t,v)::Γ) w)(f:Bb n ops L Γ i t=true):AG M P n N R X ops 0 L Γ w:=by
 unfold Bb at f
 simp only[g7,decide_eq_true_eq,beq_iff_eq] at f
 obtain ⟨⟨⟨⟨⟨⟨⟨h1,p⟩,B⟩,I⟩,F⟩,J⟩,C⟩,u⟩:=f;have hr:i∈Region.ready .any ops L:=by simpa using I
 have o:=bC (ops:=ops) h1;intro a b;have e1:=b.exec (Region.noSelect_spec p i _ · · o) C;have D:=H _ (b.put J v)
 unfold A at *
 rw[e8 hr];refine oQ (S:=S) o (Region.noSelect_spec p) (fun c a w x=>x.elim) h _ _ _ _ (fun j K z d e=>Region.free_spec o B j K z d e) hr (.inl ⟨b.want u,fun w' l=>by rw[e1];exact hv w' l⟩) y ?_;rw[F];exact D
theorem zV (i t:Nat)(v:Value)(H:AG M P n N R X ops 0 (L.setIfInBounds i true) ((t,v)::Γ) w)(a:Bb n ops L Γ i t=true:=by kernel_rfl)(hv:∀ w,(execOp (ev Γ) (ao ops i)).run P w=.ok (.value v) w:=by intro _;kernel_rfl):AG M P n N R X ops 0 L Γ w :=
 CI i t v (S:=fun _=>True) (fun _ _ _ _=>trivial) trivial (fun w' _=>hv w') H a
theorem zO {K:Nat}(i t:Nat)(ps:List (Nat × Nat × Nat))(v:Value)(hz:M.z=some (K,[]))(J:K<=w.heap.size)(s:SS w0 h0 w h B Rs F)(f:∀ p∈ps,(ax B p.1).b<K)(H:AG M P n N R X ops 0 (L.setIfInBounds i true) ((t,v)::Γ) w)(y:Bb n ops L Γ i t=true:=by kernel_rfl)(o:ce B ps=true:=by kernel_rfl)(j:bU P (execOp (ev Γ) (ao ops i)) (cO B ps)=some (.value v,bQ B ps):=by kernel_rfl):AG M P n N R X ops 0 L Γ w :=
 CI i t v (S:=fun w'=>K<=w'.heap.size/\∀ b,b<K->w'.heap[b]?=w.heap[b]?) (fun w1 w2 c I=>by
  obtain ⟨h1,C⟩:=I K [] hz;exact ⟨eu c.1 h1,fun b hb=>(C b hb List.not_mem_nil).trans (c.2 b hb)⟩) ⟨J,fun _ _=>rfl⟩ (fun w' c=>bS _ _ _ _ j (fun q a u ha l=>by
  obtain ⟨p,e,d⟩:=ri ps q a ha;have:=cI (fun x D=>s.st.own x D) ps o q a u ha l;rw[<-this]
  unfold World.cell?
  rw[c.2 _ (d▸f p e)])) H y
theorem zC (i t:Nat){f:FuncId}{args:Array Value}(c:Calls P f args w fun e w'=>∃ v,e=.returned v/\Tl M w w'/\AG M P n N R X ops 0 (L.setIfInBounds i true) ((t,v)::Γ) w')(h:(iz ops 0 L i && bp Γ (ao ops i) && ((ao ops i).dst == some t) && decide (t<n))=true:=by kernel_rfl)(o:bA ops Γ (ao ops i)=some true:=by kernel_rfl)
  (hr:(execOp (ev Γ) (ao ops i)).run P w=.ok (.enter f args) w:=by kernel_rfl):AG M P n N R X ops 0 L Γ w:=by
 simp only[g7,decide_eq_true_eq,beq_iff_eq] at h
 obtain ⟨⟨⟨h1,l⟩,p⟩,x⟩:=h;obtain ⟨j,u⟩:=kW h1;intro a b;refine A.one h1 j (R':=fun v w'=>Tl M w w'/\AG M P n N R X ops 0 (L.setIfInBounds i true) ((t,v)::Γ) w') ⟨b.want o,.inr (.inr ⟨f,args,?_,c⟩)⟩ (fun v w' d=>d.1) (fun v w' d=>?_)
 ·rw[b.exec (Region.noSelect_spec u i _ · · j) l];exact hr
 ·rw[p];exact d.2 _ (b.put x v)
theorem Ff {K:Nat}{w':World}(hz:M.z=some (K,[]))(c:K<=w.heap.size)(x:Ext w w'):Tl M w w':=fun a bs e=>by
 rw[hz] at e
 injection e with e;injection e with e1 e2
 subst e1 e2;exact ⟨x.size,fun b hb _=>Below.block x b oM⟩
theorem GO {K b:Nat}{w':World}(hz:M.z=some (K,[]))(f:K<=w.heap.size)(hb:K<=b)(x:Mo [b] w w'):Tl M w w':=fun a bs e=>by
 rw[hz] at e
 injection e with e;injection e with e1 e2
 subst e1 e2;exact ⟨x.size,fun c d _=>x.blk c oM (by simp;omega)⟩
theorem rC {K:Nat}(i t:Nat){f:FuncId}{args:Array Value}{Φ:Value->Hp->Prop}(c:Calls P f args w (Ret w h Φ))(hz:M.z=some (K,[]))(d:K<=w.heap.size)(H:∀ v w' a,Up w h w' a->K<=w'.heap.size->Φ v a->AG M P n N R X ops 0 (L.setIfInBounds i true) ((t,v)::Γ) w')(l:(iz ops 0 L i && bp Γ (ao ops i) && ((ao ops i).dst == some t) && decide (t<n))=true:=by kernel_rfl)(o:bA ops Γ (ao ops i)=some true:=by kernel_rfl)
  (hr:(execOp (ev Γ) (ao ops i)).run P w=.ok (.enter f args) w:=by kernel_rfl):AG M P n N R X ops 0 L Γ w :=
 zC i t (c.mono fun e w' ⟨v,a,j,u,b⟩=>⟨v,j,Ff hz d u.ext,H v w' a u (eu d u.ext.size) b⟩) l o hr
theorem Jc {K rb:Nat}(i t:Nat){f:FuncId}{args:Array Value}{Φ:Value->World->Hp->Prop}(c:Calls P f args w (dX rb w h Φ))(hz:M.z=some (K,[]))(j:K<=w.heap.size)(b:K<=rb)(H:∀ v w' a,UpM [rb] w h w' a->K<=w'.heap.size->Φ v w' a->AG M P n N R X ops 0 (L.setIfInBounds i true) ((t,v)::Γ) w')(o:(iz ops 0 L i && bp Γ (ao ops i) && ((ao ops i).dst == some t) && decide (t<n))=true:=by kernel_rfl)(p:bA ops Γ (ao ops i)=some true:=by kernel_rfl)
  (hr:(execOp (ev Γ) (ao ops i)).run P w=.ok (.enter f args) w:=by kernel_rfl):AG M P n N R X ops 0 L Γ w :=
 zC i t (c.mono fun e w' ⟨v,a,l,u,d⟩=>⟨v,l,GO hz j b u.mo,H v w' a u (eu j u.mo.size) d⟩) o p hr
theorem eE (s:SS w0 h0 w h B Rs F)(j:Nat)(a:decide (j<B.length)=true:=by kernel_rfl):(ax B j).b<w.heap.size:=by rw[s.g.size];exact aJ (s.jk j a)
theorem FK (t b o len d sz:Nat)(i:Int)(j e:Nat)(H:LG P n N R X ops (k+1) ((t,.pointer (some ⟨b,0+e*sz,none⟩))::Γ) w)(f:cL ops Γ k t n=true:=by kernel_rfl)(h:CF P (ev Γ) (ao ops k)=some (.slice (some ⟨b,o,none⟩) len d,.int .i64 i,sz):=by kernel_rfl)(hk:i=j:=by omega)(c:j<len:=by omega)(a:o+j*sz=0+e*sz:=by omega):LG P n N R X ops k Γ w :=
 LG.val t _ w (bR f).1 (bR f).2 (a▸gt h rfl hk c w) H
theorem Ja (i t b o len d sz:Nat)(x:Int)(j e:Nat)(H:AG M P n N R X ops k0 (L.setIfInBounds i true) ((t,.pointer (some ⟨b,0+e*sz,none⟩))::Γ) w)(f:cE n ops k0 [] L Γ i t=true:=by kernel_rfl)(h:CF P (ev Γ) (ao ops i)=some (.slice (some ⟨b,o,none⟩) len d,.int .i64 x,sz):=by kernel_rfl)(hk:x=j:=by omega)(c:j<len:=by omega)(a:o+j*sz=0+e*sz:=by omega):AG M P n N R X ops k0 L Γ w :=
 aV i t _ H f (fun w=>a▸gt h rfl hk c w)
theorem Js (i t b o len d sz:Nat)(x:Int)(j e:Nat)(H:AG M P n N R X ops k0 (L.setIfInBounds i true) ((t,.pointer (some ⟨b,0+e*sz,none⟩))::Γ) w)(f:cT n ops k0 L Γ i t=true:=by kernel_rfl)(h:CF P (ev Γ) (ao ops i)=some (.slice (some ⟨b,o,none⟩) len d,.int .i64 x,sz):=by kernel_rfl)(hk:x=j:=by omega)(c:j<len:=by omega)(a:o+j*sz=0+e*sz:=by omega):AG M P n N R X ops k0 L Γ w :=
 T.val i t _ w (qi f).1 (qi f).2 (a▸gt h rfl hk c w) H
theorem JG (t b o len a sz:Nat)(i:Int)(j o2:Nat)(H:LG P n N R X ops (k+1) ((t,.slice (some ⟨b,o2,none⟩) (len-j) (a-j))::Γ) w)(l:cL ops Γ k t n=true:=by kernel_rfl)(p:DJ P (ev Γ) (ao ops k)=some (.slice (some ⟨b,o,none⟩) len a,some (.int .i64 i),none,sz):=by kernel_rfl)(hk:i=j:=by omega)(f:j<=len:=by omega)(c:a≠j:=by omega)(d:o2=o+j*sz:=by omega):LG P n N R X ops k Γ w:=by
 have h:=oz j p hk f w;rw[if_neg c] at h
 have e:(some (⟨b,o,none⟩:Addr)).map (·.add (j*sz))=some ⟨b,o2,none⟩:=by subst d;simp[Addr.add]
 rw[e] at h
 exact LG.val t _ w (bR l).1 (bR l).2 h H
theorem SS.torow {α:Type}(s:SS w0 h0 w h B Rs F)(j:Nat)(f:α->List Value)(l:List α)(sz m:Nat)(hm:l.length=m)(z:m<=1099511627776)(hB:(ax B j).vs=l.flatMap f:=by kernel_rfl)(hf:∀ x,(f x).length=sz:=by intro _;rfl)(u:decide (j<B.length)=true:=by kernel_rfl) :
    SS w0 h0 w h (B.eraseIdx j) (⟨(ax B j).t,sz,some ⟨(ax B j).b,0,none⟩,m,m,l.flatMap f⟩::Rs) F:=by
  have d:=oT u;have c:=bu d;have C:=s.st.own _ c
  have y:∀ x∈B.eraseIdx j,x.b≠(ax B j).b:=by
    intro x a hb;obtain ⟨i,hi,p⟩:=List.mem_iff_getElem.1 a;rw[List.getElem_eraseIdx] at p
    rw[List.length_eraseIdx_of_lt d] at hi
    split at p
    . rename_i D
      refine fI s.st (i:=i) (j:=j) (decide_eq_true oM) u (by simp;omega) ?_;rw[<-hb,<-p];simp[ax,show i<B.length by omega]
    . rename_i D
      refine fI s.st (i:=i+1) (j:=j) (decide_eq_true oM) u (by simp;omega) ?_;rw[<-hb,<-p];simp[ax,show i+1<B.length by omega]
  refine ⟨s.g0,⟨s.st.up,fun x a=>s.st.own x (yD a),fun x a=>s.st.jk x (yD a),fun x a=>s.st.lo x (yD a),s.st.nd.sublist ((List.eraseIdx_sublist B j).map (·.b))⟩,?_,?_,s.mo,s.f⟩
  . intro r hr
    rcases List.mem_cons.1 hr with rfl|hr
    . refine ⟨⟨by rw[dG hf,hm],.inr ⟨(ax B j).b,m,(ax B j).vs.toArray,rfl,s.st.lo _ c,C,ep _,by unfold maxLen;omega,by rw[hB];simp[dG hf,hm],by rw[hB];simp[z8,dG hf,hm]⟩⟩,?_,?_⟩
      . intro b hb
        have:(ax B j).b=b:=by simpa [Rw.v,Value.ownBlock] using hb
        rw[<-this];exact s.st.jk _ c
      . intro b hb o
        have:(ax B j).b=b:=by simpa [Rw.v,Value.ownBlock] using hb
        obtain ⟨x,a,e⟩:=gs.1 o;exact y x a (e.trans this.symm)
    . exact (s.ro r hr).sub _ (fun b hb=>by
        obtain ⟨x,a,e⟩:=gs.1 hb;exact gs.2 ⟨x,yD a,e⟩)
  . refine List.pairwise_cons.2 ⟨fun r hr b hb hv=>?_,s.ap⟩
    have:(ax B j).b=b:=by simpa [Rw.v,Value.ownBlock] using hb
    exact (s.ro r hr).ap b hv (this▸gs.2 ⟨_,c,rfl⟩)
theorem HE {α:Type}(t j m I:Nat)(l:List α)(f:α->List Value)(d x:α)(c:Nat)(z:Value)(s:SS w0 h0 w h B Rs F)(Q:Seg h I 0 (f x))(hm:l.length=m)(J:m<=1000000000)
  (H:∀ a c' w' p,SS w0 h0 w' p (B.eraseIdx j) Rs ((fun h=>SlO 1 f d h a (l++[x]))::F)->m+1<=c'->LG P n N R X ops (k+1) ((t,.slice a (m+1) c')::Γ) w')(M:cL ops Γ k t n=true:=by kernel_rfl)(S:decide (j<B.length)=true:=by kernel_rfl)(hB:(ax B j).vs=l.flatMap f:=by kernel_rfl)
  (K:CW P (ev Γ) (ao ops k)=some (.slice (some ⟨(ax B j).b,0,none⟩) m m,.slice (some ⟨I,0,none⟩) 1 1,(ax B j).t,z,1,c):=by kernel_rfl)(e:z.cells.size=1:=by kernel_rfl)(hf:∀ x,(f x).length=1:=by intro _;rfl)(h1:(f x).all (·.oneCell')=true:=by kernel_rfl)(y:c<=100:=by decide):LG P n N R X ops k Γ w:=by
 have D:=s.torow j f l 1 m hm oM hB hf S
 refine I7 t 0 (f x) D (lr D.g Q) (hf x) (fun u L=>(hH.1 h1) u L) (by simp) rfl M K e kD oM (by
  have:(m+1)*c<=(m+1)*100:=y9 _ y
  omega) (fun a c' w' p C=>?_)
 have e1:m+1=(l++[x]).length:=by simp[hm]
 have e2:l.flatMap f++f x=(l++[x]).flatMap f:=by simp
 rw[e2,List.set_cons_zero] at C
 have U:SS w0 h0 w' p (B.eraseIdx j) (⟨(ax B j).t,1,a,c',(l++[x]).length,(l++[x]).flatMap f⟩::Rs) F:=by rw[<-e1];exact C
 obtain ⟨o,O,i⟩:=U.pubr 0 d hf rfl (by simp);exact H a c' w' o O (by rw[e1];exact i)
theorem SS.perm (s:SS w0 h0 w h B Rs F){c:List Bx}(p:B.Perm c):SS w0 h0 w h c Rs F :=
 ⟨s.g0,⟨s.st.up,fun x a=>s.st.own x (p.mem_iff.2 a),fun x a=>s.st.jk x (p.mem_iff.2 a),fun x a=>s.st.lo x (p.mem_iff.2 a),(p.map (·.b)).nodup_iff.1 s.st.nd⟩,
  fun r hr=>(s.ro r hr).sub _ (fun b hb=>(p.map (·.b)).mem_iff.2 hb),s.ap,s.mo,s.f⟩
end
theorem wL (a:Nat)(A:Z9)(c:Nat)(H:(lim a).length<=c)(C:(lim a).length<=4000000000)(w:World)(h:Hp)(g:G w h)(u:S3 A (lim a) h):CV 117 #[.slice A ((lim a).length) c] w h (nV (nb a)):=by
 have b:=((sS g).aS u);have B:=@dN a;have o:=(Ld.lim a).get ((lim a).length-1);refine go Tryz.func117 [(0,qS A ((lim a).length) c)] rfl (aa b ac (af (aa b [.c,.v (nV ((lim a).length))] ?_)));cases e:((((lim a).length:Nat):Int) == (0:Int))
 .
  have j:=ag e;refine lB 7 e (ah (cK (aa b [.c,.v (nV ((lim a).length))] (bI 10 (((lim a).length:Nat)-1) (((lim a).length)-1) ?_))));refine bI 11 (32*(((lim a).length)-1:Nat)) (32*(((lim a).length)-1:Nat)) (lL b ac (af (aa b [.c,.c,.v (nV ((lim a).length))] (lI 15 (((lim a).length:Nat)-1) ?_))));refine lX 16 A ((lim a).length) c 1 (((lim a).length:Nat)-1) (((lim a).length)-1) ((b.f.1).ok oM) (lH 17 (mW ((lim a).getD (((lim a).length)-1) 0)) b ((b.f.1).el (((lim a).length)-1) oM) (lL b ac (bh ?_)));refine cj _ (CG.loop (fun l Γ y=>∃ (n:Nat)(x:Nat)(h_:Hp),l=x/\Γ=[(2,iV 0),(3,nV n),(4,mW x)]/\SS w h y h_ [] [] [S3 A (lim a)]/\n+nb x=nb a/\x<4294967296/\nb a<=128000000000) _ ⟨32*((lim a).length-1),(lim a).getD ((lim a).length-1) 0,h,rfl,rfl,b.to _ _,(D4 oM).symm,o,(by have:=rv a;omega)⟩ ?_);rintro _ _ w2 ⟨n,x,F,D,rfl,b,p,I,hm⟩;refine cQ (aa b ac ?_);cases d:(decide ((0:Int)<(x:Int)))
  .
   have i:=oF d;refine lB 19 d (ah (CG.exit ?_))
   show CG _ _ _ _ _ _ _ _
   exact aa b aK (ae b [] (nV n) (by obtain rfl:x=0:=oM;rw[x6] at p;rw[<-p];rfl))
  have i:=oT d;refine lB 19 d (au (cK (cQ (kZ (kQ (lL b ac (bI 23 ((n:Nat)+1) (n+1) ?_)))))));refine lL b ac (lN (kQ (lL b ac (lV 21 (mW (x/2)) ?_ (hr:=be (n:=JH (x:Nat) 2) kR (kF x 2))))));refine lL b ac (lD ?_);intro J z;refine ⟨_,_,?_,⟨n+1,x/2,F,rfl,rfl,b.to _ _,(by have:=x9 (n:=x) oM;omega),oM,hm⟩,z.to _ kR⟩
  omega
 have j:=eq_of_beq e;exact lB 7 e (au (aa b ac (ae b [] (iV 0) (by obtain rfl:a=0:=oM;rfl))))
def l3 (u2 u1 u0:Nat):Nat:=4294967296*(4294967296*u2+u1)+u0
def l2 (v1 v0:Nat):Nat:=4294967296*v1+v0
structure Hss (u2 u1 u0 v1 v0 g r o:Nat):Prop where
  e:g*v1+(r+4294967296*o)=4294967296*u2+u1
  lt:g+1=4294967296\/l3 u2 u1 u0<(g+1)*l2 v1 v0
  gb:g<4294967296
structure Gk (u2 u1 u0 v1 v0 g r:Nat):Prop where
  e:g*v1+r=4294967296*u2+u1
  lt:4294967296<=g+1\/l3 u2 u1 u0<(g+1)*l2 v1 v0
section joi
variable {P:Program}{n:Nat}{N R:Po}{X:Nat->Po}{Γ:ck}{w:World}
theorem CG.join {x y:Code}(I:ck->World->Prop)(h1:CG P n (fun a w'=>∃ b,I b w'/\Kn n a b) R X x Γ w)(h:∀ Γ w,I Γ w->CG P n N R X y Γ w):CG P n N R X (.seq x y) Γ w:=by
 intro a i;refine wp_seq (wp_mono (h1 a i) ?_);intro e a w d;cases e with
 | normal=>obtain ⟨b,f,c⟩:=d;exact h b w f a c
 | _=>exact d
end joi
section fin
variable {M:Ms}{P:Program}{n:Nat}{N R:Po}{X:Nat->Po}{ops:Array Oper}{k0:Nat}{hr:Hp}{L:Array Bool}{Γ:ck}{w:World}{h:Hp}{w0:World}{h0:Hp}{B:List Bx}{Rs:List Rw}{F:List (Hp->Prop)}
theorem js (s:SS w0 h0 w h B Rs F)(H:∀ w' a,Up w h w' a->SS w0 h0 w' a B Rs F->AG M P n N R X ops k0 L Γ w')(b:fT ops [] L=true:=by kernel_rfl):EG M P n N R X ops k0 hr [] L Γ w h:=Rg.fin0 b (fun w' a u=>H w' a u (s.step u))
end fin
theorem tI (a:Nat)(A:Z9)(c:Nat)(u:(lim a).length<=c)(b:Nat)(D:Z9)(d:Nat)(H:(lim b).length<=d)(B:(lim a).length<=3000000000)(F:(lim b).length<=3000000000)(i:a<b)(w:World)(h:Hp)(g:G w h)(y:S3 A (lim a) h)(C:S3 D (lim b) h):CR 119 #[.slice A ((lim a).length) c,.slice D ((lim b).length) d] w h (fun v h1=>∃ o x,v=.tuple #[o,x]/\RN h1 o (a/b)/\RN h1 x (a%b)):=by
 have e:=(((sS g).aS y).aS C);have z:=dw i;refine go Tryz.func119 [(0,qS A ((lim a).length) c),(1,qS D ((lim b).length) d)] rfl (aa e aK (af (aa e aK (am 27 e (kH a A c u b D d H oM oM _ _ e.g e.f.2.1 e.f.1) (fun w1 I e=>?_)))));have ⟨j,l⟩:=dT (p:=(bV a b:Int)<(0:Int)) oM;exact lB 28 j (au (aa e fE (ae e [] (.tuple #[sZ,qS A ((lim a).length) c]) (⟨_,_,rfl,by rw[yQ i];exact ⟨none,0,rfl,nR _,SlO.nil⟩,by rw[yr i];exact ⟨A,c,rfl,u,e.f.2.1⟩⟩))))
theorem qM {b:Nat}(h:(lim b).length=1):b<4294967296/\(lim b).getD 0 0=b/\0<b:=by
 have h1:=i5 b;rw[h] at h1
 have a:0<b:=dN.1 oM;refine ⟨by omega,?_,a⟩;rw[Ah a oM];rfl
theorem qz (a:Nat)(A:Z9)(c:Nat)(I:(lim a).length<=c)(b:Nat)(D:Z9)(d:Nat)(Z:(lim b).length<=d)(V:(lim a).length<=3000000000)(X:(lim b).length<=3000000000)(u:b<=a)(h1:(lim b).length=1)(w:World)(h:Hp)(g:G w h)(L:S3 A (lim a) h)(W:S3 D (lim b) h):CR 119 #[.slice A ((lim a).length) c,.slice D ((lim b).length) d] w h (fun v h1=>∃ H J,v=.tuple #[H,J]/\RN h1 H (a/b)/\RN h1 J (a%b)):=by
 have e:=(((sS g).aS L).aS W);have S:=fJ u;obtain ⟨Y,j,i⟩:=qM h1;refine go Tryz.func119 [(0,qS A ((lim a).length) c),(1,qS D ((lim b).length) d)] rfl (aa e aK (af (aa e aK (am 27 e (kH a A c I b D d Z oM oM _ _ e.g e.f.2.1 e.f.1) (fun w1 h2 e=>?_)))));have ⟨i,C⟩:=dF (p:=(bV a b:Int)<(0:Int)) oM;refine lB 28 i (ah (cK (cQ (aa e [.c,.v (nV ((lim b).length))] ?_))));have l:((((lim b).length:Nat):Int) == (1:Int))=true:=kg oM;have B:=eq_of_beq l;refine lB 32 l (au (aa e aK (lX 36 D ((lim b).length) d 1 0 0 ((e.f.1).ok oM) ?_)));refine lH 37 (mW ((lim b).getD 0 0)) e ((e.f.1).el 0 oM) (lC 38 e (IU a A c I oM ((lim b).getD 0 0) oM oM _ _ e.g e.f.2.1) ?_);rintro _ w5 h6 e ⟨_,r,rfl,⟨F,z,rfl,y,M⟩,x⟩;replace e:=e.aS M;refine lL e [.c,.v (qS F ((lim (a/((lim b).getD 0 0))).length) z),.v (mW r),.c,.c] (aR (lL e aK ?_));have O:=ys a (show 0<(lim b).getD 0 0 by omega);refine lV 43 (mV r) ?_ (hr:=rU ((r:Int)) kR (bM oM oM));refine lC 44 e (nI r oM _ _ e.g) ?_;rintro _ _ _ e ⟨Q,U,rfl,o,K⟩;replace e:=e.aS K;exact lL e aK (ae e [] (.tuple #[qS F ((lim (a/((lim b).getD 0 0))).length) z,qS Q ((lim r).length) U]) (⟨_,_,rfl,by rw[j] at *;exact ⟨_,_,rfl,y,e.f.2.1⟩,by rw[<-j,<-x];exact ⟨_,_,rfl,o,e.f.1⟩⟩))
theorem mB (x y:Nat):Nat.gcd y (x%y)=Nat.gcd x y:=by rw[JM y,<-Nat.gcd_rec,JM]
def aj (x:Nat):List Value:=[.int .u64 (x:Nat)]
theorem wN {l:List Nat}{m:Nat}(h:0<m)(h0:l.getD (m-1) 0=0):tl l m=tl l (m-1):=by
 obtain ⟨k,rfl⟩:∃ k,m=k+1:=⟨m-1,by omega⟩;rw[kv,if_pos (by simpa using h0)];rfl
theorem p6 (s:ByteArray)(d:8<=s.size)(w:World)(h:Hp)(g:G w h):CV 93 #[.string s] w h (mV (wv s)):=by
 have c:=sS g;have B:=cM s 0;have p:=cM s 1;have f:=cM s 2;have e:=cM s 3;have z:=cM s 4;have D:=cM s 5;have o:=cM s 6;have l:=cM s 7;refine go Tryz.func93 [(0,.string s)] rfl (aa c ac (af (cR 38 [] mixed c aq ?_)));refine eV 0 3 (.string s) (eV 1 4 (.int .u8 (aU s 0:Nat)) ?_ (hv:=fun _=>eg (tx:=9) (x:=.tmp 3) (i:=.const (iV 0)) (k:=.i64) (s:=s) (n:=0) (j:=(0:Int)) kR kR kR kR oM oM _));refine eV 2 5 (mV (aU s 0)) ?_ (hv:=fun _=>rU (((aU s 0:Nat):Int)) kR (bM oM oM));refine eV 3 6 (.string s) (eV 4 7 (.int .u8 (aU s 1:Nat)) ?_ (hv:=fun _=>eg (tx:=9) (x:=.tmp 6) (i:=.const (iV 1)) (k:=.i64) (s:=s) (n:=1) (j:=(1:Int)) kR kR kR kR oM oM _));refine eV 5 8 (mV (aU s 1)) ?_ (hv:=fun _=>rU (((aU s 1:Nat):Int)) kR (bM oM oM));refine eV 6 9 (mV ((aU s 1)*256)) ?_ (hv:=fun _=>rU ((((aU s 1:Nat):Int)*256)) kR ((bM oM oM).trans oM));refine eV 7 10 (mV (aU s 0+aU s 1*256)) ?_ (hv:=fun _=>be (jC (t:=23) (u:=23) (x:=.tmp 5) (y:=.tmp 9) (a:=(aU s 0)) (b:=((aU s 1)*256)) kR kR kR oM oM _) (by rw[gV 8 oM];first|done|omega));refine eV 8 11 (.string s) (eV 9 12 (.int .u8 (aU s 2:Nat)) ?_ (hv:=fun _=>eg (tx:=9) (x:=.tmp 11) (i:=.const (iV 2)) (k:=.i64) (s:=s) (n:=2) (j:=(2:Int)) kR kR kR kR oM oM _));refine eV 10 13 (mV (aU s 2)) ?_ (hv:=fun _=>rU (((aU s 2:Nat):Int)) kR (bM oM oM));refine eV 11 14 (mV ((aU s 2)*65536)) ?_ (hv:=fun _=>rU ((((aU s 2:Nat):Int)*65536)) kR ((bM oM oM).trans oM));refine eV 12 15 (mV (aU s 0+aU s 1*256+aU s 2*65536)) ?_ (hv:=fun _=>be (jC (t:=23) (u:=23) (x:=.tmp 10) (y:=.tmp 14) (a:=(aU s 0+aU s 1*256)) (b:=((aU s 2)*65536)) kR kR kR oM oM _) (by rw[gV 16 oM];first|done|omega));refine eV 13 16 (.string s) (eV 14 17 (.int .u8 (aU s 3:Nat)) ?_ (hv:=fun _=>eg (tx:=9) (x:=.tmp 16) (i:=.const (iV 3)) (k:=.i64) (s:=s) (n:=3) (j:=(3:Int)) kR kR kR kR oM oM _));refine eV 15 18 (mV (aU s 3)) ?_ (hv:=fun _=>rU (((aU s 3:Nat):Int)) kR (bM oM oM));refine eV 16 19 (mV ((aU s 3)*16777216)) ?_ (hv:=fun _=>rU ((((aU s 3:Nat):Int)*16777216)) kR ((bM oM oM).trans oM));refine eV 17 20 (mV (aU s 0+aU s 1*256+aU s 2*65536+aU s 3*16777216)) ?_ (hv:=fun _=>be (jC (t:=23) (u:=23) (x:=.tmp 15) (y:=.tmp 19) (a:=(aU s 0+aU s 1*256+aU s 2*65536)) (b:=((aU s 3)*16777216)) kR kR kR oM oM _) (by rw[gV 24 oM];first|done|omega));refine eV 18 21 (.string s) (eV 19 22 (.int .u8 (aU s 4:Nat)) ?_ (hv:=fun _=>eg (tx:=9) (x:=.tmp 21) (i:=.const (iV 4)) (k:=.i64) (s:=s) (n:=4) (j:=(4:Int)) kR kR kR kR oM oM _));refine eV 20 23 (mV (aU s 4)) ?_ (hv:=fun _=>rU (((aU s 4:Nat):Int)) kR (bM oM oM));refine eV 21 24 (mV ((aU s 4)*4294967296)) ?_ (hv:=fun _=>rU ((((aU s 4:Nat):Int)*4294967296)) kR ((bM oM oM).trans oM));refine eV 22 25 (mV (aU s 0+aU s 1*256+aU s 2*65536+aU s 3*16777216+aU s 4*4294967296)) ?_ (hv:=fun _=>be (jC (t:=23) (u:=23) (x:=.tmp 20) (y:=.tmp 24) (a:=(aU s 0+aU s 1*256+aU s 2*65536+aU s 3*16777216)) (b:=((aU s 4)*4294967296)) kR kR kR oM oM _) (by rw[gV 32 oM];first|done|omega));refine eV 23 26 (.string s) (eV 24 27 (.int .u8 (aU s 5:Nat)) ?_ (hv:=fun _=>eg (tx:=9) (x:=.tmp 26) (i:=.const (iV 5)) (k:=.i64) (s:=s) (n:=5) (j:=(5:Int)) kR kR kR kR oM oM _));refine eV 25 28 (mV (aU s 5)) ?_ (hv:=fun _=>rU (((aU s 5:Nat):Int)) kR (bM oM oM));refine eV 26 29 (mV ((aU s 5)*1099511627776)) ?_ (hv:=fun _=>rU ((((aU s 5:Nat):Int)*1099511627776)) kR ((bM oM oM).trans oM));refine eV 27 30 (mV (aU s 0+aU s 1*256+aU s 2*65536+aU s 3*16777216+aU s 4*4294967296+aU s 5*1099511627776)) ?_ (hv:=fun _=>be (jC (t:=23) (u:=23) (x:=.tmp 25) (y:=.tmp 29) (a:=(aU s 0+aU s 1*256+aU s 2*65536+aU s 3*16777216+aU s 4*4294967296)) (b:=((aU s 5)*1099511627776)) kR kR kR oM oM _) (by rw[gV 40 oM];first|done|omega));refine eV 28 31 (.string s) (eV 29 32 (.int .u8 (aU s 6:Nat)) ?_ (hv:=fun _=>eg (tx:=9) (x:=.tmp 31) (i:=.const (iV 6)) (k:=.i64) (s:=s) (n:=6) (j:=(6:Int)) kR kR kR kR oM oM _));refine eV 30 33 (mV (aU s 6)) ?_ (hv:=fun _=>rU (((aU s 6:Nat):Int)) kR (bM oM oM));refine eV 31 34 (mV ((aU s 6)*281474976710656)) ?_ (hv:=fun _=>rU ((((aU s 6:Nat):Int)*281474976710656)) kR ((bM oM oM).trans oM));refine eV 32 35 (mV (aU s 0+aU s 1*256+aU s 2*65536+aU s 3*16777216+aU s 4*4294967296+aU s 5*1099511627776+aU s 6*281474976710656)) ?_ (hv:=fun _=>be (jC (t:=23) (u:=23) (x:=.tmp 30) (y:=.tmp 34) (a:=(aU s 0+aU s 1*256+aU s 2*65536+aU s 3*16777216+aU s 4*4294967296+aU s 5*1099511627776)) (b:=((aU s 6)*281474976710656)) kR kR kR oM oM _) (by rw[gV 48 oM];first|done|omega));refine eV 33 36 (.string s) (eV 34 37 (.int .u8 (aU s 7:Nat)) ?_ (hv:=fun _=>eg (tx:=9) (x:=.tmp 36) (i:=.const (iV 7)) (k:=.i64) (s:=s) (n:=7) (j:=(7:Int)) kR kR kR kR oM oM _));refine eV 35 38 (mV (aU s 7)) ?_ (hv:=fun _=>rU (((aU s 7:Nat):Int)) kR (bM oM oM));refine eV 36 39 (mV ((aU s 7)*72057594037927936)) ?_ (hv:=fun _=>rU ((((aU s 7:Nat):Int)*72057594037927936)) kR ((bM oM oM).trans oM));refine eV 37 40 (mV (aU s 0+aU s 1*256+aU s 2*65536+aU s 3*16777216+aU s 4*4294967296+aU s 5*1099511627776+aU s 6*281474976710656+aU s 7*72057594037927936)) ?_ (hv:=fun _=>be (jC (t:=23) (u:=23) (x:=.tmp 35) (y:=.tmp 39) (a:=(aU s 0+aU s 1*256+aU s 2*65536+aU s 3*16777216+aU s 4*4294967296+aU s 5*1099511627776+aU s 6*281474976710656)) (b:=((aU s 7)*72057594037927936)) kR kR kR oM oM _) (by rw[gV 56 oM];first|done|omega));exact bY c (fun w1 C c=>tV 38 2 (mV (aU s 0+aU s 1*256+aU s 2*65536+aU s 3*16777216+aU s 4*4294967296+aU s 5*1099511627776+aU s 6*281474976710656+aU s 7*72057594037927936)) (tN (kX (c.ret [] (mV (aU s 0+aU s 1*256+aU s 2*65536+aU s 3*16777216+aU s 4*4294967296+aU s 5*1099511627776+aU s 6*281474976710656+aU s 7*72057594037927936)) rfl))))
theorem Dl (A:Z9)(c:Nat)(l:List Nat)(D:l.length<=1099511627776)(C:l.length<=c)(w:World)(h:Hp)(g:G w h)(u:SlO 1 aj 0 h A l):CV 138 #[.slice A l.length c] w h (.slice A (tl l l.length) c):=by
 have a:=((sS g).aS u);refine go Tryz.func138 [(0,qS A l.length c)] rfl (aa a ac (af (kZ ?_)));refine cj _ (CG.loop (fun o Γ x=>∃ (m:Nat)(j:Hp),o=m/\Γ=[(2,sZ),(0,qS A m c)]/\SS w h x j [] [] [fun j=>SlO 1 aj 0 j A l]/\m<=l.length/\tl l l.length=tl l m) _ ⟨l.length,h,rfl,rfl,a.to _ _,nR _,rfl⟩ ?_);rintro _ _ w1 ⟨m,z,B,rfl,a,hm,p⟩;refine cQ (aa a [.c,.v (nV m)] ?_);cases d:(decide ((0:Int)<(m:Int)))
 .
  have e:=oF d;refine lB 5 d (lL a ac (lG 7 ?_));refine lG 8 (lG 9 (lG 10 (lG 11 (lG 12 (lG 13 (lL a [.v qF] (ah (CG.exit ?_))))))))
  show CG _ _ _ _ _ _ _ _
  exact aa a aK (ae a [] (qS A m c) (by rw[p,mY oM]))
 have e:=oT d;refine lB 5 d (lL a [.c,.c,.c,.v (nV m)] (bI 10 ((m:Nat)-1) (m-1) ?_));refine lX 11 A m c 1 (m-1:Nat) (m-1) ((a.f.1).ok oM) (lH 12 (mV (l.getD (m-1) 0)) a ((a.f.1).el (m-1) oM) ?_);cases b:(((l.getD (m-1) 0:Nat):Int) == (0:Int))
 .
  have i:=ag b;refine lB 13 b (lL a [.v qF] (ah (CG.exit ?_)))
  show CG _ _ _ _ _ _ _ _
  exact aa a aK (ae a [] (qS A m c) (by rw[p,mY oM]))
 have i:=eq_of_beq b;refine lB 13 b (lL a [.v qT] (au (cK (kZ (kQ (lL a [.c,.c,.v (nV m)] (bI 18 ((m:Nat)-1) (m-1) ?_)))))));refine lT 19 A m c 1 (m-1:Nat) (m-1) (lL a ac (lD ?_));intro F y;refine ⟨_,_,?_,⟨m-1,z,rfl,rfl,a.to _ _,oM,(by rw[p];exact wN oM oM)⟩,y.to _ kR⟩
 omega
theorem pn {l m:List Nat}(a:l.length=m.length)(h:∀ j,j<l.length->l.getD j 0=m.getD j 0):l=m:=by
 apply List.ext_getElem a
 intro i h1 b;have:=h i h1
 simpa [h1,b] using this
theorem oV {l m:List Nat}{i x:Nat}(hi:i<l.length)(h:∀ j,j<i->l.getD j 0=m.getD j 0)(a:x=m.getD i 0):∀ j,j<i+1->(l.set i x).getD j 0=m.getD j 0:=fun j b=>by
 rw[bG hi]
 split
 ·rename_i e;rw[<-e];exact a
 ·exact h j oM
def CH (h h1:Hp)(v:Value)(l:List Nat):Prop:=∃ b,v=.slice (some ⟨b,0,none⟩) l.length l.length/\h.size<=b/\h1[b]?=some (.cells (l.flatMap aj).toArray 23 (0,0))/\SlO 1 aj 0 h1 (some ⟨b,0,none⟩) l
theorem kI  (w:World)(h:Hp)(g:G w h):CV 134 #[nv 0] w h sZ:=by
 have a:=sS g;exact go Tryz.func134 [(0,nv 0)] rfl (aD (lA 1 25 ([uV 0,eS]) a (fun b w2 d a=>lL a ac (af (aa a [.v (qP b 1),.o (eS) 0 1 1,.v qT,.c,.v (pB b),.o (uV 0) 0 0 1,.v qT,.v qT] (au (aa a ac (ae a [] (sZ) rfl))))))))
theorem gX (s:ByteArray)(k:Nat):(s.extract k s.size).size=s.size-k:=by
 simp[ByteArray.size_extract]
theorem qj {n L:Nat}(a:0<L):∀ j,j<1->((yp L 0).set 0 (n%18446744073709551616)).getD j 0=(wds n).getD j 0:=fun j b=>by
 have:j=0:=by omega
 subst this;rw[bG (by simpa using a),if_pos rfl];have:=q7 n
 unfold lo at this
 exact Int.ofNat.inj this
theorem BA (n:Nat)(S:0<n)(hl:(wds n).length<=1000000000)(B:n<18446744073709551616)(w:World)(h:Hp)(g:G w h):CR 134 #[nv n] w h (fun v h1=>CH h h1 v (wds n)):=by
 have e:=sS g;have hz:=il n;have hp:=kh.2 S;have hlo:=lM B;have L:=congrArg List.length (jT S B)
 simp only[List.length_singleton] at L
 refine go Tryz.func134 [(0,nv n)] rfl (aD (lA 1 25 (nc n) e (fun p w2 h3 e=>lL e ac (af (aa e [.v (qP p 1),.o (.string (hi n)) 0 1 1] (lV 7 qT ?_ (hr:=rb kR (jJ (em B)))))))));refine lL e [.c,.v (pB p),.o (mV (n%18446744073709551616)) 0 0 1] ?_;have D:(((n%18446744073709551616:Nat):Int) == (0:Int))=false:=cD oM;have Q:=ag D;refine lB 11 D (lL e [.v qF] (ah (cK (aa e [.v (qP p 1),.o (.string (hi n)) 0 1 1,.v (nV ((hi n).size))] (lV 16 (nV (((hi n).size)/8)) ?_ (hr:=be (dD (t:=3) (u:=3) (x:=.tmp 15) (y:=.const (iV 8)) (k:=.i64) (a:=(((hi n).size:Nat):Int)) (b:=(8:Int)) kR kR kR oM _) (dl ((hi n).size) 8 oM)))))));refine bI 17 (1+(((hi n).size)/8:Nat)) ((wds n).length) (lK 18 23 ((wds n).length) 1 8 (uV 0) aj 0 e (fun z w6 h7 e=>?_));have M:(yp ((wds n).length) 0).length=((wds n).length):=by simp
 refine lL e ac (aR (lL e [.c,.v (pB p),.o (mV (n%18446744073709551616)) 1 0 1] (lX 22 (sB z) ((wds n).length) ((wds n).length) 1 0 0 rfl ?_)));refine lW 0 (yp ((wds n).length) 0) aj 1 0 (n%18446744073709551616) e oM (fun w9 e=>?_);have zc:((yp ((wds n).length) 0).set 0 (n%18446744073709551616)).length=((wds n).length):=by rw[Gx];exact M
 replace e:=e.to [⟨z,23,((yp ((wds n).length) 0).set 0 (n%18446744073709551616)).flatMap aj⟩,⟨p,25,nc n⟩] [];refine af (aa e ac (bh ?_));refine cj _ (CG.loop (fun K Γ W=>∃ (i:Nat)(l:List Nat)(h_:Hp),K=(wds n).length-i/\Γ=[(1,pB p),(2,sZ),(3,qS (sB z) ((wds n).length) ((wds n).length)),(4,nV i)]/\SS w h W h_ [⟨z,23,(l).flatMap aj⟩,⟨p,25,nc n⟩] [] []/\1<=i/\i<=(wds n).length/\l.length=(wds n).length/\(∀ j,j<i->l.getD j 0=(wds n).getD j 0)) _ ⟨1,(yp ((wds n).length) 0).set 0 (n%18446744073709551616),h7,rfl,rfl,e.to _ _,nR _,by omega,zc,qj oM⟩ ?_);rintro _ _ _ ⟨i,l,_,U,rfl,e,hi1,hi2,J,V⟩;refine cQ (aa e [.c,.c,.v (nV ((wds n).length))] ?_);cases I:(decide ((i:Int)<((((wds n).length):Nat):Int)))
 .
  have zb:=oF I;refine lB 26 I (ah (CG.exit ?_))
  show CG _ _ _ _ _ _ _ _
  refine aa e aK (lN (kX ?_));have Z:i=(wds n).length:=by omega
  have O:l=wds n:=pn oM (fun j hj=>V j oM);rw[O] at e
  obtain ⟨_,e,F,H,C⟩:=e.pub 0;replace e:=(e.to [⟨p,25,nc n⟩] []).aS (SlO.of_flat (sz:=1) (f:=aj) (d:=0) (b:=z) (o:=0) (l:=wds n) (fun _=>rfl) F);exact e.ret [] (qS (sB z) ((wds n).length) ((wds n).length)) (⟨z,rfl,H,C,e.f.1⟩)
 have zb:=oT I;refine lB 26 I (au (cK (cQ (kZ (kQ (lL e [.c,.c,.v (qP p 1),.o (.string (hi n)) 1 1 1,.c] (lI 34 ((i:Nat)-1) ?_)))))));refine bI 35 (8*((i:Nat)-1)) (8*(i-1)) (lV 36 (.string ((hi n).extract (8*(i-1)) (hi n).size)) ?_ (hr:=pA (tx:=9) (x:=.tmp 32) (i:=.tmp 35) (k:=.i64) (s:=hi n) (n:=(8*(i-1))) (j:=((8*(i-1):Nat):Int)) kR kR kR kR oM oM _));refine am 37 e (p6 ((hi n).extract (8*(i-1)) (hi n).size) (by rw[gX];omega) _ _ e.g) (fun _ X e=>lX 38 (sB z) ((wds n).length) ((wds n).length) 1 (i:Nat) i rfl (lW 0 l aj 1 i (wv ((hi n).extract (8*(i-1)) (hi n).size):Nat) e oM (fun _ e=>?_)));have zd:((l).set i (wv ((hi n).extract (8*(i-1)) (hi n).size):Nat)).length=((wds n).length):=by rw[Gx];exact J
 replace e:=e.to [⟨z,23,((l).set i (wv ((hi n).extract (8*(i-1)) (hi n).size):Nat)).flatMap aj⟩,⟨p,25,nc n⟩] [];refine lN (kQ (lL e ac (bI 28 ((i:Nat)+1) (i+1) ?_)));refine lL e ac (lD ?_);intro a_ Y;refine ⟨_,_,?_,⟨i+1,(l).set i (wv ((hi n).extract (8*(i-1)) (hi n).size):Nat),X,rfl,rfl,e.to _ _,oM,oM,zd,(oV oM V (by rw[iT n (i-1) oM,show i-1+1=i by omega]))⟩,Y.to _ kR⟩
 omega
theorem BK (n:Nat)(V:0<n)(hl:(wds n).length<=1000000000)(H:18446744073709551616<=n)(w:World)(h:Hp)(g:G w h):CR 134 #[nv n] w h (fun v h1=>CH h h1 v (wds n)):=by
 have e:=sS g;have hz:=il n;have hp:=kh.2 V;refine go Tryz.func134 [(0,nv n)] rfl (aD (lA 1 25 (nc n) e (fun p w2 h3 e=>lL e ac (af (aa e [.v (qP p 1),.o (.string (hi n)) 0 1 1] (lV 7 qF ?_ (hr:=rb kR (iF (eJ H)))))))));refine lL e ac (lG 9 ?_);refine lG 10 (lG 11 (lL e [.v qF] (ah (cK (aa e [.v (qP p 1),.o (.string (hi n)) 0 1 1,.v (nV ((hi n).size))] (lV 16 (nV (((hi n).size)/8)) ?_ (hr:=be (dD (t:=3) (u:=3) (x:=.tmp 15) (y:=.const (iV 8)) (k:=.i64) (a:=(((hi n).size:Nat):Int)) (b:=(8:Int)) kR kR kR oM _) (dl ((hi n).size) 8 oM))))))));refine bI 17 (1+(((hi n).size)/8:Nat)) ((wds n).length) (lK 18 23 ((wds n).length) 1 8 (uV 0) aj 0 e (fun z w5 Z e=>?_));have K:(yp ((wds n).length) 0).length=((wds n).length):=by simp
 refine lL e ac (aR (lL e [.c,.v (pB p),.o (mV (n%18446744073709551616)) 1 0 1] (lX 22 (sB z) ((wds n).length) ((wds n).length) 1 0 0 rfl ?_)));refine lW 0 (yp ((wds n).length) 0) aj 1 0 (n%18446744073709551616) e oM (fun w8 e=>?_);have L:((yp ((wds n).length) 0).set 0 (n%18446744073709551616)).length=((wds n).length):=by rw[Gx];exact K
 replace e:=e.to [⟨z,23,((yp ((wds n).length) 0).set 0 (n%18446744073709551616)).flatMap aj⟩,⟨p,25,nc n⟩] [];refine af (aa e ac (bh ?_));refine cj _ (CG.loop (fun J Γ S=>∃ (i:Nat)(l:List Nat)(h_:Hp),J=(wds n).length-i/\Γ=[(1,pB p),(2,sZ),(3,qS (sB z) ((wds n).length) ((wds n).length)),(4,nV i)]/\SS w h S h_ [⟨z,23,(l).flatMap aj⟩,⟨p,25,nc n⟩] [] []/\1<=i/\i<=(wds n).length/\l.length=(wds n).length/\(∀ j,j<i->l.getD j 0=(wds n).getD j 0)) _ ⟨1,(yp ((wds n).length) 0).set 0 (n%18446744073709551616),Z,rfl,rfl,e.to _ _,nR _,by omega,L,qj oM⟩ ?_);rintro _ _ _ ⟨i,l,_,O,rfl,e,hi1,hi2,I,Q⟩;refine cQ (aa e [.c,.c,.v (nV ((wds n).length))] ?_);cases F:(decide ((i:Int)<((((wds n).length):Nat):Int)))
 .
  have Y:=oF F;refine lB 26 F (ah (CG.exit ?_))
  show CG _ _ _ _ _ _ _ _
  refine aa e aK (lN (kX ?_));have W:i=(wds n).length:=by omega
  have M:l=wds n:=pn oM (fun j hj=>Q j oM);rw[M] at e
  obtain ⟨_,e,D,B,C⟩:=e.pub 0;replace e:=(e.to [⟨p,25,nc n⟩] []).aS (SlO.of_flat (sz:=1) (f:=aj) (d:=0) (b:=z) (o:=0) (l:=wds n) (fun _=>rfl) D);exact e.ret [] (qS (sB z) ((wds n).length) ((wds n).length)) (⟨z,rfl,B,C,e.f.1⟩)
 have Y:=oT F;refine lB 26 F (au (cK (cQ (kZ (kQ (lL e [.c,.c,.v (qP p 1),.o (.string (hi n)) 1 1 1,.c] (lI 34 ((i:Nat)-1) ?_)))))));refine bI 35 (8*((i:Nat)-1)) (8*(i-1)) (lV 36 (.string ((hi n).extract (8*(i-1)) (hi n).size)) ?_ (hr:=pA (tx:=9) (x:=.tmp 32) (i:=.tmp 35) (k:=.i64) (s:=hi n) (n:=(8*(i-1))) (j:=((8*(i-1):Nat):Int)) kR kR kR kR oM oM _));refine am 37 e (p6 ((hi n).extract (8*(i-1)) (hi n).size) (by rw[gX];omega) _ _ e.g) (fun _ X e=>lX 38 (sB z) ((wds n).length) ((wds n).length) 1 (i:Nat) i rfl (lW 0 l aj 1 i (wv ((hi n).extract (8*(i-1)) (hi n).size):Nat) e oM (fun _ e=>?_)));have zc:((l).set i (wv ((hi n).extract (8*(i-1)) (hi n).size):Nat)).length=((wds n).length):=by rw[Gx];exact I
 replace e:=e.to [⟨z,23,((l).set i (wv ((hi n).extract (8*(i-1)) (hi n).size):Nat)).flatMap aj⟩,⟨p,25,nc n⟩] [];refine lN (kQ (lL e ac (bI 28 ((i:Nat)+1) (i+1) ?_)));refine lL e ac (lD ?_);intro a_ U;refine ⟨_,_,?_,⟨i+1,(l).set i (wv ((hi n).extract (8*(i-1)) (hi n).size):Nat),X,rfl,rfl,e.to _ _,oM,oM,zc,(oV oM Q (by rw[iT n (i-1) oM,show i-1+1=i by omega]))⟩,U.to _ kR⟩
 omega
theorem fC (n:Nat)(b:0<n)(a:(wds n).length<=1000000000)(w:World)(h:Hp)(g:G w h):CR 134 #[nv n] w h (fun v h1=>CH h h1 v (wds n)):=by
 rcases eb n 18446744073709551616 with hs|hs
 ·exact BA n b a hs w h g
 ·exact BK n b a hs w h g
open Go.RowKit Go.Shelf
def uI:Go.Shelf.Ren:=⟨fun|167=>140|240=>163|276=>187|n=>n,fun|0=>0|4=>4|5=>5|9=>9|20=>20|37=>145|70=>211|72=>213|75=>216|164=>257|80=>218|n=>n,fun n=>n⟩
theorem BP:Go.Proofs.Lays.n167 Tryz.prog uI:={
 mixed:=by kernel_rfl
 f167:=Tryz.func140.trans (congrArg some kR)
 f240:=Tryz.func163.trans (congrArg some kR)
 f276:=Tryz.func187.trans (congrArg some kR)
 t0:=Tryz.underlying0
 a0:=Tryz.isAgg0
 z0:=Tryz.sizeOf0
 v0:=Tryz.zeroValue0
 t4:=Tryz.underlying4
 a4:=Tryz.isAgg4
 z4:=Tryz.sizeOf4
 v4:=Tryz.zeroValue4
 t5:=Tryz.underlying5
 a5:=Tryz.isAgg5
 z5:=Tryz.sizeOf5
 v5:=Tryz.zeroValue5
 t9:=Tryz.underlying9
 a9:=Tryz.isAgg9
 z9:=Tryz.sizeOf9
 v9:=Tryz.zeroValue9
 t20:=Tryz.underlying20
 a20:=Tryz.isAgg20
 z20:=Tryz.sizeOf20
 v20:=Tryz.zeroValue20
 t37:=Tryz.underlying145
 a37:=Tryz.isAgg145
 z37:=Tryz.sizeOf145
 v37:=Tryz.zeroValue145
 t70:=Tryz.underlying211
 a70:=Tryz.isAgg211
 z70:=Tryz.sizeOf211
 v70:=Tryz.zeroValue211
 t72:=Tryz.underlying213
 a72:=Tryz.isAgg213
 z72:=Tryz.sizeOf213
 v72:=Tryz.zeroValue213
 t75:=Tryz.underlying216
 a75:=Tryz.isAgg216
 z75:=Tryz.sizeOf216
 v75:=Tryz.zeroValue216
 t164:=Tryz.underlying257
 a164:=Tryz.isAgg257
 z164:=Tryz.sizeOf257
 v164:=Tryz.zeroValue257 }
theorem wK:Builder.Extra Tryz.prog uI:={
 sizeBuilder:=by kernel_rfl
 liesBuilder:=by kernel_rfl
 t5:=Tryz.underlying5
 a5:=Tryz.isAgg5
 z5:=Tryz.sizeOf5
 v5:=Tryz.zeroValue5
 infoByte:=by kernel_rfl
 cellsByte:=by kernel_rfl
 sizeByte:=by kernel_rfl
 neB5:=by decide }
theorem CQ (A:Z9)(c:Nat)(l:List Nat)(Y:Wd l)(hl:l.length<=1099511627776)(V:l.length<=c)(w:World)(h:Hp)(g:G w h)(hA:SlO 1 aj 0 h A l):CV 116 #[.slice A l.length c] w h (nv (aF l)):=by
 have d:=((sS g).aS hA);have htl:=iO l l.length;have hdl:(l.drop 1).length=l.length-1:=Am;refine go Tryz.func116 [(0,qS A l.length c)] rfl (aD (lA 2 25 ([uV 0,eS]) d (fun O w2 h3 d=>aR (lL d ac (am 8 d (Dl A c l hl V _ _ d.g d.f.1) (fun w4 h5 d=>lL d ac (af (aa d [.c,.v (nV (tl l l.length))] (bh (aD ?_))))))))));cases C:((((tl l l.length):Nat):Int) == (0:Int))
 .
  have J:=ag C;refine lB 12 C (lL d ac (ah (aD ?_)));cases z:((((tl l l.length):Nat):Int) == (1:Int))
  .
   have I:=ag z;refine lB 15 z (lL d ac (ah (cK (aD ?_))));have i:=d;refine Jh 3 213 [.pointer none,sZ] d (fun w8 e Z S=>?_);obtain ⟨h9,d,-⟩:=i.liftJ e;refine aR (lL d [.c,.v (nV (tl l l.length))] (bI 22 (((tl l l.length):Nat)-1) ((tl l l.length)-1) ?_));refine bI 23 (8*((tl l l.length)-1:Nat)) (8*((tl l l.length)-1)) (I4 24 i e (Tryz.Builder_Grow_fresh w4.heap.size w4.heap.size (8*((tl l l.length)-1):Nat) _ (nR _) S Z oM) (fun _ ze d p D=>?_))
   clear e
   have e:=p;clear p;have B:Lib.IsBuilder 213 5 w4.heap.size w4.heap.size (Lib.byteCells (((l.drop 1).take 0).flatMap b8)) _:=.inr D;refine af (aa d ac (lF 26 A (tl l l.length) c 1 1 1 ?_));replace d:=d.aS (d.f.1.drop 1 c V);replace i:=i.aS (i.f.1.drop 1 c V);refine lL d [.v (nV ((tl l l.length)-1)),.c] (bh ?_);refine cj _ (CG.loop (fun H Γ F=>∃ (k:Nat)(j:Hp),H=(tl l l.length)-k/\Γ=[(0,qS A (tl l l.length) c),(2,pB O),(3,.pointer (some ⟨w4.heap.size,0,none⟩)),(26,qS (if c=1 then A else A.map (·.add (1*1))) ((tl l l.length)-1) (c-1)),(27,nV ((tl l l.length)-1)),(28,nV k)]/\SS w h F j [⟨O,25,[uV 0,eS]⟩] [] [fun j=>SlO 1 aj 0 j (if c=1 then A else A.map (·.add (1*1))) (l.drop 1),fun j=>SlO 1 aj 0 j A l]/\k<=(tl l l.length)-1/\Ext w4 F/\Lib.IsBuilder 213 5 w4.heap.size w4.heap.size (Lib.byteCells (((l.drop 1).take k).flatMap b8)) F) _ ⟨0,ze,rfl,rfl,d.to _ _,JL _,e,B⟩ ?_);rintro _ _ zf ⟨k,zg,bb,rfl,d,hk,e,B⟩;have hxk:(l.drop 1).getD k 0<18446744073709551616:=Dg.getD (Dg.drop Y 1) kD k;refine aD ?_;cases M:(decide ((k:Int)<(((tl l l.length)-1:Nat):Int)))
   .
    have zc:=oF M;refine lB 29 M (af (cW (CG.exit ?_)))
    show CG _ _ _ _ _ _ _ _
    refine cQ (mq ⟨Bc w4.heap.size zf.heap.size,none⟩ 5 mixed ?_);obtain ⟨_,d,hj⟩:=i.liftJ e.drew;refine aV 0 43 (qS A (tl l l.length) c) (aX 1 44 A (tl l l.length) c 1 0 0 ((d.f.2.1).ok oM) (aH 2 45 (mV (l.getD 0 0)) d ((d.f.2.1).el 0 oM) ?_ (fun b hb=>hj b (kT.1 hb).1 (kT.1 hb).2)));refine aC 3 46 ((Tryz.Builder_String_any w4.heap.size w4.heap.size (((l.drop 1).take k).flatMap b8) _ (rq B ((Ext.refl _).drew)) e.size).mono fun e_ _ ⟨W,K⟩=>⟨_,W,wZ K,?_⟩);obtain ⟨_,d,-⟩:=i.liftJ (Below.trans e.drew K);refine aV 4 47 (.agg #[mV (l.getD 0 0),.string (⟨(((l.drop 1).take k).flatMap b8).toArray⟩)]) (tP 5 0 0 ([mV (l.getD 0 0),.string (⟨(((l.drop 1).take k).flatMap b8).toArray⟩)]) d (fun _ d=>tN (kX ?_)));have X:k=(tl l l.length)-1:=by omega
    exact d.ret [(0,0,2)] (.agg #[mV (l.getD 0 0),.string (⟨(((l.drop 1).take k).flatMap b8).toArray⟩)]) (by rw[X];exact AO Y oM)
   have zc:=oT M;refine lB 29 M (af (cl (cK (cQ (kZ (aD (lX 30 (if c=1 then A else A.map (·.add (1*1))) ((tl l l.length)-1) (c-1) 1 (k:Nat) k ((d.f.1).ok oM) ?_)))))));refine lH 31 (mV ((l.drop 1).getD k 0)) d ((d.f.1).el k oM) (lL d ac (aR (lL d ac (bh ?_))));refine cj _ (CG.loop (fun H Γ F=>∃ (m:Nat)(j:Hp),H=8-m/\Γ=[(0,qS A (tl l l.length) c),(2,pB O),(3,.pointer (some ⟨w4.heap.size,0,none⟩)),(26,qS (if c=1 then A else A.map (·.add (1*1))) ((tl l l.length)-1) (c-1)),(27,nV ((tl l l.length)-1)),(28,nV k),(5,mV ((l.drop 1).getD k 0)),(32,nV m)]/\SS w h F j [⟨O,25,[uV 0,eS]⟩] [] [fun j=>SlO 1 aj 0 j (if c=1 then A else A.map (·.add (1*1))) (l.drop 1),fun j=>SlO 1 aj 0 j A l]/\m<=8/\Ext w4 F/\Lib.IsBuilder 213 5 w4.heap.size w4.heap.size (Lib.byteCells (((l.drop 1).take k).flatMap b8++(b8 ((l.drop 1).getD k 0)).take m)) F) _ ⟨0,zg,rfl,rfl,d.to _ _,JL _,e,(by simpa using B)⟩ ?_);rintro _ _ _ ⟨m,zi,bd,rfl,d,hm,e,o⟩;refine aD ?_;cases Q:(decide ((m:Int)<(8:Int)))
   .
    have zd:=oF Q;refine lB 33 Q (af (cW (CG.exit ?_)))
    show CG _ _ _ _ _ _ _ _
    refine kQ (bI 42 ((k:Nat)+1) (k+1) ?_);refine lL d ac (lD ?_);intro a_ U;refine ⟨_,_,?_,⟨k+1,zi,rfl,rfl,d.to _ _,oM,e,(by rw[show m=8 by omega,uu oM] at o;exact o)⟩,U.to _ kR⟩
    omega
   have zd:=oT Q;refine lB 33 Q (af (cl (cK (cQ (kZ (aa d aK (lN (kQ (lL d aK (bI 37 (8*(m:Nat)) (8*m) ?_))))))))));refine lV 38 (mV (((l.drop 1).getD k 0)/2^(8*m))) ?_ (hr:=gm (t:=23) (u:=3) (x:=.tmp 35) (y:=.tmp 37) (ky:=.i64) (a:=((l.drop 1).getD k 0)) (n:=(8*m)) kR kR kR oM _);refine lV 39 (.int .u8 ((((l.drop 1).getD k 0)/2^(8*m):Nat)%256:Nat)) ?_ (hr:=be (n:=IntKind.wrap .u8 ((((l.drop 1).getD k 0)/2^(8*m):Nat):Int)) kR (AB _));refine I4 40 i e (Any.Builder_WriteByte BP wK w4.heap.size w4.heap.size _ ((((l.drop 1).getD k 0)/2^(8*m)%256:Nat):Int) _ o (t8 oM oM oM) e.size) (fun _ zj d p D=>?_)
   clear e
   have e:=p;clear p;rw[q9 oM] at D
   have L:Lib.IsBuilder 213 5 w4.heap.size w4.heap.size _ _:=.inr D;refine lN (kQ (bI 41 ((m:Nat)+1) (m+1) ?_));refine lL d ac (lD ?_);intro a_ U;refine ⟨_,_,?_,⟨m+1,zj,rfl,rfl,d.to _ _,oM,e,L⟩,U.to _ kR⟩
   omega
  have I:=eq_of_beq z;refine lB 15 z (lL d ac (au (aa d ac (lX 17 A (tl l l.length) c 1 0 0 ((d.f.1).ok oM) ?_))));exact lH 18 (mV (l.getD 0 0)) d ((d.f.1).el 0 oM) (lL d [.v (.agg #[mV (l.getD 0 0),eS])] (lP 0 0 ([mV (l.getD 0 0),eS]) d (fun _ d=>ae d [(0,0,2)] (.agg #[mV (l.getD 0 0),eS]) (Fc Y oM))))
 have J:=eq_of_beq C;exact lB 12 C (lL d ac (au (aa d [.v (.agg #[uV 0,eS])] (lP 0 0 ([uV 0,eS]) d (fun _ d=>ae d [(0,0,2)] (.agg #[uV 0,eS]) (Cn oM))))))
theorem HF (n:Nat)(b:n<18446744073709551616)(w:World)(h:Hp)(g:G w h):CV 65 #[mV n] w h (nv n):=by
 have a:=sS g;exact go Tryz.func65 [(0,mV n)] rfl (aD (lA 2 25 ([uV 0,eS]) a (fun d w2 e a=>aR (lL a [.c,.v (.agg #[mV n,eS])] (lP 0 0 ([mV n,eS]) a (fun w4 a=>ae a [(0,0,2)] (.agg #[mV n,eS]) (iR b)))))))
theorem sn (n:Nat)(d:n<18446744073709551616)(w:World)(h:Hp)(g:G w h):CV 136 #[nv n] w h (.tuple #[mV n,.bool true]):=by
 have a:=sS g;refine go Tryz.func136 [(0,nv n)] rfl (aD (lA 1 25 (nc n) a (fun b w2 e a=>lL a aK (af (aa a [.v (qP b 1),.o (.string (hi n)) 0 1 1] (lV 6 qF ?_ (hr:=rb kR (GS (em d)))))))));exact ah (cK (aa a [.v (pB b),.o (mV (n%18446744073709551616)) 0 0 1,.c,.c] (ae a [] (.tuple #[mV (n%18446744073709551616),qT]) (by rw[yr d]))))
theorem AA (n:Nat)(c:18446744073709551616<=n)(w:World)(h:Hp)(g:G w h):CV 136 #[nv n] w h (.tuple #[uV 0,.bool false]):=by
 have a:=sS g;refine go Tryz.func136 [(0,nv n)] rfl (aD (lA 1 25 (nc n) a (fun b w2 d a=>lL a aK (af (aa a [.v (qP b 1),.o (.string (hi n)) 0 1 1] (lV 6 qT ?_ (hr:=rb kR (FW (eJ c)))))))));exact au (aa a aK (ae a [] (.tuple #[uV 0,qF]) rfl))
theorem Di (a b:Nat)(w:World)(h:Hp)(g:G w h):CV 105 #[mV a,mV b] w h (iV (bV a b)):=by
 have c:=sS g;refine go Tryz.func105 [(0,mV a),(1,mV b)] rfl (aa c ac (af (kZ (aa c aK ?_))));cases d:(decide ((a:Int)<(b:Int)))
 .
  have f:=oF d;refine lB 8 d (lL c ac (ah (aa c aK ?_)));cases e:(decide ((b:Int)<(a:Int)))
  .
   have i:=oF e;exact lB 12 e (lL c ac (ah (cK (aa c ac (ae c [] (iV 0) (by rw[io oM]))))))
  have i:=oT e;exact lB 12 e (lL c ac (au (aa c ac (ae c [] (iV 1) (by rw[eZ oM])))))
 have f:=oT d;exact lB 8 d (lL c ac (au (aa c ac (ae c [] (iV (-1)) (by rw[dw oM])))))
theorem Du (n:Nat)(c:n<18446744073709551616)(w:World)(h:Hp)(g:G w h):CV 58 #[nv n] w h (nV (nb n)):=by
 have a:=sS g;refine go Tryz.func58 [(0,nv n)] rfl (aD (lA 1 25 (nc n) a (fun b w2 e a=>lL a ac (af (aa a [.v (qP b 1),.o (.string (hi n)) 0 1 1] (lV 5 qT ?_ (hr:=rb kR (jJ (em c)))))))));exact au (aa a [.v (pB b),.o (mV (n%18446744073709551616)) 0 0 1] (am 8 a (xp (n%18446744073709551616) wM _ _ a.g) (fun w4 d a=>lL a ac (ae a [] (nV (nb (n%18446744073709551616))) (by rw[yr c])))))
theorem Ec (n:Nat)(d:18446744073709551616<=n)(B:(wds n).length<=1000000000)(w:World)(h:Hp)(g:G w h):CV 58 #[nv n] w h (nV (nb n)):=by
 have a:=sS g;have hz:=il n;have u:=cG d;refine go Tryz.func58 [(0,nv n)] rfl (aD (lA 1 25 (nc n) a (fun b w2 y a=>lL a ac (af (aa a [.v (qP b 1),.o (.string (hi n)) 0 1 1] (lV 5 qF ?_ (hr:=rb kR (iF (eJ d)))))))));refine ah (cK (cQ (cR 14 [] mixed a aq ?_)));refine eV 0 9 (qP b 1) (eO 1 10 [(0,1,1)] (.string (hi n)) a (eV 2 11 (nV ((hi n).size)) (mt 3 12 (8*((hi n).size:Nat)) (8*(hi n).size) (eV 4 13 (qP b 1) (eO 5 14 [(0,1,1)] (.string (hi n)) a (eV 6 15 (qP b 1) (eO 7 16 [(0,1,1)] (.string (hi n)) a (eV 8 17 (nV ((hi n).size)) (mt 9 18 (((hi n).size:Nat)-8) (8*((wds n).length-2)) (eV 10 19 (.string ((hi n).extract (8*((wds n).length-2):Nat) (hi n).size)) ?_ (hv:=fun _=>pA (tx:=9) (x:=.tmp 14) (i:=.tmp 18) (k:=.i64) (s:=hi n) (n:=(8*((wds n).length-2):Nat)) (j:=((8*((wds n).length-2):Nat):Int)) kR kR kR kR oM oM _)))))))))));refine ai 11 20 a (fun _ _ a=>p6 ((hi n).extract (8*((wds n).length-2):Nat) (hi n).size) (by rw[gX];omega) _ _ a.g) (fun w4 D a=>ai 12 21 a (fun _ _ a=>xp (wv ((hi n).extract (8*((wds n).length-2):Nat) (hi n).size):Nat) wM _ _ a.g) (fun l z a=>?_));have e:=iT n ((wds n).length-2) oM;rw[show (wds n).length-2+1=(wds n).length-1 by omega] at e
 have c:=xP (n:=n) oM;have f:nb (wv ((hi n).extract (8*((wds n).length-2)) (hi n).size))<=64:=kK (k:=64) (Dq _);rw[<-e] at c
 exact mt 13 22 ((8*(hi n).size:Nat)+(nb (wv ((hi n).extract (8*((wds n).length-2):Nat) (hi n).size):Nat):Nat)) (nb n) (bY a (fun p C a=>tV 14 2 (nV (nb n)) (tN (kX (a.ret [] (nV (nb n)) rfl)))))
theorem fg (n:Nat)(a:(wds n).length<=1000000000)(w:World)(h:Hp)(g:G w h):CV 58 #[nv n] w h (nV (nb n)):=by
 rcases eb n 18446744073709551616 with hs|hs
 ·exact Du n hs w h g
 ·exact Ec n hs a w h g
theorem lf (a b:Nat)(V:(wds a).length<=1000000000)(X:(wds b).length<=1000000000)(w:World)(h:Hp)(g:G w h):CV 63 #[nv a,nv b] w h (iV (bV a b)):=by
 have c:=sS g;have U:=il a;have K:=il b;refine go Tryz.func63 [(0,nv a),(1,nv b)] rfl (aD (lA 2 25 (nc a) c (fun f w2 h3 c=>lA 3 25 (nc b) c (fun l w5 Y c=>lL c ac (af (aa c [.v (qP f 1),.o (.string (hi a)) 1 1 1,.v (nV ((hi a).size)),.v (qP l 1),.o (.string (hi b)) 0 1 1,.v (nV ((hi b).size))] ?_))))));cases d:((((hi a).size:Nat):Int) != (((hi b).size:Nat):Int))
 .
  have p:=aY d;refine lB 14 d (ah (cK (cQ (aa c [.v (qP f 1),.o (.string (hi a)) 1 1 1,.v (nV ((hi a).size))] (lV 25 (iV (8*(((wds a).length-1:Nat):Int)-8)) ?_ (hr:=rS ((((hi a).size:Nat)-8)) kR ((gj oM oM).trans oM)))))));refine lL c ac (bh ?_);refine cj _ (CG.loop (fun D Γ L=>∃ (m:Nat)(h_:Hp),D=m/\Γ=[(2,pB f),(3,pB l),(5,iV (8*(m:Int)-8))]/\SS w h L h_ [⟨l,25,nc b⟩,⟨f,25,nc a⟩] [] []/\m<=(wds a).length-1/\(wds a).length-1=(wds b).length-1/\(wds a).drop (m+1)=(wds b).drop (m+1)) _ ⟨(wds a).length-1,Y,rfl,rfl,c.to _ _,nR _,oM,(by rw[Jz oM,Jz oM])⟩ ?_);rintro _ _ Z ⟨m,h9,J,rfl,c,hm,u,e⟩;refine cQ (aa c ac ?_);cases y:(decide ((0:Int)<=(8*(m:Int)-8:Int)))
  .
   have W:=oF y;refine lB 27 y (ah (CG.exit ?_))
   show CG _ _ _ _ _ _ _ _
   exact aa c [.v (pB f),.o (mV (a%18446744073709551616)) 1 0 1,.v (pB l),.o (mV (b%18446744073709551616)) 0 0 1] (am 50 c (Di (a%18446744073709551616) (b%18446744073709551616) _ _ c.g) (fun _ _ c=>lL c ac (ae c [] (iV (bV (a%18446744073709551616) (b%18446744073709551616))) (by rw[pD (a:=a) (b:=b) oM (by have F:m=0:=oM;rw[F] at e;exact e)]))))
  have W:=oT y;refine lB 27 y (au (cK (cQ (kZ (cQ ?_)))));have I:=c;refine CJ 10 [] [] mixed c aq (eV 0 30 (qP f 1) (eO 1 31 [(1,1,1)] (.string (hi a)) c (eV 2 32 (iV (8*(m:Int)-8)) (eV 3 33 (.string ((hi a).extract (8*(m-1)) (hi a).size)) ?_ (hv:=fun _=>pA (tx:=9) (x:=.tmp 31) (i:=.tmp 32) (k:=.i64) (s:=hi a) (n:=8*(m-1)) (j:=(8*(m:Int)-8:Int)) kR kR kR kR oM oM _)))));refine eV 5 35 (qP l 1) (vf 6 36 [(0,1,1)] (.string (hi b)) I c (eV 7 37 (iV (8*(m:Int)-8)) (eV 8 38 (.string ((hi b).extract (8*(m-1)) (hi b).size)) ?_ (hv:=fun _=>pA (tx:=9) (x:=.tmp 36) (i:=.tmp 37) (k:=.i64) (s:=hi b) (n:=8*(m-1)) (j:=(8*(m:Int)-8:Int)) kR kR kR kR oM oM _))));refine ai 4 34 c (fun _ _ c=>p6 ((hi a).extract (8*(m-1)) (hi a).size) (by rw[gX];omega) _ _ c.g) (fun _ _ c=>ai 9 39 c (fun _ _ c=>p6 ((hi b).extract (8*(m-1)) (hi b).size) (by rw[gX];omega) _ _ c.g) (fun _ _ c=>bY c (fun _ S c=>tV 10 6 (mV (wv ((hi a).extract (8*(m-1)) (hi a).size))) (tV 11 7 (mV (wv ((hi b).extract (8*(m-1)) (hi b).size))) (xL ?_)))));have C:=iT a (m-1) oM;have H:=iT b (m-1) oM;rw[show m-1+1=m by omega] at C H
  refine lL c aK ?_;cases z:(((wv ((hi a).extract (8*(m-1)) (hi a).size):Nat):Int) != ((wv ((hi b).extract (8*(m-1)) (hi b).size):Nat):Int))
  .
   have M:=aY z;refine lB 42 z (ah (cK (kQ (lL c ac (lV 29 (iV (8*((m-1:Nat):Int)-8)) ?_ (hr:=rS (((8*(m:Int)-8)-8)) kR ((gj oM oM).trans oM)))))));refine lL c ac (lD ?_);intro a_ O;refine ⟨_,_,?_,⟨m-1,S,rfl,rfl,c.to _ _,oM,u,(by rw[show m-1+1=m by omega];exact eN oM oM e oM)⟩,O.to _ kR⟩
   omega
  have M:=a6 z;exact lB 42 z (au (aa c aK (am 45 c (Di (wv ((hi a).extract (8*(m-1)) (hi a).size):Nat) (wv ((hi b).extract (8*(m-1)) (hi b).size):Nat) _ _ c.g) (fun _ _ c=>lL c ac (ae c [] (iV (bV (wv ((hi a).extract (8*(m-1)) (hi a).size):Nat) (wv ((hi b).extract (8*(m-1)) (hi b).size):Nat))) (by rw[iT a (m-1) oM,iT b (m-1) oM,show m-1+1=m by omega];exact congrArg (Value.int .i64) (kw oM oM e oM)))))))
 have p:=a6 d;refine lB 14 d (au (cQ (aa c [.v (qP f 1),.o (.string (hi a)) 1 1 1,.v (nV ((hi a).size)),.v (qP l 1),.o (.string (hi b)) 0 1 1,.v (nV ((hi b).size))] ?_)));cases B:(decide ((((hi a).size:Nat):Int)<(((hi b).size:Nat):Int)))
 .
  have Q:=oF B;exact lB 21 B (ah (cK (aa c ac (ae c [] (iV 1) (by rw[eZ (fO oM)])))))
 have Q:=oT B;exact lB 21 B (au (aa c ac (ae c [] (iV (-1)) (by rw[dw (fO oM)]))))
theorem vo (hi lo y:Nat)(Z:hi<y)(hy:y<18446744073709551616)(hlo:lo<18446744073709551616)(w:World)(h:Hp)(g:G w h):CR 180 #[mV hi,mV lo,mV y] w h (fun v _=>∃ q r:Nat,v=.tuple #[uV q,uV r]/\hi*18446744073709551616+lo=y*q+r/\r<y/\q<18446744073709551616):=by
 have c:=sS g;refine go Tryz.func180 [(0,mV hi),(1,mV lo),(2,mV y)] rfl (aa c aK (af (aa c ac ?_)));have Q:((y:Int) == (0:Int))=false:=cD oM;have bf:=ag Q;refine lB 20 Q (ah (cK (cQ (aa c aK ?_))));have ⟨hb2,bm⟩:=dF (p:=(y:Int)<=(hi:Int)) oM;refine lB 24 hb2 (ah (cK (cQ (aa c ac ?_))));cases D:((hi:Int) == (0:Int))
 .
  have bb:=ag D;refine lB 27 D (ah (cK (aa c ac (am 35 c (Do y wM _ _ c.g) (fun w4 h5 c=>?_)))));obtain ⟨s,hsd⟩:∃ e,e=64-nb y:=⟨_,rfl⟩;refine lV 36 (mV s) ?_ (hr:=be (be (n:=IntKind.wrap .u64 ((64-nb y:Nat):Int)) kR (bM oM oM)) (by rw[hsd]));refine lL c ac (aR (lL c aK ?_));obtain ⟨Y,hY⟩:∃ e,e=y*2^s:=⟨_,rfl⟩;have hn:=rH (y:=y) oM oM;rw[<-hsd,<-hY] at hn
  refine lV 39 (mV Y) ?_ (hr:=be (ig (t:=23) (u:=151) (x:=.tmp 37) (y:=.tmp 38) (ky:=.u64) (a:=y) (n:=s) kR kR kR _) (by rw[<-hY,yr hn.2]));refine lL c ac (aR (lL c ac ?_));obtain ⟨y1,hy1⟩:∃ e,e=Y/4294967296:=⟨_,rfl⟩;refine lV 41 (mV y1) ?_ (hr:=be (be (n:=JH (Y:Int) 4294967296) kR (kF _ 4294967296)) (by rw[hy1]));refine lL c ac (aR (lL c ac ?_));obtain ⟨y0,hy0⟩:∃ e,e=Y%4294967296:=⟨_,rfl⟩;refine lV 43 (mV y0) ?_ (hr:=be (xj (t:=23) (u:=23) (x:=.tmp 42) (y:=.const (uV 4294967295)) (a:=Y) (m:=4294967295) 32 kR kR kR oM kD _) (by rw[hy0]));refine lL c ac (aR (lL c aK ?_));have hhi:hi*2^s<Y:=by rw[hY];exact D0 Z (y5 s)
  obtain ⟨J,hsl⟩:=BI (hi:=hi) (lo:=lo) (s:=s) oM hlo;have hdl:=yN lo (2^(64-s));have d:Y=y1*4294967296+y0:=by omega
  refine lV 46 (mV (hi*2^s)) ?_ (hr:=be (ig (t:=23) (u:=151) (x:=.tmp 44) (y:=.tmp 45) (ky:=.u64) (a:=hi) (n:=s) kR kR kR _) (by rw[yr oM]));refine lL c aK (lV 49 (mV (64-s)) ?_ (hr:=rU (((64:Int)-(s:Int))) kR (gd 64 s oM oM)));refine lV 50 (mV (lo/2^(64-s))) ?_ (hr:=gm (t:=23) (u:=151) (x:=.tmp 47) (y:=.tmp 49) (ky:=.u64) (a:=lo) (n:=(64-s)) kR kR kR oM _);obtain ⟨u32,hu32⟩:∃ e,e=hi*2^s+lo/2^(64-s):=⟨_,rfl⟩;rw[<-hu32] at J
  have B:u32<Y:=by
    have e2:(hi+1)*2^s<=y*2^s:=ym _ Z;rw[z7,Ab,<-hY] at e2
    omega
  refine lV 51 (mV u32) ?_ (hr:=be (jC (t:=23) (u:=23) (x:=.tmp 46) (y:=.tmp 50) (a:=(hi*2^s)) (b:=(lo/2^(64-s))) kR kR kR oM oM _) (by rw[hu32,Nat.or_comm,gV s hsl,yg]));refine lL c ac (aR (lL c aK ?_));obtain ⟨u10,hu10⟩:∃ e,e=lo*2^s%18446744073709551616:=⟨_,rfl⟩;rw[<-hu10] at J
  have bd:u10<18446744073709551616:=by omega
  refine lV 54 (mV u10) ?_ (hr:=be (ig (t:=23) (u:=151) (x:=.tmp 52) (y:=.tmp 53) (ky:=.u64) (a:=lo) (n:=s) kR kR kR _) (by rw[hu10]));refine lL c ac (aR (lL c ac ?_));obtain ⟨u1,hu1⟩:∃ e,e=u10/4294967296:=⟨_,rfl⟩;refine lV 56 (mV u1) ?_ (hr:=be (be (n:=JH (u10:Int) 4294967296) kR (kF _ 4294967296)) (by rw[hu1]));refine lL c ac (lN (cj [(2,mV Y),(6,uV 0),(7,uV 0),(8,mV s),(9,mV y1),(10,mV y0),(11,mV u32),(12,mV u10),(13,mV u1)] ?_));refine aa c ac ?_;obtain ⟨u0,hu0⟩:∃ e,e=u10%4294967296:=⟨_,rfl⟩;refine lV 58 (mV u0) ?_ (hr:=be (xj (t:=23) (u:=23) (x:=.tmp 57) (y:=.const (uV 4294967295)) (a:=u10) (m:=4294967295) 32 kR kR kR oM kD _) (by rw[hu0]));refine lL c ac (aR (lL c aK ?_));have K:=kS (Y:=Y) (y1:=y1) (y0:=y0) (u:=u32) (u1:=u1) d oM oM oM B;have hR0:=nk (u:=u32) (y1:=y1) oM;have hM0:=A5 u32 y1;obtain ⟨qa,hqa⟩:∃ e,e=u32/y1:=⟨_,rfl⟩;rw[<-hqa] at K hR0 hM0
  refine lV 61 (mV qa) ?_ (hr:=be (be (dD (t:=23) (u:=23) (x:=.tmp 59) (y:=.tmp 60) (k:=.u64) (a:=(u32:Int)) (b:=(y1:Int)) kR kR kR oM _) (kO u32 y1 oM)) (by rw[hqa]));refine lL c ac (aR (lL c fE (lV 65 (mV (qa*y1)) ?_ (hr:=rU (((qa:Int)*(y1:Int))) kR (k9 qa y1 oM)))));obtain ⟨ra,hra⟩:∃ e,e=u32-qa*y1:=⟨_,rfl⟩;rw[<-hra] at K hR0
  refine lV 66 (mV ra) ?_ (hr:=be (be (n:=IntKind.wrap .u64 ((u32:Int)-((qa*y1:Nat):Int))) kR (gd u32 (qa*y1) oM oM)) (by rw[hra]));refine lL c ac (lN (CG.join (fun Γ I=>∃ (j:Nat)(h_:Hp),Γ=[(2,mV Y),(6,uV 0),(7,uV 0),(8,mV s),(9,mV y1),(10,mV y0),(11,mV u32),(13,mV u1),(14,mV u0),(15,mV j)]/\SS w h I h_ [] [] []/\j=(u32*4294967296+u1)/Y/\(u32*4294967296+u1)-j*Y=(u32*4294967296+u1)%Y/\j*Y<=u32*4294967296+u1) ?_ ?_))
  .
   refine kZ ?_;refine cj _ (CG.loop (fun L Γ I=>∃ (q:Nat)(r:Nat)(h_:Hp),L=q/\Γ=[(2,mV Y),(6,uV 0),(7,uV 0),(8,mV s),(9,mV y1),(10,mV y0),(11,mV u32),(13,mV u1),(14,mV u0),(15,mV q),(16,mV r)]/\SS w h I h_ [] [] []/\HalfQ Y y1 y0 u32 u1 q r/\r<4294967296) _ ⟨qa,ra,h5,rfl,rfl,c.to _ _,K,oM⟩ ?_);rintro _ _ w6 ⟨q,r,h7,hm8,rfl,c,M,hr⟩;have bn:=M.qb;refine cQ (aa c ac ?_);cases F:(decide ((4294967296:Int)<=(q:Int)))
   .
    have V:=oF F;refine lB 68 F (lL c fE (lV 72 (mV (q*y0)) ?_ (hr:=rU (((q:Int)*(y0:Int))) kR (k9 q y0 (Dn oM oM)))));refine lL c ac (lV 74 (mV (4294967296*r)) ?_ (hr:=rU (((4294967296:Int)*(r:Int))) kR (k9 4294967296 r oM)));refine lL c ac (lV 76 (mV ((4294967296*r)+u1)) ?_ (hr:=rU ((((4294967296*r:Nat):Int)+(u1:Int))) kR (iM (4294967296*r) u1 oM)));cases za:(decide ((((4294967296*r)+u1:Nat):Int)<((q*y0:Nat):Int)))
    .
     have zj:=oF za;refine lB 77 za (lL c [.v qF] (ah (CG.exit ?_)));intro C i;exact ⟨_,⟨q,h7,rfl,c.to _ _,(by first|exact M.fin d oM|exact l.brk d oM oM (by have:=l.qb;omega))⟩,i.to _ kR⟩
    have zj:=oT za;refine lB 77 za (lL c [.v qT] (au (cK (kZ (aa c ac ?_)))));have hq1:0<q:=by first|omega|exact dO (show 4294967296*r+u1<q*y0 by omega)
    have l:=M.dec d oM B (by first|exact .inl oM|exact .inr oM);refine lV 80 (mV (q-1)) ?_ (hr:=rU (((q:Int)-(1:Int))) kR (gd q 1 oM oM));refine lL c ac (aR (lL c aK (lV 83 (mV (r+y1)) ?_ (hr:=rU (((r:Int)+(y1:Int))) kR (iM r y1 oM)))));refine lL c ac (aR (lL c ac ?_));cases zb:(decide ((4294967296:Int)<=((r+y1:Nat):Int)))
    .
     have zk:=oF zb;refine lB 85 zb (ah (CG.skip ?_));intro C i;refine ⟨_,_,?_,⟨q-1,r+y1,h7,rfl,rfl,c.to _ _,l,oM⟩,i.to _ kR⟩
     omega
    have zk:=oT zb;refine lB 85 zb (au (CG.exit ?_));intro C i;exact ⟨_,⟨(q-1),h7,rfl,c.to _ _,(by first|exact M.fin d oM|exact l.brk d oM oM (by have:=l.qb;omega))⟩,i.to _ kR⟩
   have V:=oT F;refine lB 68 F (lL c ac (lG 70 ?_));refine lG 71 (lG 72 (lG 73 (lG 74 (lG 75 (lG 76 (lG 77 (lL c [.v qT] (au (cK (kZ (aa c ac ?_)))))))))));have hq1:0<q:=by first|omega|exact dO (show 4294967296*r+u1<q*y0 by omega)
   have l:=M.dec d oM B (by first|exact .inl oM|exact .inr oM);refine lV 80 (mV (q-1)) ?_ (hr:=rU (((q:Int)-(1:Int))) kR (gd q 1 oM oM));refine lL c ac (aR (lL c aK (lV 83 (mV (r+y1)) ?_ (hr:=rU (((r:Int)+(y1:Int))) kR (iM r y1 oM)))));refine lL c ac (aR (lL c ac ?_));cases zc:(decide ((4294967296:Int)<=((r+y1:Nat):Int)))
   .
    have zl:=oF zc;refine lB 85 zc (ah (CG.skip ?_));intro C i;refine ⟨_,_,?_,⟨q-1,r+y1,h7,rfl,rfl,c.to _ _,l,oM⟩,i.to _ kR⟩
    omega
   have zl:=oT zc;refine lB 85 zc (au (CG.exit ?_));intro C i;exact ⟨_,⟨(q-1),h7,rfl,c.to _ _,(by first|exact M.fin d oM|exact l.brk d oM oM (by have:=l.qb;omega))⟩,i.to _ kR⟩
  rintro _ _ ⟨j,zq,rfl,c,hF⟩;refine aD ?_;obtain ⟨W,hF2,hF3⟩:=hF;have hF4:=oH (u1:=u1) B oM;rw[<-W] at hF4
  refine lL c ac (lV 87 (mV ((u32*4294967296)%18446744073709551616)) ?_ (hr:=rU (((u32:Int)*(4294967296:Int))) kR (mn u32 4294967296)));refine lL c ac (lV 89 (mV ((((u32*4294967296)%18446744073709551616)+u1)%18446744073709551616)) ?_ (hr:=rU (((((u32*4294967296)%18446744073709551616:Nat):Int)+(u1:Int))) kR (uY ((u32*4294967296)%18446744073709551616) u1)));refine lL c aK (lV 92 (mV ((j*Y)%18446744073709551616)) ?_ (hr:=rU (((j:Int)*(Y:Int))) kR (mn j Y)));obtain ⟨r1,hr1⟩:∃ e,e=(u32*4294967296+u1)%Y:=⟨_,rfl⟩;have z:r1<Y:=by rw[hr1];exact ys _ oM
  refine lV 93 (mV r1) ?_ (hr:=be (be (n:=IntKind.wrap .u64 ((((((u32*4294967296)%18446744073709551616)+u1)%18446744073709551616:Nat):Int)-(((j*Y)%18446744073709551616:Nat):Int))) kR (C8 ((((u32*4294967296)%18446744073709551616)+u1)%18446744073709551616:Nat) ((j*Y)%18446744073709551616) oM)) (by rw[mM hF3 (hF2.trans hr1.symm) oM]));refine lL c ac (aR (lL c aK ?_));have H:=kS (Y:=Y) (y1:=y1) (y0:=y0) (u:=r1) (u1:=u0) d oM oM oM z;have X:=nk (u:=r1) (y1:=y1) oM;have hL0:=A5 r1 y1;obtain ⟨qb,hqb⟩:∃ e,e=r1/y1:=⟨_,rfl⟩;rw[<-hqb] at H X hL0
  refine lV 96 (mV qb) ?_ (hr:=be (be (dD (t:=23) (u:=23) (x:=.tmp 94) (y:=.tmp 95) (k:=.u64) (a:=(r1:Int)) (b:=(y1:Int)) kR kR kR oM _) (kO r1 y1 oM)) (by rw[hqb]));refine lL c ac (aR (lL c fE (lV 100 (mV (qb*y1)) ?_ (hr:=rU (((qb:Int)*(y1:Int))) kR (k9 qb y1 oM)))));obtain ⟨rb,hrb⟩:∃ e,e=r1-qb*y1:=⟨_,rfl⟩;rw[<-hrb] at H X
  refine lV 101 (mV rb) ?_ (hr:=be (be (n:=IntKind.wrap .u64 ((r1:Int)-((qb*y1:Nat):Int))) kR (gd r1 (qb*y1) oM oM)) (by rw[hrb]));refine lL c ac (lN (CG.join (fun Γ I=>∃ (o:Nat)(h_:Hp),Γ=[(2,mV Y),(6,uV 0),(7,uV 0),(8,mV s),(14,mV u0),(15,mV j),(17,mV r1),(18,mV o)]/\SS w h I h_ [] [] []/\o=(r1*4294967296+u0)/Y/\(r1*4294967296+u0)-o*Y=(r1*4294967296+u0)%Y/\o*Y<=r1*4294967296+u0) ?_ ?_))
  .
   refine kZ ?_;refine cj _ (CG.loop (fun L Γ I=>∃ (p:Nat)(t:Nat)(h_:Hp),L=p/\Γ=[(2,mV Y),(6,uV 0),(7,uV 0),(8,mV s),(9,mV y1),(10,mV y0),(14,mV u0),(15,mV j),(17,mV r1),(18,mV p),(16,mV t)]/\SS w h I h_ [] [] []/\HalfQ Y y1 y0 r1 u0 p t/\t<4294967296) _ ⟨qb,rb,zq,rfl,rfl,c.to _ _,H,oM⟩ ?_);rintro _ _ _ ⟨p,t,U,bk,rfl,c,O,ht⟩;have bl:=O.qb;refine cQ (aa c ac ?_);cases zd:(decide ((4294967296:Int)<=(p:Int)))
   .
    have zm:=oF zd;refine lB 103 zd (lL c fE (lV 107 (mV (p*y0)) ?_ (hr:=rU (((p:Int)*(y0:Int))) kR (k9 p y0 (Dn oM oM)))));refine lL c ac (lV 109 (mV (4294967296*t)) ?_ (hr:=rU (((4294967296:Int)*(t:Int))) kR (k9 4294967296 t oM)));refine lL c ac (lV 111 (mV ((4294967296*t)+u0)) ?_ (hr:=rU ((((4294967296*t:Nat):Int)+(u0:Int))) kR (iM (4294967296*t) u0 oM)));cases ze:(decide ((((4294967296*t)+u0:Nat):Int)<((p*y0:Nat):Int)))
    .
     have zn:=oF ze;refine lB 112 ze (lL c [.v qF] (ah (CG.exit ?_)));intro C i;exact ⟨_,⟨p,U,rfl,c.to _ _,(by first|exact O.fin d oM|exact f.brk d oM oM (by have:=f.qb;omega))⟩,i.to _ kR⟩
    have zn:=oT ze;refine lB 112 ze (lL c [.v qT] (au (cK (kZ (aa c ac ?_)))));have hq2:0<p:=by first|omega|exact dO (show 4294967296*t+u0<p*y0 by omega)
    have f:=O.dec d oM z (by first|exact .inl oM|exact .inr oM);refine lV 115 (mV (p-1)) ?_ (hr:=rU (((p:Int)-(1:Int))) kR (gd p 1 oM oM));refine lL c ac (aR (lL c aK (lV 118 (mV (t+y1)) ?_ (hr:=rU (((t:Int)+(y1:Int))) kR (iM t y1 oM)))));refine lL c ac (aR (lL c ac ?_));cases zf:(decide ((4294967296:Int)<=((t+y1:Nat):Int)))
    .
     have zo:=oF zf;refine lB 120 zf (ah (CG.skip ?_));intro C i;refine ⟨_,_,?_,⟨p-1,t+y1,U,rfl,rfl,c.to _ _,f,oM⟩,i.to _ kR⟩
     omega
    have zo:=oT zf;refine lB 120 zf (au (CG.exit ?_));intro C i;exact ⟨_,⟨(p-1),U,rfl,c.to _ _,(by first|exact O.fin d oM|exact f.brk d oM oM (by have:=f.qb;omega))⟩,i.to _ kR⟩
   have zm:=oT zd;refine lB 103 zd (lL c ac (lG 105 ?_));refine lG 106 (lG 107 (lG 108 (lG 109 (lG 110 (lG 111 (lG 112 (lL c [.v qT] (au (cK (kZ (aa c ac ?_)))))))))));have hq2:0<p:=by first|omega|exact dO (show 4294967296*t+u0<p*y0 by omega)
   have f:=O.dec d oM z (by first|exact .inl oM|exact .inr oM);refine lV 115 (mV (p-1)) ?_ (hr:=rU (((p:Int)-(1:Int))) kR (gd p 1 oM oM));refine lL c ac (aR (lL c aK (lV 118 (mV (t+y1)) ?_ (hr:=rU (((t:Int)+(y1:Int))) kR (iM t y1 oM)))));refine lL c ac (aR (lL c ac ?_));cases zg:(decide ((4294967296:Int)<=((t+y1:Nat):Int)))
   .
    have zp:=oF zg;refine lB 120 zg (ah (CG.skip ?_));intro C i;refine ⟨_,_,?_,⟨p-1,t+y1,U,rfl,rfl,c.to _ _,f,oM⟩,i.to _ kR⟩
    omega
   have zp:=oT zg;refine lB 120 zg (au (CG.exit ?_));intro C i;exact ⟨_,⟨(p-1),U,rfl,c.to _ _,(by first|exact O.fin d oM|exact f.brk d oM oM (by have:=f.qb;omega))⟩,i.to _ kR⟩
  rintro _ _ ⟨o,_,rfl,c,hE⟩;refine aD ?_;obtain ⟨S,hE2,hE3⟩:=hE;have hE4:=oH (u1:=u0) z oM;rw[<-S] at hE4
  refine lL c ac (lV 122 (mV (j*4294967296)) ?_ (hr:=rU (((j:Int)*(4294967296:Int))) kR (k9 j 4294967296 oM)));refine lL c ac (lV 124 (mV ((j*4294967296)+o)) ?_ (hr:=rU ((((j*4294967296:Nat):Int)+(o:Int))) kR (iM (j*4294967296) o oM)));refine lL c ac (lV 126 (mV ((r1*4294967296)%18446744073709551616)) ?_ (hr:=rU (((r1:Int)*(4294967296:Int))) kR (mn r1 4294967296)));refine lL c ac (lV 128 (mV ((((r1*4294967296)%18446744073709551616)+u0)%18446744073709551616)) ?_ (hr:=rU (((((r1*4294967296)%18446744073709551616:Nat):Int)+(u0:Int))) kR (uY ((r1*4294967296)%18446744073709551616) u0)));refine lL c aK (lV 131 (mV ((o*Y)%18446744073709551616)) ?_ (hr:=rU (((o:Int)*(Y:Int))) kR (mn o Y)));obtain ⟨R,hR⟩:∃ e,e=(r1*4294967296+u0)%Y:=⟨_,rfl⟩;have hRY:R<Y:=by rw[hR];exact ys _ oM
  refine lV 132 (mV R) ?_ (hr:=be (be (n:=IntKind.wrap .u64 ((((((r1*4294967296)%18446744073709551616)+u0)%18446744073709551616:Nat):Int)-(((o*Y)%18446744073709551616:Nat):Int))) kR (C8 ((((r1*4294967296)%18446744073709551616)+u0)%18446744073709551616:Nat) ((o*Y)%18446744073709551616) oM)) (by rw[mM hE3 (hE2.trans hR.symm) oM]));refine lL c ac (lV 134 (mV (R/2^s)) ?_ (hr:=gm (t:=23) (u:=151) (x:=.tmp 132) (y:=.tmp 133) (ky:=.u64) (a:=R) (n:=s) kR kR kR oM _));refine lL c aK (lN (kX ?_));obtain ⟨hB1,hB2⟩:=tA (A:=hi*18446744073709551616+lo) (y:=y) hY J (show u10=u1*4294967296+u0 by omega) oM W hr1 S hR;exact c.ret [] (.tuple #[mV ((j*4294967296)+o),mV (R/2^s)]) (⟨_,_,rfl,hB1,hB2,by omega⟩)
 have bb:=eq_of_beq D;refine lB 27 D (au (cQ (cR 6 [] mixed c aq ?_)));refine eV 0 28 (mV lo) (eV 1 29 (mV y) (eV 2 30 (mV (lo/y)) ?_ (hv:=fun _=>be (dD (t:=23) (u:=23) (x:=.tmp 28) (y:=.tmp 29) (k:=.u64) (a:=(lo:Int)) (b:=(y:Int)) kR kR kR oM _) (kO lo y oM))));refine eV 3 31 (mV lo) (eV 4 32 (mV y) (eV 5 33 (mV (lo%y)) ?_ (hv:=fun _=>be (fR (t:=23) (u:=23) (x:=.tmp 31) (y:=.tmp 32) (k:=.u64) (a:=(lo:Int)) (b:=(y:Int)) kR kR kR oM _) (dx lo y))));refine bY c (fun _ _ c=>tV 6 6 (mV (lo/y)) (tV 7 7 (mV (lo%y)) (tN (kX ?_))));have hdm:=Af lo y;have hml:=ys lo (show 0<y by omega);have bq:=yN lo y;have hh0:hi=0:=by omega
 subst hh0;exact c.ret [] (.tuple #[mV (lo/y),mV (lo%y)]) (⟨lo/y,lo%y,rfl,by rw[yi,yl];exact hdm.symm,hml,by omega⟩)
def Cb (h1:Hp)(v:Value)(m:Nat)(Q:List Nat->Prop):Prop:=∃ A c,∃ z:List Nat,v=.slice A z.length c/\z.length<=c/\z.length=m/\Wd z/\Q z/\SlO 1 aj 0 h1 A z
theorem Wd.set {l:List Nat}(h:Wd l)(k:Nat){x:Nat}(a:x<18446744073709551616):Wd (l.set k x):=Dg.set h k a
theorem Wd.rep (n:Nat):Wd (yp n 0):=Dg.rep kD
theorem pZ {l:List Nat}{k j x:Nat}(hk:k<l.length)(h:∀ i,j<=i->l.getD i 0=0)(a:k<j):∀ i,j<=i->(l.set k x).getD i 0=0:=fun i hi=>by rw[bG hk,if_neg oM];exact h i hi
theorem C2 (A:Z9)(c:Nat)(x:List Nat)(D:Z9)(d:Nat)(y:List Nat)(hx:Wd x)(hy:Wd y)(hlx:x.length<=1000000000)(hly:y.length<=1000000000)(w:World)(h:Hp)(g:G w h)(hA:SlO 1 aj 0 h A x)(hD:SlO 1 aj 0 h D y):CR 133 #[.slice A x.length c,.slice D y.length d] w h (fun v h1=>Cb h1 v (x.length+y.length) (fun z=>aF z=aF x*aF y)):=by
 have e:=(((sS g).aS hA).aS hD);refine go Tryz.func133 [(0,qS A x.length c),(1,qS D y.length d)] rfl (aa e ac (aR (lL e [.c,.v (nV x.length),.c,.v (nV y.length)] (bI 19 ((x.length:Nat)+(y.length:Nat)) (x.length+y.length) ?_))));refine lK 20 23 (x.length+y.length) 1 8 (uV 0) aj 0 e (fun u w2 h3 e=>?_);have hl4:(yp (x.length+y.length) 0).length=(x.length+y.length):=by simp
 refine lL e ac (af (aa e [.c,.v (nV x.length),.c] (bh ?_)));refine cj _ (CG.loop (fun Q Γ w_=>∃ (i:Nat)(l:List Nat)(C:Hp),Q=x.length-i/\Γ=[(1,qS D y.length d),(4,sZ),(5,qS (sB u) (x.length+y.length) (x.length+y.length)),(21,qS A x.length c),(22,nV x.length),(23,nV i)]/\SS w h w_ C [⟨u,23,(l).flatMap aj⟩] [] [fun C=>SlO 1 aj 0 C D y,fun C=>SlO 1 aj 0 C A x]/\i<=x.length/\l.length=x.length+y.length/\Wd l/\aF l=ak 18446744073709551616 (x.take i)*aF y/\(∀ k,i+y.length<=k->l.getD k 0=0)) _ ⟨0,yp (x.length+y.length) 0,h3,rfl,rfl,e.to _ _,JL _,hl4,Wd.rep _,(by show ak _ _=_;rw[ff];simp[ak]),fun k _=>gc⟩ ?_);rintro _ _ w5 ⟨i,l,h6,hm7,rfl,e,hi,O,hW,hv,hz⟩;refine aD ?_;cases J:(decide ((i:Int)<(x.length:Int)))
 .
  have W:=oF J;refine lB 24 J (af (cW (CG.exit ?_)))
  show CG _ _ _ _ _ _ _ _
  refine aa e aK (lN (kX ?_));have hix:i=x.length:=by omega
  rw[hix,yd] at hv
  obtain ⟨h9,e,V,bn,bd⟩:=e.pub 0;replace e:=(e.to [] []).aS (SlO.of_flat (sz:=1) (f:=aj) (d:=0) (b:=u) (o:=0) (l:=l) (fun _=>rfl) V);exact e.ret [] (qS (sB u) (x.length+y.length) (x.length+y.length)) (⟨sB u,_,l,by rw[O],by omega,O,hW,hv,e.f.1⟩)
 have W:=oT J;refine lB 24 J (af (cl (cK (cQ (kZ (aa e ac (lX 26 A x.length c 1 (i:Nat) i ((e.f.2.1).ok oM) ?_)))))));refine lH 27 (mV (x.getD i 0)) e ((e.f.2.1).el i oM) (lL e aK (aR (lL e ac (af (aa e [.c,.v (nV y.length),.c] (bh ?_))))));refine cj _ (CG.loop (fun Q Γ w_=>∃ (j:Nat)(l2:List Nat)(H:Nat)(C:Hp),Q=y.length-j/\Γ=[(1,qS D y.length d),(4,sZ),(5,qS (sB u) (x.length+y.length) (x.length+y.length)),(21,qS A x.length c),(22,nV x.length),(23,nV i),(6,nV i),(7,mV (x.getD i 0)),(28,qS D y.length d),(29,nV y.length),(30,nV j),(8,mV H)]/\SS w h w_ C [⟨u,23,(l2).flatMap aj⟩] [] [fun C=>SlO 1 aj 0 C D y,fun C=>SlO 1 aj 0 C A x]/\j<=y.length/\l2.length=x.length+y.length/\Wd l2/\H<18446744073709551616/\ak 18446744073709551616 l2+18446744073709551616^(i+j)*H=aF l+18446744073709551616^i*(x.getD i 0*ak 18446744073709551616 (y.take j))/\(∀ k,i+y.length<=k->l2.getD k 0=0)) _ ⟨0,l,0,h6,rfl,rfl,e.to _ _,JL _,O,hW,by omega,(by show ak _ l+_=ak _ l+_;simp[ak]),hz⟩ ?_);rintro _ _ _ ⟨j,l2,H,zi,bf,rfl,e,hj,K,M,hc,inv,L⟩;have hlk:=M.get (i+j);refine aD ?_;cases Y:(decide ((j:Int)<(y.length:Int)))
 .
  have zd:=oF Y;refine lB 31 Y (af (cW (CG.exit ?_)))
  show CG _ _ _ _ _ _ _ _
  refine kQ (lL e [.c,.c,.c,.v (nV y.length)] (bI 75 ((i:Nat)+(y.length:Nat)) (i+y.length) ?_));refine lL e ac (lX 77 (sB u) (x.length+y.length) (x.length+y.length) 1 (i+y.length:Nat) (i+y.length) rfl ?_);refine lW 0 l2 aj 1 (i+y.length) H e oM (fun _ e=>?_);have zf:((l2).set (i+y.length) H).length=(x.length+y.length):=by rw[Gx];exact K
  replace e:=e.to [⟨u,23,((l2).set (i+y.length) H).flatMap aj⟩] [];refine lN (kQ (bI 78 ((i:Nat)+1) (i+1) ?_));refine lL e ac (lD ?_);intro a_ ka;refine ⟨_,_,?_,⟨i+1,(l2).set (i+y.length) H,zi,rfl,rfl,e.to _ _,oM,zf,(M.set _ hc),(by have hjy:j=y.length:=oM;rw[hjy] at inv;exact (x7 oM inv (L _ oM)).trans (Bq hv)),(pZ oM (fun k hk=>L k oM) oM)⟩,ka.to _ kR⟩
  omega
 have zd:=oT Y;refine lB 31 Y (af (cl (cK (cQ (kZ (aa e ac (lX 33 D y.length d 1 (j:Nat) j ((e.f.1).ok oM) ?_)))))));refine lH 34 (mV (y.getD j 0)) e ((e.f.1).el j oM) (lL e aK (aR (lL e aK (lC 38 e (ny (x.getD i 0) (y.getD j 0) wM wM _ _ e.g) ?_))));rintro _ _ zj e ⟨p,ze,rfl,bk,bx,bb,b2⟩;have Z:=ju (a:=(x.getD i 0)) (b:=(y.getD j 0)) wM wM;refine lL e [.c,.v (mV p),.v (mV ze),.c,.c] (aR (lL e pR (bI 46 ((i:Nat)+(j:Nat)) (i+j) ?_)));refine lX 47 (sB u) (x.length+y.length) (x.length+y.length) 1 (i+j:Nat) (i+j) rfl (lQ 48 0 l2 aj 1 0 (i+j) (mV ((l2).getD (i+j) 0)) e oM ?_);obtain ⟨I,F,bt,b0,bq,X⟩:=d4 ze ((l2).getD (i+j) 0) 0 wM wM oM;refine lV 49 (.tuple #[mV I,mV F]) ?_ (hr:=dK kR (X _));refine lL e [.c,.v (mV I),.v (mV F),.c,.c] (aR (lL e aK (lV 54 (mV (p+F)) ?_ (hr:=rU (((p:Int)+(F:Int))) kR (iM p F oM)))));refine lL e ac (lN (cj [(1,qS D y.length d),(4,sZ),(5,qS (sB u) (x.length+y.length) (x.length+y.length)),(21,qS A x.length c),(22,nV x.length),(23,nV i),(6,nV i),(7,mV (x.getD i 0)),(28,qS D y.length d),(29,nV y.length),(30,nV j),(8,mV H),(9,nV j),(11,mV (p+F)),(13,mV I),(14,mV F)] ?_));refine aa e aK ?_;obtain ⟨B,S,bm,bz,bl,U⟩:=d4 I H 0 wM wM oM;refine lV 58 (.tuple #[mV B,mV S]) ?_ (hr:=dK kR (U _));refine lL e [.c,.v (mV B),.v (mV S),.c,.c] (lN (kQ (lL e fE (bI 64 ((i:Nat)+(j:Nat)) (i+j) ?_))));refine lL e fE (lV 68 (mV ((p+F)+S)) ?_ (hr:=rU ((((p+F:Nat):Int)+(S:Int))) kR (iM (p+F) S oM)));refine lX 69 (sB u) (x.length+y.length) (x.length+y.length) 1 (i+j:Nat) (i+j) rfl (lW 0 l2 aj 1 (i+j) B e oM (fun _ e=>?_));have zg:((l2).set (i+j) B).length=(x.length+y.length):=by rw[Gx];exact K
 replace e:=e.to [⟨u,23,((l2).set (i+j) B).flatMap aj⟩] [];refine lL e ac (lN (kQ (bI 70 ((j:Nat)+1) (j+1) ?_)));refine lL e ac (lD ?_);intro a_ ka;refine ⟨_,_,?_,⟨j+1,(l2).set (i+j) B,((p+F)+S),zj,rfl,rfl,e.to _ _,oM,zg,(M.set _ oM),oM,(pK oM inv oM),(pZ oM L oM)⟩,ka.to _ kR⟩
 omega
theorem B6 {x:List Nat}(a:Wd x){n:Nat}(h:x.length<=n/64):aF x<2^n:=by
 have h1:=ci a;have c:(18446744073709551616:Nat)^x.length=2^(64*x.length):=by rw[zy]
 have b:(2:Nat)^(64*x.length)<=2^n:=y6 oM oM
 show ak _ x<_
 omega
theorem mD {l:List Nat}{k x:Nat}(hk:k<l.length)(h:∀ i,k<=i->l.getD i 0=0):∀ i,k+1<=i->(l.set k x).getD i 0=0:=fun i hi=>by rw[bG hk,if_neg oM];exact h i oM
theorem vO (A:Z9)(c:Nat)(x:List Nat)(hx:Wd x)(X:x.length<=1000000000)(n:Nat)(hn:n<=1000000000)(w:World)(h:Hp)(g:G w h)(Y:SlO 1 aj 0 h A x):CR 182 #[.slice A x.length c,nV n] w h (fun v h1=>Cb h1 v (x.length+n/64+1) (fun z=>aF z=aF x*2^n)):=by
 have e:=((sS g).aS Y);refine go Tryz.func182 [(0,qS A x.length c),(1,nV n)] rfl (aa e ac (aR (lL e ac (lV 11 (nV (n/64)) ?_ (hr:=be (dD (t:=3) (u:=3) (x:=.tmp 10) (y:=.const (iV 64)) (k:=.i64) (a:=(n:Int)) (b:=(64:Int)) kR kR kR oM _) (dl n 64 oM))))));refine lL e ac (lV 13 (nV (n%64)) ?_ (hr:=be (fR (t:=3) (u:=3) (x:=.tmp 12) (y:=.const (iV 64)) (k:=.i64) (a:=(n:Int)) (b:=(64:Int)) kR kR kR oM _) (dx n 64)));refine lV 14 (mV (n%64)) ?_ (hr:=rU (((n%64:Nat):Int)) kR (bM oM oM));refine lL e aK (aR (lL e [.c,.v (nV x.length),.c] (bI 18 ((x.length:Nat)+(n/64:Nat)) (x.length+(n/64)) ?_)));refine bI 19 ((x.length+(n/64):Nat)+1) ((x.length+(n/64))+1) (lK 20 23 ((x.length+(n/64))+1:Nat) 1 8 (uV 0) aj 0 e (fun j w2 h3 e=>?_));have K:(yp ((x.length+(n/64))+1:Nat) 0).length=((x.length+(n/64))+1:Nat):=by simp
 refine lL e ac (af (aa e [.c,.v (nV x.length),.c] (bh ?_)));refine cj _ (CG.loop (fun J Γ w_=>∃ (i:Nat)(l:List Nat)(H:Hp),J=x.length-i/\Γ=[(4,sZ),(5,nV (n/64)),(6,mV (n%64)),(7,qS (sB j) ((x.length+(n/64))+1:Nat) ((x.length+(n/64))+1:Nat)),(21,qS A x.length c),(22,nV x.length),(23,nV i)]/\SS w h w_ H [⟨j,23,(l).flatMap aj⟩] [] [fun H=>SlO 1 aj 0 H A x]/\i<=x.length/\l.length=x.length+n/64+1/\Wd l/\aF l=2^(n%64)*(18446744073709551616^(n/64)*ak 18446744073709551616 (x.take i))/\l.getD (i+n/64) 0<2^(n%64)/\(∀ k,i+n/64+1<=k->l.getD k 0=0)) _ ⟨0,yp ((x.length+(n/64))+1:Nat) 0,h3,rfl,rfl,e.to _ _,JL _,K,Wd.rep _,(by show ak _ _=_;rw[ff];simp[ak]),(by rw[gc];exact y5 _),fun k _=>gc⟩ ?_);rintro _ _ w5 ⟨i,l,h6,hm7,rfl,e,hi,C,S,hv,ho,hz⟩;refine aD ?_;cases B:(decide ((i:Int)<(x.length:Int)))
 .
  have D:=oF B;refine lB 24 B (af (cW (CG.exit ?_)))
  show CG _ _ _ _ _ _ _ _
  refine aa e aK (lN (kX ?_));have I:i=x.length:=by omega
  rw[I,yd] at hv
  obtain ⟨h9,e,F,V,W⟩:=e.pub 0;replace e:=(e.to [] []).aS (SlO.of_flat (sz:=1) (f:=aj) (d:=0) (b:=j) (o:=0) (l:=l) (fun _=>rfl) F);exact e.ret [] (qS (sB j) ((x.length+(n/64))+1:Nat) ((x.length+(n/64))+1:Nat)) (⟨sB j,_,l,by rw[C],by omega,C,S,(by show aF l=_;rw[hv,xW n];show _*(_*aF x)=_;ac_rfl),e.f.1⟩)
 have D:=oT B;refine lB 24 B (af (cl (cK (cQ (kZ (aa e ac (lX 26 A x.length c 1 (i:Nat) i ((e.f.1).ok oM) ?_)))))));refine lH 27 (mV (x.getD i 0)) e ((e.f.1).el i oM) (lL e aK (aR (lL e fE (bI 31 ((i:Nat)+(n/64:Nat)) (i+(n/64)) ?_))));refine lX 32 (sB j) ((x.length+(n/64))+1:Nat) ((x.length+(n/64))+1:Nat) 1 (i+(n/64):Nat) (i+(n/64)) rfl (lQ 33 0 l aj 1 0 (i+(n/64)) (mV ((l).getD (i+(n/64)) 0)) e oM (lL e aK (lV 36 (mV ((x.getD i 0)*2^(n%64)%18446744073709551616)) ?_ (hr:=ig (t:=23) (u:=151) (x:=.tmp 34) (y:=.tmp 35) (ky:=.u64) (a:=(x.getD i 0)) (n:=(n%64)) kR kR kR _))));have L:=hx.get i;obtain ⟨O,M,U,Q⟩:=vp (x:=x.getD i 0) (p:=n%64) (o:=l.getD (i+n/64) 0) oM L ho;have hlg:=S.get (i+n/64);refine lV 37 (mV (l.getD (i+n/64) 0+x.getD i 0*2^(n%64)%18446744073709551616)) ?_ (hr:=be (jC (t:=23) (u:=23) (x:=.tmp 33) (y:=.tmp 36) (a:=((l).getD (i+(n/64)) 0:Nat)) (b:=((x.getD i 0)*2^(n%64)%18446744073709551616)) kR kR kR oM oM _) (by rw[O]));refine lX 38 (sB j) ((x.length+(n/64))+1:Nat) ((x.length+(n/64))+1:Nat) 1 (i+(n/64):Nat) (i+(n/64)) rfl (lW 0 l aj 1 (i+(n/64)) (l.getD (i+n/64) 0+x.getD i 0*2^(n%64)%18446744073709551616) e oM (fun _ e=>?_));have Z:((l).set (i+(n/64)) (l.getD (i+n/64) 0+x.getD i 0*2^(n%64)%18446744073709551616)).length=((x.length+(n/64))+1:Nat):=by rw[Gx];exact C
 replace e:=e.to [⟨j,23,((l).set (i+(n/64)) (l.getD (i+n/64) 0+x.getD i 0*2^(n%64)%18446744073709551616)).flatMap aj⟩] [];refine lN (kQ (lL e fE (bI 42 ((i:Nat)+(n/64:Nat)) (i+(n/64)) ?_)));refine bI 43 ((i+(n/64):Nat)+1) ((i+(n/64))+1) (lL e aK (lV 46 (mV (64-(n%64))) ?_ (hr:=rU (((64:Int)-((n%64:Nat):Int))) kR (gd 64 (n%64) oM oM))));refine lV 47 (mV ((x.getD i 0)/2^(64-(n%64)))) ?_ (hr:=gm (t:=23) (u:=151) (x:=.tmp 44) (y:=.tmp 46) (ky:=.u64) (a:=(x.getD i 0)) (n:=(64-(n%64))) kR kR kR oM _);refine lX 48 (sB j) ((x.length+(n/64))+1:Nat) ((x.length+(n/64))+1:Nat) 1 ((i+(n/64))+1:Nat) ((i+(n/64))+1:Nat) rfl (lW 0 ((l).set (i+(n/64)) (l.getD (i+n/64) 0+x.getD i 0*2^(n%64)%18446744073709551616)) aj 1 ((i+(n/64))+1:Nat) ((x.getD i 0)/2^(64-(n%64)):Nat) e oM (fun _ e=>?_));have zb:(((l).set (i+(n/64)) (l.getD (i+n/64) 0+x.getD i 0*2^(n%64)%18446744073709551616)).set ((i+(n/64))+1:Nat) ((x.getD i 0)/2^(64-(n%64)):Nat)).length=((x.length+(n/64))+1:Nat):=by rw[Gx];exact Z
 replace e:=e.to [⟨j,23,(((l).set (i+(n/64)) (l.getD (i+n/64) 0+x.getD i 0*2^(n%64)%18446744073709551616)).set ((i+(n/64))+1:Nat) ((x.getD i 0)/2^(64-(n%64)):Nat)).flatMap aj⟩] [];refine lN (kQ (bI 49 ((i:Nat)+1) (i+1) ?_));refine lL e ac (lD ?_);intro a_ ka;refine ⟨_,_,?_,⟨i+1,((l).set (i+(n/64)) (l.getD (i+n/64) 0+x.getD i 0*2^(n%64)%18446744073709551616)).set ((i+(n/64))+1:Nat) ((x.getD i 0)/2^(64-(n%64)):Nat),h6,rfl,rfl,e.to _ _,oM,zb,((S.set _ M).set _ (by have:=yN (x.getD i 0) (2^(64-n%64));omega)),(xx oM hv (hz _ oM) U rfl rfl),(by rw[show i+1+n/64=i+n/64+1 by omega,bG (by rw[Gx];omega),if_pos rfl];exact Q),(fun k hk=>by rw[bG (by rw[Gx];omega),if_neg oM,bG oM,if_neg oM];exact hz k oM)⟩,ka.to _ kR⟩
 omega
theorem GF (A:Z9)(c:Nat)(x:List Nat)(V:Wd x)(hlx:x.length<=1000000000)(n:Nat)(hn:n<=1000000000)(w:World)(h:Hp)(g:G w h)(hA:SlO 1 aj 0 h A x):CR 184 #[.slice A x.length c,nV n] w h (fun v h1=>Cb h1 v (x.length-n/64) (fun z=>aF z=aF x/2^n)):=by
 have e:=((sS g).aS hA);refine go Tryz.func184 [(0,qS A x.length c),(1,nV n)] rfl (aa e ac (aR (lL e ac (lV 10 (nV (n/64)) ?_ (hr:=be (dD (t:=3) (u:=3) (x:=.tmp 9) (y:=.const (iV 64)) (k:=.i64) (a:=(n:Int)) (b:=(64:Int)) kR kR kR oM _) (dl n 64 oM))))));refine lL e ac (lV 12 (nV (n%64)) ?_ (hr:=be (fR (t:=3) (u:=3) (x:=.tmp 11) (y:=.const (iV 64)) (k:=.i64) (a:=(n:Int)) (b:=(64:Int)) kR kR kR oM _) (dx n 64)));refine lV 13 (mV (n%64)) ?_ (hr:=rU (((n%64:Nat):Int)) kR (bM oM oM));refine lL e aK (af (aa e [.c,.c,.v (nV x.length)] ?_));cases C:(decide ((x.length:Int)<=((n/64:Nat):Int)))
 .
  have I:=oF C;refine lB 17 C (ah (cK (aa e [.c,.v (nV x.length),.c] (bI 21 ((x.length:Nat)-(n/64:Nat)) (x.length-(n/64)) ?_))));refine lK 22 23 (x.length-(n/64)) 1 8 (uV 0) aj 0 e (fun B w3 h4 e=>?_);have U:(yp (x.length-(n/64)) 0).length=(x.length-(n/64)):=by simp
  refine lL e ac (af (aa e [.c,.v (nV (x.length-(n/64))),.c] (bh ?_)));refine cj _ (CG.loop (fun Q Γ w_=>∃ (i:Nat)(l:List Nat)(M:Hp),Q=x.length-n/64-i/\Γ=[(0,qS A x.length c),(4,sZ),(5,nV (n/64)),(6,mV (n%64)),(7,qS (sB B) (x.length-(n/64)) (x.length-(n/64))),(24,nV (x.length-(n/64))),(25,nV i)]/\SS w h w_ M [⟨B,23,(l).flatMap aj⟩] [] [fun M=>SlO 1 aj 0 M A x]/\i<=x.length-n/64/\l.length=x.length-n/64/\Wd l/\2^(n%64)*ak 18446744073709551616 l+(x.drop (n/64)).getD 0 0%2^(n%64)=ak 18446744073709551616 ((x.drop (n/64)).take i)+18446744073709551616^i*((x.drop (n/64)).getD i 0%2^(n%64))/\(∀ k,i<=k->l.getD k 0=0)) _ ⟨0,yp (x.length-(n/64)) 0,h4,rfl,rfl,e.to _ _,JL _,U,Wd.rep _,(by rw[ff];simp[ak]),fun k _=>gc⟩ ?_);rintro _ _ w6 ⟨i,l,h7,hm8,rfl,e,hi,F,Z,inv,hz⟩;refine aD ?_;cases D:(decide ((i:Int)<(((x.length-(n/64)):Nat):Int)))
  .
   have K:=oF D;refine lB 26 D (af (cW (CG.exit ?_)))
   show CG _ _ _ _ _ _ _ _
   refine aa e aK (lN (kX ?_));have hix:i=x.length-n/64:=by omega
   have hE:=Ci (W:=x.drop (n/64)) (m:=i) (by rw[Am];omega) inv;rw[ng V oM,zX,<-xW n] at hE
   obtain ⟨_,e,H,bb,bd⟩:=e.pub 0;replace e:=(e.to [] []).aS (SlO.of_flat (sz:=1) (f:=aj) (d:=0) (b:=B) (o:=0) (l:=l) (fun _=>rfl) H);exact e.ret [] (qS (sB B) (x.length-(n/64)) (x.length-(n/64))) (⟨sB B,_,l,by rw[F],by omega,by omega,Z,hE,e.f.1⟩)
  have K:=oT D;refine lB 26 D (af (cl (cK (cQ (kZ (aa e aK (aR (lL e I1 (bI 33 ((i:Nat)+(n/64:Nat)) (i+(n/64)) ?_)))))))));refine lX 34 A x.length c 1 (i+(n/64):Nat) (i+(n/64)) ((e.f.1).ok oM) (lH 35 (mV (x.getD (i+(n/64)) 0)) e ((e.f.1).el (i+(n/64)) oM) (lL e ac ?_));have S:=V.get (i+n/64);refine lV 37 (mV ((x.getD (i+(n/64)) 0:Nat)/2^(n%64))) ?_ (hr:=gm (t:=23) (u:=151) (x:=.tmp 35) (y:=.tmp 36) (ky:=.u64) (a:=(x.getD (i+(n/64)) 0:Nat)) (n:=(n%64)) kR kR kR oM _);refine lX 38 (sB B) (x.length-(n/64)) (x.length-(n/64)) 1 (i:Nat) i rfl (lW 0 l aj 1 i ((x.getD (i+(n/64)) 0:Nat)/2^(n%64):Nat) e oM (fun _ e=>?_));have zb:((l).set i ((x.getD (i+(n/64)) 0:Nat)/2^(n%64):Nat)).length=(x.length-(n/64)):=by rw[Gx];exact F
  replace e:=e.to [⟨B,23,((l).set i ((x.getD (i+(n/64)) 0:Nat)/2^(n%64):Nat)).flatMap aj⟩] [];refine aR (lL e aK (bI 41 ((i:Nat)+(n/64:Nat)) (i+(n/64)) ?_));refine bI 42 ((i+(n/64):Nat)+1) ((i+(n/64))+1) (lL e [.c,.v (nV x.length)] ?_);cases L:(decide ((((i+(n/64))+1:Nat):Int)<(x.length:Int)))
  .
   have zc:=oF L;refine lB 45 L (ah (cK (kQ (bI 62 ((i:Nat)+1) (i+1) ?_))));refine lL e ac (lD ?_);intro a_ O;refine ⟨_,_,?_,⟨i+1,(l).set i ((x.getD (i+(n/64)) 0:Nat)/2^(n%64):Nat),h7,rfl,rfl,e.to _ _,oM,zb,(Z.set _ (by have:=yN (x.getD (i+n/64) 0) (2^(n%64));omega)),(qg oM inv (hz _ (nR _)) (by rw[bF,bF,show n/64+i=i+n/64 by omega,cA (show x.length<=n/64+(i+1) by omega),G1,y2,ya];exact Af _ _)),(mD oM hz)⟩,O.to _ kR⟩
   omega
  have zc:=oT L;refine lB 45 L (au (cR 15 [] mixed e aq ?_));refine eV 0 46 (qS (sB B) (x.length-(n/64)) (x.length-(n/64))) (eV 1 47 (nV i) (eX 2 48 (sB B) (x.length-(n/64)) (x.length-(n/64)) 1 (i:Nat) i rfl (eQ 3 49 0 ((l).set i ((x.getD (i+(n/64)) 0:Nat)/2^(n%64):Nat)) aj 1 0 i (mV (((l).set i ((x.getD (i+(n/64)) 0:Nat)/2^(n%64):Nat)).getD i 0)) e oM (eV 4 50 (qS A x.length c) (eV 5 51 (nV i) (eV 6 52 (nV (n/64)) (mt 7 53 ((i:Nat)+(n/64:Nat)) (i+(n/64)) (mt 8 54 ((i+(n/64):Nat)+1) ((i+(n/64))+1) (eX 9 55 A x.length c 1 ((i+(n/64))+1:Nat) ((i+(n/64))+1:Nat) ((e.f.1).ok oM) (eH 10 56 (mV (x.getD ((i+(n/64))+1:Nat) 0)) e ((e.f.1).el ((i+(n/64))+1:Nat) oM) (eV 11 57 (mV (n%64)) (eV 12 58 (mV (64-(n%64))) ?_ (hv:=fun _=>rU (((64:Int)-((n%64:Nat):Int))) kR (gd 64 (n%64) oM oM))))))))))))));refine eV 13 59 (mV ((x.getD ((i+(n/64))+1:Nat) 0:Nat)*2^(64-(n%64))%18446744073709551616)) ?_ (hv:=fun _=>ig (t:=23) (u:=151) (x:=.tmp 56) (y:=.tmp 58) (ky:=.u64) (a:=(x.getD ((i+(n/64))+1:Nat) 0:Nat)) (n:=(64-(n%64))) kR kR kR _);obtain ⟨Y,X,hS3⟩:=oy (x:=x.getD (i+n/64) 0) (y:=x.getD (i+n/64+1) 0) (p:=n%64) oM S;have hdv:=yN (x.getD (i+n/64) 0) (2^(n%64));have J:=bG (l:=l) (k:=i) (j:=i) (x:=x.getD (i+n/64) 0/2^(n%64)) oM;rw[if_pos rfl] at J
  refine eV 14 60 (mV (x.getD (i+n/64) 0/2^(n%64)+x.getD (i+n/64+1) 0*2^(64-n%64)%18446744073709551616)) ?_ (hv:=fun _=>be (jC (t:=23) (u:=23) (x:=.tmp 49) (y:=.tmp 59) (a:=(((l).set i ((x.getD (i+(n/64)) 0:Nat)/2^(n%64):Nat)).getD i 0:Nat)) (b:=((x.getD ((i+(n/64))+1:Nat) 0:Nat)*2^(64-(n%64))%18446744073709551616:Nat)) kR kR kR oM oM _) (by rw[J,Y]));refine bY e (fun _ ze e=>tX 15 61 (sB B) (x.length-(n/64)) (x.length-(n/64)) 1 (i:Nat) i rfl (tW 16 0 ((l).set i ((x.getD (i+(n/64)) 0:Nat)/2^(n%64):Nat)) aj 1 i (x.getD (i+n/64) 0/2^(n%64)+x.getD (i+n/64+1) 0*2^(64-n%64)%18446744073709551616) e oM (fun _ e=>?_)));have zd:(((l).set i ((x.getD (i+(n/64)) 0:Nat)/2^(n%64):Nat)).set i (x.getD (i+n/64) 0/2^(n%64)+x.getD (i+n/64+1) 0*2^(64-n%64)%18446744073709551616)).length=(x.length-(n/64)):=by rw[Gx];exact zb
  replace e:=e.to [⟨B,23,(((l).set i ((x.getD (i+(n/64)) 0:Nat)/2^(n%64):Nat)).set i (x.getD (i+n/64) 0/2^(n%64)+x.getD (i+n/64+1) 0*2^(64-n%64)%18446744073709551616)).flatMap aj⟩] [];refine tN (cj [(0,qS A x.length c),(4,sZ),(5,nV (n/64)),(6,mV (n%64)),(7,qS (sB B) (x.length-(n/64)) (x.length-(n/64))),(24,nV (x.length-(n/64))),(25,nV i)] ?_);refine kQ (bI 62 ((i:Nat)+1) (i+1) ?_);refine lL e ac (lD ?_);intro a_ O;refine ⟨_,_,?_,⟨i+1,((l).set i ((x.getD (i+(n/64)) 0:Nat)/2^(n%64):Nat)).set i (x.getD (i+n/64) 0/2^(n%64)+x.getD (i+n/64+1) 0*2^(64-n%64)%18446744073709551616),ze,rfl,rfl,e.to _ _,oM,zd,((Z.set _ oM).set _ X),(by rw[JN];exact qg oM inv (hz _ (nR _)) (by rw[bF,bF,show n/64+i=i+n/64 by omega,show n/64+(i+1)=i+n/64+1 by omega];exact hS3)),(by rw[JN];exact mD oM hz)⟩,O.to _ kR⟩
  omega
 have I:=oT C;exact lB 17 C (au (aa e ac (ae e [] (sZ) (⟨none,0,[],rfl,by simp,by simp;omega,Dg.nil,(by show 0=_;exact (yQ (B6 V oM)).symm),SlO.nil⟩))))
theorem H0 {a b:Nat}(ha:a<18446744073709551616)(hb:b<18446744073709551616):a*b<=340282366920938463426481119284349108225:=by
 have h1:a<=18446744073709551615:=by omega
 have c:b<=18446744073709551615:=by omega
 exact D2 h1 c
def w3 (u2 u1 u0:Nat):Nat:=18446744073709551616*(18446744073709551616*u2+u1)+u0
def w2 (v1 v0:Nat):Nat:=18446744073709551616*v1+v0
structure Gss (u2 u1 u0 v1 v0 g r o:Nat):Prop where
  e:g*v1+(r+18446744073709551616*o)=18446744073709551616*u2+u1
  lt:g+1=18446744073709551616\/w3 u2 u1 u0<(g+1)*w2 v1 v0
  gb:g<18446744073709551616
def AE (u2 u1 u0 v1 v0 g:Nat):Prop:=g*w2 v1 v0<=w3 u2 u1 u0/\(g+1=18446744073709551616\/w3 u2 u1 u0<(g+1)*w2 v1 v0)/\g<18446744073709551616
theorem gv {g b a:Nat}:g*w2 b a=18446744073709551616*(g*b)+g*a:=by unfold w2;rw[yV,Nat.mul_left_comm]
theorem Gss.fin {d u1 b c a g r o:Nat}(h:Gss d u1 b c a g r o)(f:g*a<=18446744073709551616*(r+18446744073709551616*o)+b):AE d u1 b c a g:=by
 refine ⟨?_,h.lt,h.gb⟩;rw[gv]
 unfold w3
 rw[<-h.e,yV]
 omega
theorem Gss.over {d u1 c b a g r o:Nat}(h:Gss d u1 c b a g r o)(e:0<o)(h0:a<18446744073709551616):AE d u1 c b a g:=by
 refine h.fin ?_;have h1:=H0 h.gb h0
 omega
theorem Gss.dec {d u1 c a b g r f o':Nat}(h:Gss d u1 c a b g r 0)(j:18446744073709551616*r+c<g*b)(e:f+18446744073709551616*o'=r+a):0<g/\Gss d u1 c a b (g-1) f o':=by
 have i:0<g:=dO j;obtain ⟨p,rfl⟩:∃ p,g=p+1:=⟨g-1,by omega⟩;have e1:=h.e;rw[y2,ya] at e1
 have h1:w3 d u1 c<(p+1)*w2 a b:=by
  rw[gv]
  unfold w3
  rw[<-e1,yV]
  omega
 have e2:(p+1)*a=p*a+a:=by rw[z7,Ab]
 rw[A8];exact ⟨i,⟨by omega,Or.inr h1,by have:=h.gb;omega⟩⟩
theorem CA {b u1 d a c r o:Nat}(h:b=a)(e:r+18446744073709551616*o=u1+a):Gss b u1 d a c 18446744073709551615 r o:=by
 subst h;exact ⟨by omega,.inl rfl,by decide⟩
theorem AC {b u1 d a c q r:Nat}(e:b*18446744073709551616+u1=a*q+r)(hr:r<a)(h0:d<18446744073709551616)(f:q<18446744073709551616):Gss b u1 d a c q r 0:=by
 rw[yT b] at e
 refine ⟨by rw[yT q];omega,.inr ?_,f⟩;rw[gv,z7 q 1 a,Ab,yT q a]
 unfold w3
 rw[e]
 have h1:18446744073709551616*(a*q+r)+18446744073709551616<=18446744073709551616*(a*q+a):=by
  rw[<-A2];exact y9 _ oM
 have h:0<=(q+1)*c:=JL _
 omega
theorem DF (u u1 l f i:Nat)(h0:u<18446744073709551616)(h1:u1<18446744073709551616)(h2:l<18446744073709551616)(h3:f<18446744073709551616)(Y:i<18446744073709551616)(hle:u<=f)(hv:0<f)(w:World)(h:Hp)(g:G w h):CR 183 #[mV u,mV u1,mV l,mV f,mV i] w h (fun v _=>∃ g:Nat,v=mV g/\AE u u1 l f i g):=by
 have d:=sS g;refine go Tryz.func183 [(0,mV u),(1,mV u1),(2,mV l),(3,mV f),(4,mV i)] rfl ?_;refine aa d ac (aR (lL d fE (lN (CG.join (fun Γ X=>∃ (Q:Nat)(K:Nat)(J:Nat)(h_:Hp),Γ=[(2,mV l),(3,mV f),(4,mV i),(10,uV 0),(11,mV Q),(12,mV K),(13,mV J)]/\SS w h X h_ [] [] []/\Gss u u1 l f i Q K J/\K<18446744073709551616/\J<=1) ?_ ?_))))
 .
  refine aa d aK ?_;cases p:((u:Int) == (f:Int))
  .
   have F:=ag p;refine lB 18 p (ah (kQ (lL d fE (lC 29 d (vo u u1 f oM wM wM _ _ d.g) ?_))));rintro _ w7 h8 d ⟨q2,r3,rfl,he4,hl5,hm6⟩;refine lL d [.c,.v (mV q2),.v (mV r3),.c,.c] (lD ?_);intro a_ C;exact ⟨_,⟨q2,r3,0,h8,rfl,d.to _ _,(AC oM oM h2 oM),oM,oM⟩,C.to _ kR⟩
  have F:=eq_of_beq p;refine lB 18 p (au (aa d ac (lN (kQ (lL d aK ?_)))));obtain ⟨z,ze,bt,b0,bd,D⟩:=d4 u1 f 0 wM wM oM;refine lV 22 (.tuple #[mV z,mV ze]) ?_ (hr:=dK kR (D _));refine lL d [.c,.v (mV z),.v (mV ze),.c,.c] (lD ?_);intro a_ C;exact ⟨_,⟨18446744073709551615,z,ze,h,rfl,d.to _ _,(CA oM oM),oM,oM⟩,C.to _ kR⟩
 rintro _ _ ⟨Q,K,J,zo,rfl,d,hG0,hr0,I⟩;refine cQ (kZ ?_);refine cj _ (CG.loop (fun μ_ Γ X=>∃ (g:Nat)(r:Nat)(o:Nat)(h_:Hp),μ_=g/\Γ=[(2,mV l),(3,mV f),(4,mV i),(10,uV 0),(11,mV g),(12,mV r),(13,mV o)]/\SS w h X h_ [] [] []/\Gss u u1 l f i g r o/\r<18446744073709551616/\o<=1) _ ⟨Q,K,J,zo,rfl,rfl,d.to _ _,hG0,hr0,I⟩ ?_);rintro _ _ _ ⟨g,r,o,_,bm,rfl,d,e,hr,hov⟩;have hgl:=e.gb;refine cQ (aa d ac ?_);cases O:((o:Int) == (0:Int))
 .
  have zi:=ag O;refine lB 33 O (ah (CG.exit ?_))
  show CG _ _ _ _ _ _ _ _
  exact aa d aK (ae d [] (mV g) (⟨g,rfl,(by first|exact e.over oM Y|(rw[show o=0 by omega] at e;exact e.fin oM))⟩))
 have zi:=eq_of_beq O;refine lB 33 O (au (cK (kZ (aa d aK (lC 37 d (ny g i wM wM _ _ d.g) ?_)))));rintro _ _ zm d ⟨x,zn,rfl,bx,bz,bk,bb⟩;have S:=ju (a:=g) (b:=i) wM wM;refine lL d [.c,.v (mV x),.v (mV zn),.c,.c] (af (aa d aK ?_));cases V:(decide ((x:Int)<(r:Int)))
 .
  have zj:=oF V;refine lB 42 V (lL d fE ?_);cases M:((x:Int) == (r:Int))
  .
   have zk:=ag M;refine lB 46 M (lL d ac (lG 48 ?_));refine lG 49 (lG 50 (lL d [.v qF,.v qF] (ah (cK (aD ?_)))));have j:18446744073709551616*r+l<g*i:=by omega
   rw[show o=0 by omega] at e
   have hg0:=dO j;have W:=e.gb;refine lL d ac (lV 54 (mV (g-1)) ?_ (hr:=rU (((g:Int)-(1:Int))) kR (gd g 1 oM oM)));refine lL d ac (lN (kQ (lL d aK ?_)));obtain ⟨B,Z,bf,bl,bn,L⟩:=d4 r f 0 wM wM oM;refine lV 58 (.tuple #[mV B,mV Z]) ?_ (hr:=dK kR (L _));refine lL d [.c,.v (mV B),.v (mV Z),.c,.c] (lD ?_);intro a_ C;refine ⟨_,_,?_,⟨g-1,B,Z,zm,rfl,rfl,d.to _ _,((e.dec j oM).2),oM,oM⟩,C.to _ kR⟩
   omega
  have zk:=eq_of_beq M;refine lB 46 M (lL d fE ?_);cases U:(decide ((zn:Int)<=(l:Int)))
  .
   have zl:=oF U;refine lB 50 U (lL d [.v qF,.v qF] (ah (cK (aD ?_))));have j:18446744073709551616*r+l<g*i:=by omega
   rw[show o=0 by omega] at e
   have hg0:=dO j;have W:=e.gb;refine lL d ac (lV 54 (mV (g-1)) ?_ (hr:=rU (((g:Int)-(1:Int))) kR (gd g 1 oM oM)));refine lL d ac (lN (kQ (lL d aK ?_)));obtain ⟨y,zg,bq,b1,b2,H⟩:=d4 r f 0 wM wM oM;refine lV 58 (.tuple #[mV y,mV zg]) ?_ (hr:=dK kR (H _));refine lL d [.c,.v (mV y),.v (mV zg),.c,.c] (lD ?_);intro a_ C;refine ⟨_,_,?_,⟨g-1,y,zg,zm,rfl,rfl,d.to _ _,((e.dec j oM).2),oM,oM⟩,C.to _ kR⟩
   omega
  have zl:=oT U;refine lB 50 U (lL d [.v qT,.v qT] (au (CG.exit ?_)))
  show CG _ _ _ _ _ _ _ _
  exact aa d aK (ae d [] (mV g) (⟨g,rfl,(by first|exact e.over oM Y|(rw[show o=0 by omega] at e;exact e.fin oM))⟩))
 have zj:=oT V;refine lB 42 V (lL d ac (lG 44 ?_));refine lG 45 (lG 46 (lG 47 (lG 48 (lG 49 (lG 50 (lG 51 (lL d [.v qT] (au (CG.exit ?_)))))))))
 show CG _ _ _ _ _ _ _ _
 exact aa d aK (ae d [] (mV g) (⟨g,rfl,(by first|exact e.over oM Y|(rw[show o=0 by omega] at e;exact e.fin oM))⟩))
theorem En (A:Z9)(c:Nat)(l:List Nat)(n:Nat)(e:l.length=n)(a:l.length<=1099511627776)(d:l.length<=c)(w:World)(h:Hp)(g:G w h)(b:SlO 1 aj 0 h A l):CV 138 #[.slice A n c] w h (.slice A (tl l n) c):=by
 subst e;exact Dl A c l a d w h g b
theorem G8 (rb:Nat)(l:List Nat)(c d:Nat)(hd:0<d)(U:d<18446744073709551616)(hW:Wd l)(hl:l.length<=1000000000)(hc:l.length<=c)(w:World)(h:Hp)(g:G w h)(Y:Own w rb 23 (l.flatMap aj))(W:h[rb]?=some bj):Calls Tryz.prog 154 #[.slice (sB rb) l.length c,mV d] w (dX rb w h fun v w' _=>∃ z:List Nat,∃ r:Nat,v=.tuple #[.slice (sB rb) (tl z z.length) c,uV r]/\z.length=l.length/\Wd z/\aF l=d*aF z+r/\r<d/\Own w' rb 23 (z.flatMap aj)):=by
 have e:UpM [rb] w h w h:=UpM.refl g;obtain ⟨wz,hz,a⟩:=SS.at_ g Y W;have Q:l.length=l.length:=rfl;refine go Tryz.func154 [(0,qS (sB rb) l.length c),(1,mV d)] rfl (aa a aK (aR (lL a ac (af (aa a [.c,.v (nV l.length)] (lV 10 (iV ((l.length:Int)-1)) ?_ (hr:=rS (((l.length:Nat)-1)) kR ((gj oM oM).trans oM))))))));refine lL a ac (bh ?_);refine cj _ (CG.loop (fun y Γ H=>∃ (m:Nat)(z:List Nat)(r:Nat)(h_:Hp),y=m/\Γ=[(0,qS (sB rb) l.length c),(1,mV d),(4,sZ),(5,uV 0),(7,iV ((m:Int)-1)),(6,mV r)]/\SS wz hz H h_ [⟨rb,23,(z).flatMap aj⟩] [] []/\m<=l.length/\z.length=l.length/\Wd z/\aF l=d*(18446744073709551616^m*ak 18446744073709551616 (z.drop m))+(18446744073709551616^m*r+ak 18446744073709551616 (z.take m))/\r<d/\UpM [rb] w h H h_) _ ⟨l.length,l,0,h,rfl,rfl,a.to _ _,nR _,rfl,hW,(by show ak _ l=_;simp[ak,Jz]),hd,e⟩ ?_);rintro _ _ w1 ⟨m,z,r,h2,Z,rfl,a,hm,i,B,inv,F,e⟩;refine cQ (aa a ac ?_);cases j:(decide ((0:Int)<=((m:Int)-1:Int)))
 .
  have p:=oF j;refine lB 12 j (ah (CG.exit ?_))
  show CG _ _ _ _ _ _ _ _
  refine aa a ac (B0 29 0 a (fun _ g_ f_ D=>En (sB rb) c (z) (l.length) i oM oM _ _ g_ (SlO.of_flat (sz:=1) (f:=aj) (d:=0) (b:=rb) (o:=0) (l:=z) (fun _=>rfl) D)) ?_);rintro _ w5 h6 X a rfl;replace e:=e.trans (X.m _);refine lL a fE (lN (kX ?_));have C:m=0:=by omega
  rw[C] at inv
  exact a.retM e [] (.tuple #[qS (sB rb) (tl (z) l.length) c,mV r]) ⟨z,r,by rw[i],i,B,(by simp only[JJ,Ab,yb,JK,ak] at inv;exact inv),F,a.own 0⟩
 have p:=oT j;refine lB 12 j (au (cK (cQ (kZ (kQ (lL a I1 (lX 21 (sB rb) l.length c 1 ((m:Int)-1) (m-1) rfl ?_)))))));have O:=B.get (m-1);refine lQ 22 0 z aj 1 0 (m-1) (mV ((z).getD (m-1) 0)) a oM (lL a ac (j6 24 (vo r ((z).getD (m-1) 0) d oM wM wM _ _ a.g) ?_));rintro _ _ zb u ⟨x,I,rfl,L,J,K⟩;replace e:=e.trans (u.m _);replace a:=a.step u;refine lL a [.c,.v (mV x),.v (mV I)] (lX 27 (sB rb) l.length c 1 ((m:Int)-1) (m-1) rfl ?_);refine HB 0 z aj 1 (m-1) x a oM (fun _ V a=>?_);replace e:=e.put V (ov.2 rfl) a.g;have M:((z).set (m-1) x).length=l.length:=by rw[Gx];exact i
 replace a:=a.to [⟨rb,23,((z).set (m-1) x).flatMap aj⟩] [];refine lL a ac (lN (kQ (lL a ac (lV 14 (iV (((m-1:Nat):Int)-1)) ?_ (hr:=rS ((((m:Int)-1)-1)) kR ((gj oM oM).trans oM))))));refine lL a ac (lD ?_);intro a_ S;refine ⟨_,_,?_,⟨m-1,(z).set (m-1) x,I,zb,rfl,rfl,a.to _ _,oM,M,(B.set _ oM),(Bu oM (by rw[show m-1+1=m by omega];exact inv) oM),oM,e⟩,S.to _ kR⟩
 omega
theorem DY {u:List Nat}{k:Nat}(hk:2<=k):w3 (u.getD k 0) (u.getD (k-1) 0) (u.getD (k-2) 0)=u.getD k 0*18446744073709551616*18446744073709551616+u.getD (k-1) 0*18446744073709551616+u.getD (k-2) 0:=by
 unfold w3
 rw[yT (u.getD k 0) 18446744073709551616,yT (18446744073709551616*u.getD k 0) 18446744073709551616,yT (u.getD (k-1) 0),yV]
theorem E4 {b a:Nat}:w2 b a=b*18446744073709551616+a:=by unfold w2;rw[yT]
section
variable {n j G:Nat}{u v:List Nat}
theorem Fp (x:2<=n)(f:v.length=n)(a:Wd v)(d:Wd u)(e:j+n<u.length)(hR:aF u<18446744073709551616^(j+1)*aF v):u.getD (j+n) 0<=v.getD (n-1) 0:=by
 rcases eb (v.getD (n-1) 0) (u.getD (j+n) 0) with h|h
 ·exfalso
  have e1:=aZ 18446744073709551616 (l:=v) (k:=n-1) oM;rw[show n-1+1=v.length by omega,yd] at e1
  have h1:=ci (Dg.take a (n-1));rw[yY,yZ oM] at h1
  have e2:=aZ 18446744073709551616 (l:=u) (k:=j+n) oM;have b:=bT 18446744073709551616 (l:=u) (k:=j+n+1) oM;have p:18446744073709551616^(j+n)*(v.getD (n-1) 0+1)<=18446744073709551616^(j+n)*u.getD (j+n) 0:=y9 _ h
  have c:18446744073709551616^(j+1)*aF v<18446744073709551616^(j+1)*(18446744073709551616^(n-1)*(v.getD (n-1) 0+1)):=by
   refine z1 ?_ (zW kD)
   show ak _ v<_
   rw[e1,yV,Nat.mul_one];omega
  rw[<-yW,<-y8,show j+1+(n-1)=j+n by omega] at c
  have o:aF u=ak 18446744073709551616 (u.take (j+n))+18446744073709551616^(j+n)*u.getD (j+n) 0+18446744073709551616^(j+n+1)*ak 18446744073709551616 (u.drop (j+n+1)):=by
   show ak _ u=_
   rw[b,e2]
  have i:=JL (18446744073709551616^(j+n+1)*ak 18446744073709551616 (u.drop (j+n+1)))
  omega
 ·exact h
theorem vt (l:2<=n)(f:v.length=n)(c:Wd v)(b:Wd u)(e:j+n<u.length)(a:v.getD (n-1) 0≠0)(hR:aF u<18446744073709551616^(j+1)*aF v)(h:AE (u.getD (j+n) 0) (u.getD (j+n-1) 0) (u.getD (j+n-2) 0) (v.getD (n-1) 0) (v.getD (n-2) 0) G) :
  aF u/(18446744073709551616^j*aF v)<=G/\G<=aF u/(18446744073709551616^j*aF v)+1:=by
 obtain ⟨h1,d,i⟩:=h;rw[DY oM,E4] at h1 d
 exact ui kD l f c b e a hR h1 d i
theorem wj (f:2<=n)(d:v.length=n)(a:Wd v)(c:v.getD (n-1) 0≠0):18446744073709551616^(n-1)<=aF v/\aF v<18446744073709551616^n:=by
 have b:=ci a;rw[d] at b
 refine ⟨?_,b⟩;have e1:=aZ 18446744073709551616 (l:=v) (k:=n-1) oM;rw[show n-1+1=v.length by omega,yd] at e1
 have e:18446744073709551616^(n-1)*1<=18446744073709551616^(n-1)*v.getD (n-1) 0:=y9 _ oM
 show _<=ak _ v
 omega
theorem wV (d:2<=n)(c:v.length=n)(a:Wd v)(hR:aF u<18446744073709551616^(j+1)*aF v):aF u<18446744073709551616^(j+n+1):=by
 have b:=ci a;rw[c] at b
 have h1:18446744073709551616^(j+1)*aF v<18446744073709551616^(j+1)*18446744073709551616^n:=z1 b (zW kD);rw[<-y8,show j+1+n=j+n+1 by omega] at h1
 omega
theorem Bf {u1:List Nat}(i:2<=n)(l:v.length=n)(a:Wd v)(h:Wd u)(f:Wd u1)(y:j+n<u.length)(d:v.getD (n-1) 0≠0)(hR:aF u<18446744073709551616^(j+1)*aF v)
  (o:aF u/(18446744073709551616^j*aF v)<=G/\G<=aF u/(18446744073709551616^j*aF v)+1)(c:Above u1 u (j+n+1))(e:aF u1+18446744073709551616^j*(G*aF v)=aF u+18446744073709551616^(j+n+1)*0) :
  aF u1<18446744073709551616^j*aF v/\aF u1+18446744073709551616^j*(G*aF v)=aF u:=by
 obtain ⟨p,x⟩:=wj i l a d;have hb:=jl (b:=18446744073709551616) kD c f h (by rw[c.1];omega) (wV i l a hR);have:=(jQ (b:=18446744073709551616) kD i p x hR hb e (JL 1) o).1 rfl;rw[y2,ya] at e
 exact ⟨this.2.2.1,e⟩
theorem Hg {b a W K T c:Nat}(e2:a+T*c=b+W)(i:b+W=K+T)(f:a<T)(j:K<W)(e:W<=T):a=K:=by
 have d:c=1:=by
  rcases Nat.lt_trichotomy c 1 with h|h|h
  ·have:c=0:=by omega
   subst this;omega
  ·exact h
  ·have l:T*2<=T*c:=y9 _ h
   omega
 subst d
 omega
theorem Er {u1 d:List Nat}{c:Nat}(B:2<=n)(D:v.length=n)(i:Wd v)(f:Wd u)(y:Wd u1)(x:Wd d)(O:j+n<u.length)(l:v.getD (n-1) 0≠0)(hR:aF u<18446744073709551616^(j+1)*aF v)
  (J:aF u/(18446744073709551616^j*aF v)<=G/\G<=aF u/(18446744073709551616^j*aF v)+1)(h:Above u1 u (j+n+1))(a:Above d u (j+n+1))(e:aF u1+18446744073709551616^j*(G*aF v)=aF u+18446744073709551616^(j+n+1)*1)
  (e2:aF d+18446744073709551616^(j+n+1)*c=aF u1+18446744073709551616^j*aF v) :
  aF d<18446744073709551616^j*aF v/\aF d+18446744073709551616^j*((G-1)*aF v)=aF u/\0<G:=by
 obtain ⟨H,C⟩:=wj B D i l;have o:=wV B D i hR;have hb:=jl (b:=18446744073709551616) kD h y f (by rw[h.1];omega) o;have z:=jl (b:=18446744073709551616) kD a x f (by rw[a.1];omega) o;obtain ⟨L,M,F,K⟩:=(jQ (b:=18446744073709551616) kD B H C hR hb e oM J).2 rfl
 have p:18446744073709551616^j*aF v<=18446744073709551616^(j+n+1):=by
  have h1:18446744073709551616^j*aF v<=18446744073709551616^j*18446744073709551616^n:=y9 _ (Nat.le_of_lt C);rw[<-y8] at h1
  have I:(18446744073709551616:Nat)^(j+n)<=18446744073709551616^(j+n+1):=y6 kD oM;exact eu h1 I
 have hk:aF d=aF u-18446744073709551616^j*((G-1)*aF v):=Hg e2 M z F p;exact ⟨by rw[hk];exact F,by rw[hk];exact Nat.sub_add_cancel K,by rw[L];exact JO _⟩
theorem DP {u1:List Nat}(i:2<=n)(l:v.length=n)(a:Wd v)(h:Wd u)(f:Wd u1)(z:j+n<u.length)(d:v.getD (n-1) 0≠0)(hR:aF u<18446744073709551616^(j+1)*aF v)
  (o:aF u/(18446744073709551616^j*aF v)<=G/\G<=aF u/(18446744073709551616^j*aF v)+1)(c:Above u1 u (j+n+1))(e:aF u1+18446744073709551616^j*(G*aF v)=aF u+18446744073709551616^(j+n+1)*1):0<G:=by
 obtain ⟨p,x⟩:=wj i l a d;have hb:=jl (b:=18446744073709551616) kD c f h (by rw[c.1];omega) (wV i l a hR);obtain ⟨y,_⟩:=(jQ (b:=18446744073709551616) kD i p x hR hb e (ep 1) o).2 rfl;rw[y];exact JO _
theorem Bt (j:n<=u.length)(d:v.length=n)(b:Wd v)(a:Wd u)(hR:aF u<aF v):aF (u.take n)=aF u:=by
 have c:=ci b;rw[d] at c
 have h:ak 18446744073709551616 u<18446744073709551616^(n+0):=Nat.lt_trans hR c;have hz:=(ib 18446744073709551616 (l:=u) (k:=n) (m:=0) oM kD a h).2;have e:=bT 18446744073709551616 (l:=u) (k:=n) j;have f:ak 18446744073709551616 (u.drop n)=0:=gu _ (fun i=>by rw[bF];exact hz _ oM);rw[f,y2,ya] at e
 exact e.symm
end
theorem xu {q:List Nat}{j Q X V R R':Nat}(b:j<q.length)(h0:q.getD j 0=0)(inv:X=aF q*V+R)(e:R'+18446744073709551616^j*(Q*V)=R):X=aF (q.set j Q)*V+R':=by
 have a:=cV 18446744073709551616 (l:=q) (k:=j) Q b;rw[h0,y2,ya] at a
 have c:aF (q.set j Q)=aF q+18446744073709551616^j*Q:=a;rw[c,z7,inv,<-e,yW];omega
theorem D9 {X V R q a b s:Nat}(c:V=b*2^s)(f:X=a*2^s)(inv:X=q*V+R)(hR:R<V):q=a/b/\R/2^s=a%b:=by
 have j:=y5 s;have i:0<V:=by omega
 have hb:0<b:=by
  rcases yA b with h|h
  ·rw[h,yi] at c;omega
  ·exact h
 have e1:a*2^s=V*q+R:=by rw[<-f,inv,yT]
 obtain ⟨h1,e⟩:=mK (A:=a) (y:=b) (Q:=q) c e1 hR;have d:a=R/2^s+b*q:=by omega
 constructor
 ·rw[d,zT _ _ hb,yQ e,yl]
 ·rw[d,H1,yr e]
theorem xr {a s:Nat}(c:s<=64)(h:a*2^s<18446744073709551616):a*2^s+2^s<=18446744073709551616:=by
 have e:=uT c;rw[e] at h ⊢
 have h1:a<2^(64-s):=Bs h;have b:(a+1)*2^s<=2^(64-s)*2^s:=ym _ h1;rw[z7,Ab] at b
 exact b
theorem uR {x y:List Nat}{s:Nat}(c:Wd x)(h:Wd y)(j:1<=y.length)(b:y.getD (y.length-1) 0≠0)(f:y.length<=x.length):aF x*2^s<18446744073709551616^(x.length-y.length+1)*(aF y*2^s):=by
 have e1:=aZ 18446744073709551616 (l:=y) (k:=y.length-1) oM;rw[show y.length-1+1=y.length by omega,yd] at e1
 have i:18446744073709551616^(y.length-1)*1<=18446744073709551616^(y.length-1)*y.getD (y.length-1) 0:=y9 _ oM;have d:18446744073709551616^(y.length-1)<=aF y:=by show _<=ak _ y;omega
 have a:18446744073709551616^(x.length-y.length+1)*18446744073709551616^(y.length-1)<=18446744073709551616^(x.length-y.length+1)*aF y:=y9 _ d;rw[<-y8,show x.length-y.length+1+(y.length-1)=x.length by omega] at a
 have e:aF x<18446744073709551616^x.length:=ci c;rw[<-yW];exact D0 (ey e a) (y5 s)
theorem Ey (A:Z9)(c:Nat)(x:List Nat)(m:Nat)(hm:x.length=m)(b:Wd x)(a:x.length<=1000000000)(n:Nat)(e:n<=1000000000)(w:World)(h:Hp)(g:G w h)(d:SlO 1 aj 0 h A x):CR 184 #[.slice A m c,nV n] w h (fun v h1=>Cb h1 v (x.length-n/64) (fun z=>aF z=aF x/2^n)):=by
 subst hm;exact GF A c x b a n e w h g d
theorem EE {y z:List Nat}{s:Nat}(a:s<=64)(j:Wd y)(hz:Wd z)(f:aF z=aF y*2^s)(B:1<=y.length)(x:y.getD (y.length-1) 0*2^s<18446744073709551616)(h:y.length<=z.length):aF (z.take y.length)=aF y*2^s:=by
 have d:aF z<18446744073709551616^(y.length+0):=by
  rw[f,ya];have e1:=aZ 18446744073709551616 (l:=y) (k:=y.length-1) oM;rw[show y.length-1+1=y.length by omega,yd] at e1
  have h1:=ci (Dg.take j (y.length-1));rw[yY,yZ oM] at h1
  have o:aF y<18446744073709551616^(y.length-1)*(y.getD (y.length-1) 0+1):=by
   show ak _ y<_
   rw[e1,yV,Nat.mul_one];omega
  have u:aF y*2^s<18446744073709551616^(y.length-1)*(y.getD (y.length-1) 0+1)*2^s:=D0 o (y5 s)
  have c:18446744073709551616^(y.length-1)*(y.getD (y.length-1) 0+1)*2^s<=18446744073709551616^y.length:=by
   have p:(18446744073709551616:Nat)^y.length=18446744073709551616^(y.length-1)*18446744073709551616:=by rw[<-yS];congr 1;omega
   rw[p,yW];refine y9 _ ?_;rw[z7,Ab];exact xr a x
  exact ey u c
 have b:=(ib 18446744073709551616 (l:=z) (k:=y.length) (m:=0) oM kD hz d).2;have e:=bT 18446744073709551616 (l:=z) (k:=y.length) oM;have c:ak 18446744073709551616 (z.drop y.length)=0:=gu _ (fun i=>by rw[bF];exact b _ oM);rw[c,y2,ya] at e
 rw[<-f];exact e.symm
theorem Bw {y v:List Nat}{s:Nat}(f:Wd y)(hv:Wd v)(a:v.length=y.length)(d:aF v=aF y*2^s)(j:1<=y.length)(e:9223372036854775808<=y.getD (y.length-1) 0*2^s):v.getD (v.length-1) 0≠0:=by
 intro h0;have e1:=aZ 18446744073709551616 (l:=v) (k:=v.length-1) oM;rw[show v.length-1+1=v.length by omega,yd,h0,y2,ya] at e1
 have h1:=ci (Dg.take hv (v.length-1));rw[yY,yZ oM] at h1
 have e2:=aZ 18446744073709551616 (l:=y) (k:=y.length-1) oM;rw[show y.length-1+1=y.length by omega,yd] at e2
 have c:18446744073709551616^(y.length-1)*y.getD (y.length-1) 0<=aF y:=by show _<=ak _ y;omega
 have b:18446744073709551616^(y.length-1)*y.getD (y.length-1) 0*2^s<=aF y*2^s:=ym _ c;rw[yW] at b
 have i:18446744073709551616^(y.length-1)*1<=18446744073709551616^(y.length-1)*(y.getD (y.length-1) 0*2^s):=y9 _ oM
 have h:aF v<18446744073709551616^(y.length-1):=by
  show ak _ v<_
  rw[e1,<-a];exact h1
 omega
theorem Ej (A:Z9)(c:Nat)(x:List Nat)(D:Z9)(d:Nat)(y:List Nat)(hx:Wd x)(hy:Wd y)(hlx:x.length<=1000000000)(hny:2<=y.length)(hxy:y.length<=x.length)(b2:y.getD (y.length-1) 0≠0)(w:World)(h:Hp)(g:G w h)(hA:SlO 1 aj 0 h A x)(hD:SlO 1 aj 0 h D y):CR 155 #[.slice A x.length c,.slice D y.length d] w h (fun v h1=>∃ Aq cq,∃ q:List Nat,∃ Ar cr,∃ r:List Nat,v=.tuple #[.slice Aq q.length cq,.slice Ar r.length cr]/\q.length<=cq/\r.length<=cr/\Wd q/\Wd r/\aF q=aF x/aF y/\aF r=aF x%aF y/\q.length<=x.length/\r.length<=y.length/\SlO 1 aj 0 h1 Aq q/\SlO 1 aj 0 h1 Ar r):=by
 have e:=(((sS g).aS hA).aS hD);refine go Tryz.func155 [(0,qS A x.length c),(1,qS D y.length d)] rfl (aa e aK (aR (lL e [.c,.v (nV y.length),.c] (aR (lL e aK (bI 25 ((y.length:Nat)-1) (y.length-1) ?_))))));refine lX 26 D y.length d 1 (y.length-1:Nat) (y.length-1) ((e.f.1).ok oM) (lH 27 (mV (y.getD (y.length-1) 0)) e ((e.f.1).el (y.length-1) oM) ?_);have hyt:=hy.get (y.length-1);refine am 28 e (Do (y.getD (y.length-1) 0) wM _ _ e.g) (fun w1 h2 e=>lL e ac (aR (lL e aK (lC 31 e (vO D d y hy oM (64-nb (y.getD (y.length-1) 0)) oM _ _ e.g e.f.1) ?_))));rintro _ w3 h4 e ⟨V,vc,zv,rfl,hvc,d0,hWv,hVv,hFv⟩;replace e:=e.aS hFv;refine lL e ac (lT 33 V zv.length vc 1 (y.length:Nat) y.length ?_);obtain ⟨p,hvl_⟩:∃ p,p=zv.take y.length:=⟨_,rfl⟩;have bk:p.length=y.length:=by rw[hvl_,yY];omega
 have C:Wd p:=by rw[hvl_];exact Dg.take hWv _
 have c6:=(cC (n:=y.getD (y.length-1) 0) oM).2.2;have bb:=rH (y:=y.getD (y.length-1) 0) oM (hy.get _);have Y:aF p=aF y*2^(64-nb (y.getD (y.length-1) 0)):=by rw[hvl_];exact EE oM hy hWv hVv oM bb.2 oM
 have M:p.getD (p.length-1) 0≠0:=Bw hy C bk Y oM bb.1;replace e:=e.aS ((e.f.1).take y.length);rw[<-hvl_] at e
 refine lL e ac (aR (lL e [.c,.v (nV x.length)] (bI 36 ((x.length:Nat)+1) (x.length+1) ?_)));refine lK 37 23 (x.length+1) 1 8 (uV 0) aj 0 e (fun z w6 h7 e=>?_);have hl8:(yp (x.length+1) 0).length=(x.length+1):=by simp
 refine lL e ac (aR (lL e fE (lC 41 e (vO A c x hx hlx (64-nb (y.getD (y.length-1) 0)) oM _ _ e.g e.f.r.2.1) ?_)));rintro _ w9 _ e ⟨Uo,uc,zu,rfl,huc,c4,b0,hVu,hFu⟩;replace e:=e.aS hFu;have bz:zu.length=x.length+1:=by omega
 refine Je 42 0 (.tmp 38) (.tmp 41) 188 23 aj 0 Uo zu (x.length+1) zu.length uc (x.length+1) e e.f.1 rfl oM oM (by show ((yp (x.length+1) 0).flatMap aj).length=_;rw[dG (sz:=1) (fun _=>rfl)];simp) (fun _ e=>?_);replace e:=e.to [⟨z,23,(zu).flatMap aj⟩] [];refine aR (lL e [.c,.v (nV x.length),.c] (bI 46 ((x.length:Nat)-(y.length:Nat)) (x.length-y.length) ?_));refine bI 47 ((x.length-y.length:Nat)+1) ((x.length-y.length)+1) (lK 48 23 ((x.length-y.length)+1) 1 8 (uV 0) aj 0 e (fun O _ zD e=>?_));have zt:(yp ((x.length-y.length)+1) 0).length=((x.length-y.length)+1):=by simp
 refine lL e ac (af (aa e [.c,.v (nV x.length),.c] (lV 52 (iV (((x.length-y.length+1:Nat):Int)-1)) ?_ (hr:=rS (((x.length:Nat)-(y.length:Nat))) kR ((gj oM oM).trans oM)))));refine lL e ac (lN (cj [(4,qS (sB O) ((x.length-y.length)+1) ((x.length-y.length)+1)),(5,sZ),(6,nV y.length),(7,nV (64-nb (y.getD (y.length-1) 0))),(8,qS V y.length vc),(9,qS (sB z) (x.length+1) (x.length+1)),(10,iV (((x.length-y.length+1:Nat):Int)-1))] ?_));refine kZ ?_;refine cj _ (CG.loop (fun μ_ Γ w_=>∃ (m:Nat)(H:List Nat)(K:List Nat)(B:Hp),μ_=m/\Γ=[(4,qS (sB O) ((x.length-y.length)+1) ((x.length-y.length)+1)),(5,sZ),(6,nV y.length),(7,nV (64-nb (y.getD (y.length-1) 0))),(8,qS V y.length vc),(9,qS (sB z) (x.length+1) (x.length+1)),(10,iV ((m:Int)-1))]/\SS w h w_ B [⟨O,23,(K).flatMap aj⟩,⟨z,23,(H).flatMap aj⟩] [] [fun B=>SlO 1 aj 0 B Uo zu,fun B=>SlO 1 aj 0 B V p,fun B=>SlO 1 aj 0 B V zv,fun B=>SlO 1 aj 0 B D y,fun B=>SlO 1 aj 0 B A x]/\m<=x.length-y.length+1/\H.length=x.length+1/\Wd H/\K.length=x.length-y.length+1/\Wd K/\aF H<18446744073709551616^m*aF p/\aF zu=aF K*aF p+aF H/\(∀ k,k<m->K.getD k 0=0)) _ ⟨x.length-y.length+1,zu,yp ((x.length-y.length)+1) 0,zD,rfl,rfl,e.to _ _,nR _,bz,b0,zt,Wd.rep _,(by rw[hVu,Y];exact uR hx hy oM b2 oM),(by show _=ak _ _*_+_;rw[ff,yi,yl]),fun k _=>gc⟩ ?_);rintro _ _ _ ⟨m,H,K,_,d1,rfl,e,hm,hul,J,hql,hWq,hR,inv,hq0⟩;refine cQ (aa e ac ?_);cases zd:(decide ((0:Int)<=((m:Int)-1:Int)))
 .
  have zl:=oF zd;refine lB 54 zd (ah (CG.exit ?_))
  show CG _ _ _ _ _ _ _ _
  refine aD ?_;have hm0:m=0:=by omega
  obtain ⟨_,e,bx,d2,c3⟩:=e.pub 0;replace e:=(e.to [⟨z,23,(H).flatMap aj⟩] []).aS (SlO.of_flat (sz:=1) (f:=aj) (d:=0) (b:=O) (o:=0) (l:=K) (fun _=>rfl) bx);obtain ⟨_,e,b3,dn,c9⟩:=e.pub 0;replace e:=(e.to [] []).aS (SlO.of_flat (sz:=1) (f:=aj) (d:=0) (b:=z) (o:=0) (l:=H) (fun _=>rfl) b3);refine lL e fE (lT 190 (sB z) (x.length+1) (x.length+1) 1 (y.length:Nat) y.length ?_);refine lL e ac (lC 192 e (Ey (sB z) (x.length+1) (H.take y.length) y.length (by rw[yY];omega) (Dg.take J _) (by rw[yY];omega) (64-nb (y.getD (y.length-1) 0)) oM _ _ e.g ((e.f.1).take y.length)) ?_);rintro _ _ _ e ⟨Ar,cr,zr,rfl,hcr,hlr,hWr,hVr,hFr⟩;replace e:=e.aS hFr;refine lL e aK (lN (kX ?_));rw[hm0,JJ,Ab] at hR
  obtain ⟨hQ,hRm⟩:=D9 Y hVu inv hR;rw[Bt (v:=p) oM oM C J hR] at hVr
  exact e.ret [] (.tuple #[qS (sB O) ((x.length-y.length)+1) ((x.length-y.length)+1),qS Ar zr.length cr]) (⟨_,_,K,Ar,cr,zr,by rw[hql],by omega,hcr,hWq,hWr,hQ,hVr.trans hRm,by omega,(by have:=List.length_take_le y.length H;omega),e.f.r.1,e.f.1⟩)
 have zl:=oT zd;refine lB 54 zd (au (cK (cQ (kZ (cQ (cR 31 [] mixed e aq ?_))))));have hm1:0<m:=by omega
 have hn2:2<=p.length:=by omega
 have X:m-1+p.length<H.length:=by omega
 have hR1:aF H<18446744073709551616^(m-1+1)*aF p:=by rw[show m-1+1=m by omega];exact hR
 have hle:=Fp (n:=p.length) (j:=m-1) hn2 rfl C J X hR1;refine eV 0 57 (qS (sB z) (x.length+1) (x.length+1)) (eV 1 58 (iV ((m:Int)-1)) (eV 2 59 (nV y.length) (mt 3 60 (((m:Int)-1)+(y.length:Nat)) (m-1+p.length) (eX 4 61 (sB z) (x.length+1) (x.length+1) 1 (m-1+p.length:Nat) (m-1+p.length) rfl (eQ 5 62 1 H aj 1 0 (m-1+p.length) (mV ((H).getD (m-1+p.length) 0)) e oM (eV 6 63 (qS (sB z) (x.length+1) (x.length+1)) (eV 7 64 (iV ((m:Int)-1)) (eV 8 65 (nV y.length) (mt 9 66 (((m:Int)-1)+(y.length:Nat)) (m-1+p.length) (mt 10 67 ((m-1+p.length:Nat)-1) (m-1+p.length-1) (eX 11 68 (sB z) (x.length+1) (x.length+1) 1 (m-1+p.length-1:Nat) (m-1+p.length-1) rfl (eQ 12 69 1 H aj 1 0 (m-1+p.length-1) (mV ((H).getD (m-1+p.length-1) 0)) e oM (eV 13 70 (qS (sB z) (x.length+1) (x.length+1)) (eV 14 71 (iV ((m:Int)-1)) (eV 15 72 (nV y.length) (mt 16 73 (((m:Int)-1)+(y.length:Nat)) (m-1+p.length) (mt 17 74 ((m-1+p.length:Nat)-2) (m-1+p.length-2) (eX 18 75 (sB z) (x.length+1) (x.length+1) 1 (m-1+p.length-2:Nat) (m-1+p.length-2) rfl (eQ 19 76 1 H aj 1 0 (m-1+p.length-2) (mV ((H).getD (m-1+p.length-2) 0)) e oM (eV 20 77 (qS V y.length vc) (eV 21 78 (nV y.length) (mt 22 79 ((y.length:Nat)-1) (p.length-1) (eX 23 80 V y.length vc 1 (p.length-1:Nat) (p.length-1) ((e.f.2.1).ok oM) (eH 24 81 (mV (p.getD (p.length-1) 0)) e ((e.f.2.1).el (p.length-1) oM) (eV 25 82 (qS V y.length vc) (eV 26 83 (nV y.length) (mt 27 84 ((y.length:Nat)-2) (p.length-2) (eX 28 85 V y.length vc 1 (p.length-2:Nat) (p.length-2) ((e.f.2.1).ok oM) (eH 29 86 (mV (p.getD (p.length-2) 0)) e ((e.f.2.1).el (p.length-2) oM) (eC 30 87 e (fun _ _ e=>DF (((H).getD (m-1+p.length) 0)) (((H).getD (m-1+p.length-1) 0)) (((H).getD (m-1+p.length-2) 0)) ((p.getD (p.length-1) 0)) ((p.getD (p.length-2) 0)) (J.get _) (J.get _) (J.get _) (C.get _) (C.get _) hle oM _ _ e.g) ?_))))))))))))))))))))))))))))));rintro _ _ _ _ _ e ⟨g,rfl,hG0⟩;have hG:=vt (n:=p.length) (j:=m-1) hn2 rfl C J X M hR1 hG0;have hgb:=hG0.2.2;refine bY e (fun _ zE e=>tV 31 11 (mV g) (tN (cj [(4,qS (sB O) ((x.length-y.length)+1) ((x.length-y.length)+1)),(5,sZ),(6,nV y.length),(7,nV (64-nb (y.getD (y.length-1) 0))),(8,qS V y.length vc),(9,qS (sB z) (x.length+1) (x.length+1)),(10,iV ((m:Int)-1)),(11,mV g)] ?_)));refine aa e aK (af (aa e aK (bh ?_)));refine cj _ (CG.loop (fun μ_ Γ w_=>∃ (i:Nat)(u1:List Nat)(cy:Nat)(bo:Nat)(B:Hp),μ_=y.length-i/\Γ=[(4,qS (sB O) ((x.length-y.length)+1) ((x.length-y.length)+1)),(5,sZ),(6,nV y.length),(7,nV (64-nb (y.getD (y.length-1) 0))),(8,qS V y.length vc),(9,qS (sB z) (x.length+1) (x.length+1)),(10,iV ((m:Int)-1)),(11,mV g),(88,nV y.length),(89,nV i),(12,mV cy),(13,mV bo)]/\SS w h w_ B [⟨O,23,(K).flatMap aj⟩,⟨z,23,(u1).flatMap aj⟩] [] [fun B=>SlO 1 aj 0 B Uo zu,fun B=>SlO 1 aj 0 B V p,fun B=>SlO 1 aj 0 B V zv,fun B=>SlO 1 aj 0 B D y,fun B=>SlO 1 aj 0 B A x]/\i<=y.length/\u1.length=x.length+1/\Wd u1/\cy<18446744073709551616/\bo<=1/\ak 18446744073709551616 u1+18446744073709551616^(m-1)*(g*ak 18446744073709551616 (p.take i))=aF H+18446744073709551616^(m-1+i)*(cy+bo)/\Above u1 H (m-1+p.length+1)) _ ⟨0,H,0,0,zE,rfl,rfl,e.to _ _,JL _,hul,J,oM,oM,(by show ak _ H+_=ak _ H+_;simp[ak]),Above.refl _ _⟩ ?_);rintro _ _ _ ⟨i,u1,cy,bo,zq,cw,rfl,e,hi,hu1,hW1,hcy,hbo,W,bd⟩;have ch:=hW1.get (m-1+i);have hvk:=C.get i;refine aD ?_;cases ze:(decide ((i:Int)<(y.length:Int)))
 .
  have zm:=oF ze;refine lB 90 ze (af (cW (CG.exit ?_)))
  show CG _ _ _ _ _ _ _ _
  refine aD ?_;rw[show i=p.length by omega] at W
  have ds:=hW1.get (m-1+p.length);refine lL e fE (bI 132 (((m:Int)-1)+(y.length:Nat)) (m-1+p.length) ?_);refine lL e fE (bI 136 (((m:Int)-1)+(y.length:Nat)) (m-1+p.length) ?_);refine lX 137 (sB z) (x.length+1) (x.length+1) 1 (m-1+p.length:Nat) (m-1+p.length) rfl (lQ 138 1 u1 aj 1 0 (m-1+p.length) (mV ((u1).getD (m-1+p.length) 0)) e oM (lL e aK ?_));obtain ⟨I,zc,cm,c8,cx,bq⟩:=iU ((u1).getD (m-1+p.length) 0) cy bo wM wM oM;refine lV 141 (.tuple #[mV I,mV zc]) ?_ (hr:=dK kR (bq _));refine lL e [.c,.v (mV I),.v (mV zc)] (lX 144 (sB z) (x.length+1) (x.length+1) 1 (m-1+p.length:Nat) (m-1+p.length) rfl ?_);refine lW 1 u1 aj 1 (m-1+p.length) I e oM (fun _ e=>?_);have zk:((u1).set (m-1+p.length) I).length=(x.length+1):=by rw[Gx];exact hu1
  replace e:=e.to [⟨O,23,(K).flatMap aj⟩,⟨z,23,((u1).set (m-1+p.length) I).flatMap aj⟩] [];refine lL e ac (af (aD ?_));have hE:=Et oM W (s:=I) (bo':=zc) oM;have hW4:Wd ((u1).set (m-1+p.length) I):=hW1.set _ oM;have S:=bd.set (x:=I) (show m-1+p.length<m-1+p.length+1 by omega) oM;refine lL e ac ?_;cases zf:((zc:Int) != (0:Int))
  .
   have zn:=aY zf;refine lB 146 zf (ah (cK (kQ ?_)));have hD_:=Bf hn2 rfl C J hW4 X M hR1 hG S (by rw[show zc=0 by omega] at hE;exact hE);have hDw:=hW4;have hDg:=hgb;have hDu:=hD_.1;have hDe:=hD_.2;refine lL e fE (lX 186 (sB O) ((x.length-y.length)+1) ((x.length-y.length)+1) 1 ((m:Int)-1) (m-1) rfl ?_);refine lW 0 K aj 1 (m-1) g e oM (fun _ e=>?_);have zw:((K).set (m-1) g).length=((x.length-y.length)+1):=by rw[Gx];exact hql
   replace e:=e.to [⟨O,23,((K).set (m-1) g).flatMap aj⟩,⟨z,23,((u1).set (m-1+p.length) I).flatMap aj⟩] [];refine lN (kQ (lL e ac (lV 56 (iV (((m-1:Nat):Int)-1)) ?_ (hr:=rS ((((m:Int)-1)-1)) kR ((gj oM oM).trans oM)))));refine lL e ac (lD ?_);intro a_ ka;refine ⟨_,_,?_,⟨m-1,(u1).set (m-1+p.length) I,(K).set (m-1) g,zq,rfl,rfl,e.to _ _,oM,zk,hDw,zw,(hWq.set _ hDg),hDu,(xu oM (hq0 _ oM) inv hDe),(fun k hk=>by rw[bG oM,if_neg oM];exact hq0 k oM)⟩,ka.to _ kR⟩
   omega
  have zn:=a6 zf;refine lB 146 zf (au (aa e ac ?_));have hE1:=hE;rw[show zc=1 by omega] at hE1
  have hgp:=DP hn2 rfl C J hW4 X M hR1 hG S hE1;refine lV 148 (mV (g-1)) ?_ (hr:=rU (((g:Int)-(1:Int))) kR (gd g 1 oM oM));refine lL e ac (aR (lL e ac (af (aa e aK (bh ?_)))));refine cj _ (CG.loop (fun μ_ Γ w_=>∃ (u:Nat)(F:List Nat)(c2:Nat)(B:Hp),μ_=y.length-u/\Γ=[(4,qS (sB O) ((x.length-y.length)+1) ((x.length-y.length)+1)),(5,sZ),(6,nV y.length),(7,nV (64-nb (y.getD (y.length-1) 0))),(8,qS V y.length vc),(9,qS (sB z) (x.length+1) (x.length+1)),(10,iV ((m:Int)-1)),(11,mV (g-1)),(149,nV y.length),(150,nV u),(19,mV c2)]/\SS w h w_ B [⟨O,23,(K).flatMap aj⟩,⟨z,23,(F).flatMap aj⟩] [] [fun B=>SlO 1 aj 0 B Uo zu,fun B=>SlO 1 aj 0 B V p,fun B=>SlO 1 aj 0 B V zv,fun B=>SlO 1 aj 0 B D y,fun B=>SlO 1 aj 0 B A x]/\u<=y.length/\F.length=x.length+1/\Wd F/\c2<=1/\ak 18446744073709551616 F+18446744073709551616^(m-1+u)*c2=ak 18446744073709551616 ((u1).set (m-1+p.length) I)+18446744073709551616^(m-1)*ak 18446744073709551616 (p.take u)/\Above F H (m-1+p.length+1)) _ ⟨0,(u1).set (m-1+p.length) I,0,zq,rfl,rfl,e.to _ _,JL _,zk,hW4,oM,(by simp[ak]),S⟩ ?_);rintro _ _ _ ⟨u,F,c2,zG,cf,rfl,e,hi2,hu2,hW2,hc2,Z,bf⟩;have bt:=hW2.get (m-1+u);have c5:=C.get u;refine aD ?_;cases zg:(decide ((u:Int)<(y.length:Int)))
  .
   have zo:=oF zg;refine lB 151 zg (af (cW (CG.exit ?_)))
   show CG _ _ _ _ _ _ _ _
   refine kQ (lL e fE (bI 177 (((m:Int)-1)+(y.length:Nat)) (m-1+p.length) ?_));refine lX 178 (sB z) (x.length+1) (x.length+1) 1 (m-1+p.length:Nat) (m-1+p.length) rfl (lQ 179 1 F aj 1 0 (m-1+p.length) (mV ((F).getD (m-1+p.length) 0)) e oM (lL e ac (lV 181 (mV ((((F).getD (m-1+p.length) 0)+c2)%18446744073709551616)) ?_ (hr:=rU (((((F).getD (m-1+p.length) 0:Nat):Int)+(c2:Int))) kR (uY ((F).getD (m-1+p.length) 0) c2)))));refine lX 182 (sB z) (x.length+1) (x.length+1) 1 (m-1+p.length:Nat) (m-1+p.length) rfl (lW 1 F aj 1 (m-1+p.length) ((((F).getD (m-1+p.length) 0)+c2)%18446744073709551616:Nat) e oM (fun _ e=>?_));have zx:((F).set (m-1+p.length) ((((F).getD (m-1+p.length) 0)+c2)%18446744073709551616:Nat)).length=(x.length+1):=by rw[Gx];exact hu2
   replace e:=e.to [⟨O,23,(K).flatMap aj⟩,⟨z,23,((F).set (m-1+p.length) ((((F).getD (m-1+p.length) 0)+c2)%18446744073709551616:Nat)).flatMap aj⟩] [];refine lN (kQ ?_);have b1:u=p.length:=by omega
   rw[b1] at Z
   have bt:=hW2.get (m-1+p.length);have hE3:=Ew (s:=(F.getD (m-1+p.length) 0+c2)%18446744073709551616) (c':=(F.getD (m-1+p.length) 0+c2)/18446744073709551616) oM Z (Gb _ _);have hDw:Wd ((F).set (m-1+p.length) ((((F).getD (m-1+p.length) 0)+c2)%18446744073709551616:Nat)):=hW2.set _ (ys _ kD);obtain ⟨hDu,hDe,hDp⟩:=Er hn2 rfl C J hW4 hDw X M hR1 hG S (bf.set oM oM) hE1 hE3;have hDg:g-1<18446744073709551616:=by omega
   refine lL e fE (lX 186 (sB O) ((x.length-y.length)+1) ((x.length-y.length)+1) 1 ((m:Int)-1) (m-1) rfl ?_);refine lW 0 K aj 1 (m-1) (g-1) e oM (fun _ e=>?_);have zA:((K).set (m-1) (g-1)).length=((x.length-y.length)+1):=by rw[Gx];exact hql
   replace e:=e.to [⟨O,23,((K).set (m-1) (g-1)).flatMap aj⟩,⟨z,23,((F).set (m-1+p.length) ((((F).getD (m-1+p.length) 0)+c2)%18446744073709551616:Nat)).flatMap aj⟩] [];refine lN (kQ (lL e ac (lV 56 (iV (((m-1:Nat):Int)-1)) ?_ (hr:=rS ((((m:Int)-1)-1)) kR ((gj oM oM).trans oM)))));refine lL e ac (lD ?_);intro a_ ka;refine ⟨_,_,?_,⟨m-1,(F).set (m-1+p.length) ((((F).getD (m-1+p.length) 0)+c2)%18446744073709551616:Nat),(K).set (m-1) (g-1),zG,rfl,rfl,e.to _ _,oM,zx,hDw,zA,(hWq.set _ hDg),hDu,(xu oM (hq0 _ oM) inv hDe),(fun k hk=>by rw[bG oM,if_neg oM];exact hq0 k oM)⟩,ka.to _ kR⟩
   omega
  have zo:=oT zg;refine lB 151 zg (af (cl (cK (cQ (kZ (aa e aK (lN (cR 19 [] mixed e aq ?_))))))));refine eV 0 154 (qS (sB z) (x.length+1) (x.length+1)) (eV 1 155 (iV ((m:Int)-1)) (eV 2 156 (nV u) (mt 3 157 (((m:Int)-1)+(u:Nat)) (m-1+u) (eV 4 158 (qS (sB z) (x.length+1) (x.length+1)) (eV 5 159 (iV ((m:Int)-1)) (eV 6 160 (nV u) (mt 7 161 (((m:Int)-1)+(u:Nat)) (m-1+u) (eX 8 162 (sB z) (x.length+1) (x.length+1) 1 (m-1+u:Nat) (m-1+u) rfl (eQ 9 163 1 F aj 1 0 (m-1+u) (mV ((F).getD (m-1+u) 0)) e oM (eV 10 164 (qS V y.length vc) (eV 11 165 (nV u) (eX 12 166 V y.length vc 1 (u:Nat) u ((e.f.2.1).ok oM) (eH 13 167 (mV (p.getD u 0)) e ((e.f.2.1).el u oM) (eV 14 168 (mV c2) ?_))))))))))))));obtain ⟨Q,zj,df,dc,db,bn⟩:=d4 ((F).getD (m-1+u) 0) (p.getD u 0) c2 wM wM oM;refine eV 15 169 (.tuple #[mV Q,mV zj]) ?_ (hv:=fun _=>dK kR (bn _));refine eV 16 153 (.tuple #[mV Q,mV zj]) (eV 17 170 (mV Q) (eV 18 171 (mV zj) (bY e (fun _ zH e=>tX 19 172 (sB z) (x.length+1) (x.length+1) 1 (m-1+u:Nat) (m-1+u) rfl (tW 20 1 F aj 1 (m-1+u) Q e oM (fun _ e=>?_))))));have zB:((F).set (m-1+u) Q).length=(x.length+1):=by rw[Gx];exact hu2
  replace e:=e.to [⟨O,23,(K).flatMap aj⟩,⟨z,23,((F).set (m-1+u) Q).flatMap aj⟩] [];refine tV 21 19 (mV zj) (tN (kQ (bI 173 ((u:Nat)+1) (u+1) ?_)));refine lL e ac (lD ?_);intro a_ ka;refine ⟨_,_,?_,⟨u+1,(F).set (m-1+u) Q,zj,zH,rfl,rfl,e.to _ _,oM,zB,(hW2.set _ oM),oM,(AJ oM Z oM),(bf.set oM oM)⟩,ka.to _ kR⟩
  omega
 have zm:=oT ze;refine lB 90 ze (af (cl (cK (cQ (kZ (aa e aK (aR (lL e fE (lX 96 V y.length vc 1 (i:Nat) i ((e.f.2.1).ok oM) ?_)))))))));refine lH 97 (mV (p.getD i 0)) e ((e.f.2.1).el i oM) (lC 98 e (ny g (p.getD i 0) wM wM _ _ e.g) ?_);rintro _ _ zI e ⟨U,zs,rfl,dp,cp,cz,c7⟩;have b4:=ju (a:=g) (b:=(p.getD i 0)) wM wM;refine lL e [.c,.v (mV U),.v (mV zs),.c,.c] (aR (lL e aK ?_));obtain ⟨s99,zb,cb,b7,cc,bl⟩:=d4 zs cy 0 wM wM oM;refine lV 104 (.tuple #[mV s99,mV zb]) ?_ (hr:=dK kR (bl _));refine lL e [.c,.v (mV s99),.v (mV zb),.c,.c] (aR (lL e aK (lV 109 (mV (U+zb)) ?_ (hr:=rU (((U:Int)+(zb:Int))) kR (iM U zb oM)))));refine lL e ac (lN (kQ (lL e fE (bI 114 (((m:Int)-1)+(i:Nat)) (m-1+i) ?_))));refine lL e fE (bI 118 (((m:Int)-1)+(i:Nat)) (m-1+i) ?_);refine lX 119 (sB z) (x.length+1) (x.length+1) 1 (m-1+i:Nat) (m-1+i) rfl (lQ 120 1 u1 aj 1 0 (m-1+i) (mV ((u1).getD (m-1+i) 0)) e oM (lL e aK ?_));obtain ⟨L,zi,b9,b6,cd,bm⟩:=iU ((u1).getD (m-1+i) 0) s99 bo wM wM oM;refine lV 123 (.tuple #[mV L,mV zi]) ?_ (hr:=dK kR (bm _));refine lL e [.c,.v (mV L),.v (mV zi)] (lX 126 (sB z) (x.length+1) (x.length+1) 1 (m-1+i:Nat) (m-1+i) rfl ?_);refine lW 1 u1 aj 1 (m-1+i) L e oM (fun _ e=>?_);have zp:((u1).set (m-1+i) L).length=(x.length+1):=by rw[Gx];exact hu1
 replace e:=e.to [⟨O,23,(K).flatMap aj⟩,⟨z,23,((u1).set (m-1+i) L).flatMap aj⟩] [];refine lL e ac (lN (cj [(4,qS (sB O) ((x.length-y.length)+1) ((x.length-y.length)+1)),(5,sZ),(6,nV y.length),(7,nV (64-nb (y.getD (y.length-1) 0))),(8,qS V y.length vc),(9,qS (sB z) (x.length+1) (x.length+1)),(10,iV ((m:Int)-1)),(11,mV g),(88,nV y.length),(89,nV i),(12,mV (U+zb)),(13,mV zi)] ?_));refine kQ (bI 127 ((i:Nat)+1) (i+1) ?_);refine lL e ac (lD ?_);intro a_ ka;refine ⟨_,_,?_,⟨i+1,(u1).set (m-1+i) L,(U+zb),zi,zI,rfl,rfl,e.to _ _,oM,zp,(hW1.set _ oM),oM,oM,(Bg (t:=s99) oM W oM oM),(bd.set oM oM)⟩,ka.to _ kR⟩
 omega
theorem cZ (A:Z9)(c:Nat)(l:List Nat)(m x:Nat)(hm:l.length=m)(e:Wd l)(hv:aF l=x)(a:l.length<=1099511627776)(d:l.length<=c)(w:World)(h:Hp)(g:G w h)(b:SlO 1 aj 0 h A l):CV 116 #[.slice A m c] w h (nv x):=by
 subst hm hv;exact CQ A c l e a d w h g b
theorem He (a b:Nat)(H:(wds a).length<=1000000000)(K:(wds b).length<=1000000000)(p:a<18446744073709551616)(u:b<18446744073709551616)(w:World)(h:Hp)(g:G w h):CV 151 #[nv a,nv b] w h (nv (a+b)):=by
 have e:=sS g;have J:=yr p;have L:=yr u;refine go Tryz.func151 [(0,nv a),(1,nv b)] rfl (aD (lA 2 25 (nc a) e (fun B w2 S e=>lA 3 25 (nc b) e (fun C Q W e=>lA 4 25 ([uV 0,eS]) e (fun U O V e=>af (aa e [.v (qP B 1),.o (.string (hi a)) 2 1 1] (lV 14 qT ?_ (hr:=rb kR (jJ (em p))))))))));refine lL e [.c,.v (qP C 1),.o (.string (hi b)) 1 1 1] (lV 18 qT ?_ (hr:=rb kR (jJ (em u))));refine lL e [.v qT] (au (aa e [.v (pB B),.o (mV (a%18446744073709551616)) 2 0 1,.v (pB C),.o (mV (b%18446744073709551616)) 1 0 1] ?_));obtain ⟨i,j,z,F,D,x⟩:=d4 (a%18446744073709551616) (b%18446744073709551616) 0 wM wM oM;refine lV 25 (.tuple #[mV i,mV j]) ?_ (hr:=dK kR (x _));refine lL e [.c,.v (mV i),.v (mV j),.c,.c] (af (aa e ac ?_));cases y:((j:Int) == (0:Int))
 .
  have M:=ag y;refine lB 29 y (ah (cK (aa e aK (lR 34 23 2 ([mV i,mV j]) e (fun I _ _ e=>?_)))));replace e:=e.aS (SlO.of_flat (sz:=1) (f:=aj) (d:=0) (l:=[i,j]) (fun _=>rfl) e.f.1);exact am 35 e (cZ (sB I) 2 ([i,j]) 2 ((a+b)) (by first|rfl|assumption|(simp;done)|(simp;omega)|omega) (Dg.cons oM (Dg.one oM)) (by show i+18446744073709551616*(j+18446744073709551616*0)=a+b;omega) sM sM _ _ e.g e.f.1) (fun _ _ e=>lP 0 0 (nc (a+b)) e (fun _ e=>ae e [(0,0,2)] (nv (a+b)) rfl))
 have M:=eq_of_beq y;exact lB 29 y (au (aa e [.c,.v (.agg #[mV i,eS])] (lP 0 0 ([mV i,eS]) e (fun _ e=>ae e [(0,0,2)] (.agg #[mV i,eS]) (by rw[show i=a+b by omega];exact iR oM)))))
theorem FM (a b:Nat)(hla:(wds a).length<=1000000000)(hlb:(wds b).length<=1000000000)(has:18446744073709551616<=a)(hb0:0<b)(hle:(wds b).length<=(wds a).length)(w:World)(h:Hp)(g:G w h):CV 151 #[nv a,nv b] w h (nv (a+b)):=by
 have e:=sS g;refine go Tryz.func151 [(0,nv a),(1,nv b)] rfl (aD (lA 2 25 (nc a) e (fun C w2 h3 e=>lA 3 25 (nc b) e (fun F w5 h6 e=>lA 4 25 ([uV 0,eS]) e (fun D w8 h9 e=>af (aa e [.v (qP C 1),.o (.string (hi a)) 2 1 1] (lV 14 qF ?_ (hr:=rb kR (iF (eJ has))))))))));refine lL e ac (lG 16 ?_);refine lG 17 (lG 18 (lL e [.v qF] (ah (cK (cQ ?_)))));obtain ⟨K,hK_⟩:∃ K,K=w8.heap.size:=⟨_,rfl⟩;have bf:D<K:=by rw[hK_];exact eE e 0
 have H:F<K:=by rw[hK_];exact eE e 1
 have J:C<K:=by rw[hK_];exact eE e 2
 refine mq ⟨[],some (K,[])⟩ 0 mixed ?_;have b2:=e.g.size;replace e:=e.drew;have B:=JP hK_;refine zO 0 36 [(2,0,2)] (nv a) rfl B e (fun p hp=>by obtain rfl:=ov.1 hp;exact J) (zO 2 38 [(1,0,2)] (nv b) rfl B e (fun p hp=>by obtain rfl:=ov.1 hp;exact H) (rC 1 37 (fC a oM oM _ _ e.g) rfl B ?_));rintro _ _ _ u12 B ⟨j,rfl,O,Q,bl⟩;obtain ⟨_,e,-,-⟩:=e.take u12 O Q;replace e:=e.to [⟨j,23,(wds a).flatMap aj⟩,⟨D,25,[uV 0,eS]⟩,⟨F,25,nc b⟩,⟨C,25,nc a⟩] [];refine rC 3 39 (fC b oM oM _ _ e.g) rfl B ?_;rintro _ _ _ u16 B ⟨u,rfl,W,S,bq⟩;obtain ⟨zn,e,-,-⟩:=e.take u16 W S;replace e:=e.to [⟨u,23,(wds b).flatMap aj⟩,⟨j,23,(wds a).flatMap aj⟩,⟨D,25,[uV 0,eS]⟩,⟨F,25,nc b⟩,⟨C,25,nc a⟩] [];refine zV 4 7 (qS (sB j) ((wds a).length) ((wds a).length)) (zV 5 8 (qS (sB u) ((wds b).length) ((wds b).length)) (tN (cQ (aa e [.c,.v (nV ((wds a).length)),.c,.v (nV ((wds b).length))] ?_))));have ⟨zk,bd⟩:=dF (p:=(((wds a).length:Nat):Int)<(((wds b).length:Nat):Int)) oM;refine lB 44 zk (ah (cK (aa e ac (af (aa e [.c,.v (nV ((wds a).length)),.c] (bh ?_))))));refine cj _ (CG.loop (fun μ_ Γ w_=>∃ (i:Nat)(l:List Nat)(x:Nat)(h_:Hp),μ_=(wds a).length-i/\Γ=[(4,pB D),(7,qS (sB j) ((wds a).length) ((wds a).length)),(8,qS (sB u) ((wds b).length) ((wds b).length)),(48,nV ((wds a).length)),(49,nV i),(9,mV x)]/\SS w h w_ h_ [⟨u,23,(wds b).flatMap aj⟩,⟨j,23,(l).flatMap aj⟩,⟨D,25,[uV 0,eS]⟩,⟨F,25,nc b⟩,⟨C,25,nc a⟩] [] []/\i<=(wds a).length/\l.length=(wds a).length/\Wd l/\x<=1/\ak 18446744073709551616 l+18446744073709551616^i*x=a+ak 18446744073709551616 ((wds b:List Nat).take i)) _ ⟨0,wds a,0,zn,rfl,rfl,e.to _ _,JL _,rfl,Wd.wds _,oM,(by have hx_:ak 18446744073709551616 (wds a)=a:=ay _;rw[hx_];simp[ak])⟩ ?_);rintro _ _ _ ⟨i,l,x,zj,bx,rfl,e,hi,U,V,hcy,inv⟩;have hlk:=V.get i;have hyk:=(Wd.wds b).get i;refine aD ?_;cases Z:(decide ((i:Int)<(((wds a).length:Nat):Int)))
 .
  have zf:=oF Z;refine lB 50 Z (af (cW (CG.exit ?_)))
  show CG _ _ _ _ _ _ _ _
  refine cQ (aD ?_);have I:=inv;rw[z8 (show (wds b).length<=i by first|omega|(simp;done)|(simp;omega))] at I
  rw[show i=l.length by omega] at I
  have hE_:ak 18446744073709551616 (wds b)=b:=ay _;replace I:ak 18446744073709551616 l+18446744073709551616^l.length*x=(a+b):=by rw[I,hE_];first|done|omega
  refine lL e ac ?_;cases zb:((x:Int) != (0:Int))
  .
   have zg:=aY zb;refine lB 75 zb (ah (cK (aD ?_)));obtain ⟨_,e,M,bn,b3⟩:=e.pub 1;replace e:=(e.to [⟨u,23,(wds b).flatMap aj⟩,⟨D,25,[uV 0,eS]⟩,⟨F,25,nc b⟩,⟨C,25,nc a⟩] []).aS (SlO.of_flat (sz:=1) (f:=aj) (d:=0) (b:=j) (o:=0) (l:=l) (fun _=>rfl) M);exact lL e ac (am 81 e (cZ (sB j) ((wds a).length) (l) ((wds a).length) ((a+b)) (by first|rfl|assumption|(simp;done)|(simp;omega)|omega) (V) (by rw[show x=0 by omega,y2,ya] at I;exact I) sM sM _ _ e.g e.f.1) (fun _ _ e=>lP 1 0 (nc (a+b)) e (fun _ e=>ae e [(1,0,2)] (nv (a+b)) rfl)))
  have zg:=a6 zb;refine lB 75 zb (au (kQ (lL e aK (lR 78 23 1 ([mV x]) e (fun zo _ _ e=>HE 79 1 ((wds a).length) zo l aj 0 x 8 (uV 0) e e.f.1 oM oM (fun zp zq _ _ e bb=>?_))))));replace e:=e.to [⟨u,23,(wds b).flatMap aj⟩,⟨D,25,[uV 0,eS]⟩,⟨F,25,nc b⟩,⟨C,25,nc a⟩] [];exact lL e ac (aR (lL e ac (am 81 e (cZ zp zq (l++[x]) ((wds a).length+1) ((a+b)) (by first|rfl|assumption|(simp;done)|(simp;omega)|omega) (Dg.append V (Dg.one oM)) (by show ak _ (l++[x])=_;rw[dS];show _+_*(x+_*0)=_;rw[y2,ya];exact I) sM sM _ _ e.g e.f.1) (fun _ _ e=>lP 1 0 (nc (a+b)) e (fun _ e=>ae e [(1,0,2)] (nv (a+b)) rfl)))))
 have zf:=oT Z;refine lB 50 Z (af (cl (cK (cQ (kZ (aa e aK (aR (lL e ac (af (aa e [.c,.c,.v (nV ((wds b).length))] ?_))))))))));cases Y:(decide ((i:Int)<(((wds b).length:Nat):Int)))
 .
  have zi:=oF Y;refine lB 55 Y (ah (cK (kQ (lL e pR (lX 65 (sB j) ((wds a).length) ((wds a).length) 1 (i:Nat) i rfl ?_)))));refine lQ 66 1 l aj 1 0 i (mV ((l).getD i 0)) e oM (lL e aK ?_);obtain ⟨z,zd,bt,bm,bk,L⟩:=d4 ((l).getD i 0) 0 x wM wM oM;refine lV 69 (.tuple #[mV z,mV zd]) ?_ (hr:=dK kR (L _));refine lL e [.c,.v (mV z),.v (mV zd)] (lX 72 (sB j) ((wds a).length) ((wds a).length) 1 (i:Nat) i rfl ?_);refine lW 1 l aj 1 i z e oM (fun _ e=>?_);have zl:((l).set i z).length=(wds a).length:=by rw[Gx];exact U
  replace e:=e.to [⟨u,23,(wds b).flatMap aj⟩,⟨j,23,((l).set i z).flatMap aj⟩,⟨D,25,[uV 0,eS]⟩,⟨F,25,nc b⟩,⟨C,25,nc a⟩] [];refine lL e ac (lN (kQ (bI 73 ((i:Nat)+1) (i+1) ?_)));refine lL e ac (lD ?_);intro a_ ka;refine ⟨_,_,?_,⟨i+1,(l).set i z,zd,zj,rfl,rfl,e.to _ _,oM,zl,(V.set _ oM),oM,(gf oM inv (by first|omega|(have hy0:=cA (l:=(wds b:List Nat)) (k:=i) (by first|omega|(simp;done));omega)))⟩,ka.to _ kR⟩
  omega
 have zi:=oT Y;refine lB 55 Y (au (kQ (lL e aK (lX 58 (sB u) ((wds b).length) ((wds b).length) 1 (i:Nat) i rfl ?_))));refine lQ 59 0 (wds b) aj 1 0 i (mV ((wds b).getD i 0)) e oM (lL e ac (lN (kQ (lL e pR (lX 65 (sB j) ((wds a).length) ((wds a).length) 1 (i:Nat) i rfl ?_)))));refine lQ 66 1 l aj 1 0 i (mV ((l).getD i 0)) e oM (lL e aK ?_);obtain ⟨y,ze,b5,bz,b0,X⟩:=d4 ((l).getD i 0) ((wds b).getD i 0) x wM wM oM;refine lV 69 (.tuple #[mV y,mV ze]) ?_ (hr:=dK kR (X _));refine lL e [.c,.v (mV y),.v (mV ze)] (lX 72 (sB j) ((wds a).length) ((wds a).length) 1 (i:Nat) i rfl ?_);refine lW 1 l aj 1 i y e oM (fun _ e=>?_);have zm:((l).set i y).length=(wds a).length:=by rw[Gx];exact U
 replace e:=e.to [⟨u,23,(wds b).flatMap aj⟩,⟨j,23,((l).set i y).flatMap aj⟩,⟨D,25,[uV 0,eS]⟩,⟨F,25,nc b⟩,⟨C,25,nc a⟩] [];refine lL e ac (lN (kQ (bI 73 ((i:Nat)+1) (i+1) ?_)));refine lL e ac (lD ?_);intro a_ ka;refine ⟨_,_,?_,⟨i+1,(l).set i y,ze,zj,rfl,rfl,e.to _ _,oM,zm,(V.set _ oM),oM,(gf oM inv (by first|omega|(have hy0:=cA (l:=(wds b:List Nat)) (k:=i) (by first|omega|(simp;done));omega)))⟩,ka.to _ kR⟩
 omega
theorem CP (a b:Nat)(hla:(wds a).length<=1000000000)(hlb:(wds b).length<=1000000000)(ha0:0<a)(hbs:18446744073709551616<=b)(hlt:(wds a).length<(wds b).length)(w:World)(h:Hp)(g:G w h):CV 151 #[nv a,nv b] w h (nv (a+b)):=by
 have e:=sS g;refine go Tryz.func151 [(0,nv a),(1,nv b)] rfl (aD (lA 2 25 (nc a) e (fun C w2 h3 e=>lA 3 25 (nc b) e (fun D w5 h6 e=>lA 4 25 ([uV 0,eS]) e (fun F w8 h9 e=>?_)))));refine lN (CG.join (fun Γ w_=>∃  (h_:Hp),Γ=[(2,pB C),(3,pB D),(4,pB F)]/\SS w h w_ h_ [⟨F,25,[uV 0,eS]⟩,⟨D,25,nc b⟩,⟨C,25,nc a⟩] [] []) ?_ ?_)
 .
  refine aa e [.v (qP C 1),.o (.string (hi a)) 2 1 1] ?_;cases za:(pS (hi a) (⟨#[]⟩))
  .
   have zg:=nz za;refine lB 14 za (lL e ac (lG 16 ?_));refine lG 17 (lG 18 (lL e [.v qF] (ah (CG.skip ?_))));intro a_ J;exact ⟨_,⟨h9,rfl,e.to _ _⟩,J.to _ kR⟩
  have zg:=od za;refine lB 14 za (lL e [.c,.v (qP D 1),.o (.string (hi b)) 1 1 1] (lV 18 qF ?_ (hr:=rb kR (iF (eJ hbs)))));refine lL e [.v qF] (ah (CG.skip ?_));intro a_ J;exact ⟨_,⟨h9,rfl,e.to _ _⟩,J.to _ kR⟩
 rintro _ zp ⟨_,rfl,e⟩;refine cQ ?_;obtain ⟨L,hK_⟩:∃ L,L=zp.heap.size:=⟨_,rfl⟩;have bf:F<L:=by rw[hK_];exact eE e 0
 have H:D<L:=by rw[hK_];exact eE e 1
 have K:C<L:=by rw[hK_];exact eE e 2
 refine mq ⟨[],some (L,[])⟩ 0 mixed ?_;have bz:=e.g.size;replace e:=e.drew;have B:=JP hK_;refine zO 0 36 [(2,0,2)] (nv a) rfl B e (fun p hp=>by obtain rfl:=ov.1 hp;exact K) (zO 2 38 [(1,0,2)] (nv b) rfl B e (fun p hp=>by obtain rfl:=ov.1 hp;exact H) (rC 1 37 (fC a oM oM _ _ e.g) rfl B ?_));rintro _ _ _ u15 B ⟨u,rfl,M,S,bl⟩;obtain ⟨_,e,-,-⟩:=e.take u15 M S;replace e:=e.to [⟨u,23,(wds a).flatMap aj⟩,⟨F,25,[uV 0,eS]⟩,⟨D,25,nc b⟩,⟨C,25,nc a⟩] [];refine rC 3 39 (fC b oM oM _ _ e.g) rfl B ?_;rintro _ _ _ u19 B ⟨j,rfl,Y,V,bt⟩;obtain ⟨zq,e,-,-⟩:=e.take u19 Y V;replace e:=e.to [⟨j,23,(wds b).flatMap aj⟩,⟨u,23,(wds a).flatMap aj⟩,⟨F,25,[uV 0,eS]⟩,⟨D,25,nc b⟩,⟨C,25,nc a⟩] [];refine zV 4 7 (qS (sB u) ((wds a).length) ((wds a).length)) (zV 5 8 (qS (sB j) ((wds b).length) ((wds b).length)) (tN (cQ (aa e [.c,.v (nV ((wds a).length)),.c,.v (nV ((wds b).length))] ?_))));have ⟨zm,bb⟩:=dT (p:=(((wds a).length:Nat):Int)<(((wds b).length:Nat):Int)) oM;refine lB 44 zm (au (kQ (lL e pR (aR (lL e ac (af (aa e [.c,.v (nV ((wds b).length)),.c] (bh ?_))))))));refine cj _ (CG.loop (fun μ_ Γ w_=>∃ (i:Nat)(l:List Nat)(x:Nat)(h_:Hp),μ_=(wds b).length-i/\Γ=[(4,pB F),(7,qS (sB j) ((wds b).length) ((wds b).length)),(8,qS (sB u) ((wds a).length) ((wds a).length)),(48,nV ((wds b).length)),(49,nV i),(9,mV x)]/\SS w h w_ h_ [⟨j,23,(l).flatMap aj⟩,⟨u,23,(wds a).flatMap aj⟩,⟨F,25,[uV 0,eS]⟩,⟨D,25,nc b⟩,⟨C,25,nc a⟩] [] []/\i<=(wds b).length/\l.length=(wds b).length/\Wd l/\x<=1/\ak 18446744073709551616 l+18446744073709551616^i*x=b+ak 18446744073709551616 ((wds a:List Nat).take i)) _ ⟨0,wds b,0,zq,rfl,rfl,e.to _ _,JL _,rfl,Wd.wds _,oM,(by have hx_:ak 18446744073709551616 (wds b)=b:=ay _;rw[hx_];simp[ak])⟩ ?_);rintro _ _ _ ⟨i,l,x,zl,bq,rfl,e,hi,W,X,hcy,inv⟩;have hlk:=X.get i;have hyk:=(Wd.wds a).get i;refine aD ?_;cases zb:(decide ((i:Int)<(((wds b).length:Nat):Int)))
 .
  have zi:=oF zb;refine lB 50 zb (af (cW (CG.exit ?_)))
  show CG _ _ _ _ _ _ _ _
  refine cQ (aD ?_);have I:=inv;rw[z8 (show (wds a).length<=i by first|omega|(simp;done)|(simp;omega))] at I
  rw[show i=l.length by omega] at I
  have hE_:ak 18446744073709551616 (wds a)=a:=ay _;replace I:ak 18446744073709551616 l+18446744073709551616^l.length*x=(a+b):=by rw[I,hE_];first|done|omega
  refine lL e ac ?_;cases Z:((x:Int) != (0:Int))
  .
   have zj:=aY Z;refine lB 75 Z (ah (cK (aD ?_)));obtain ⟨_,e,Q,b3,bx⟩:=e.pub 0;replace e:=(e.to [⟨u,23,(wds a).flatMap aj⟩,⟨F,25,[uV 0,eS]⟩,⟨D,25,nc b⟩,⟨C,25,nc a⟩] []).aS (SlO.of_flat (sz:=1) (f:=aj) (d:=0) (b:=j) (o:=0) (l:=l) (fun _=>rfl) Q);exact lL e ac (am 81 e (cZ (sB j) ((wds b).length) (l) ((wds b).length) ((a+b)) (by first|rfl|assumption|(simp;done)|(simp;omega)|omega) (X) (by rw[show x=0 by omega,y2,ya] at I;exact I) sM sM _ _ e.g e.f.1) (fun _ _ e=>lP 1 0 (nc (a+b)) e (fun _ e=>ae e [(1,0,2)] (nv (a+b)) rfl)))
  have zj:=a6 Z;refine lB 75 Z (au (kQ (lL e aK (lR 78 23 1 ([mV x]) e (fun zr _ _ e=>HE 79 0 ((wds b).length) zr l aj 0 x 8 (uV 0) e e.f.1 oM oM (fun zs zt _ _ e bd=>?_))))));replace e:=e.to [⟨u,23,(wds a).flatMap aj⟩,⟨F,25,[uV 0,eS]⟩,⟨D,25,nc b⟩,⟨C,25,nc a⟩] [];exact lL e ac (aR (lL e ac (am 81 e (cZ zs zt (l++[x]) ((wds b).length+1) ((a+b)) (by first|rfl|assumption|(simp;done)|(simp;omega)|omega) (Dg.append X (Dg.one oM)) (by show ak _ (l++[x])=_;rw[dS];show _+_*(x+_*0)=_;rw[y2,ya];exact I) sM sM _ _ e.g e.f.1) (fun _ _ e=>lP 1 0 (nc (a+b)) e (fun _ e=>ae e [(1,0,2)] (nv (a+b)) rfl)))))
 have zi:=oT zb;refine lB 50 zb (af (cl (cK (cQ (kZ (aa e aK (aR (lL e ac (af (aa e [.c,.c,.v (nV ((wds a).length))] ?_))))))))));cases zd:(decide ((i:Int)<(((wds a).length:Nat):Int)))
 .
  have zk:=oF zd;refine lB 55 zd (ah (cK (kQ (lL e pR (lX 65 (sB j) ((wds b).length) ((wds b).length) 1 (i:Nat) i rfl ?_)))));refine lQ 66 0 l aj 1 0 i (mV ((l).getD i 0)) e oM (lL e aK ?_);obtain ⟨z,ze,b0,b2,bk,O⟩:=d4 ((l).getD i 0) 0 x wM wM oM;refine lV 69 (.tuple #[mV z,mV ze]) ?_ (hr:=dK kR (O _));refine lL e [.c,.v (mV z),.v (mV ze)] (lX 72 (sB j) ((wds b).length) ((wds b).length) 1 (i:Nat) i rfl ?_);refine lW 0 l aj 1 i z e oM (fun _ e=>?_);have zn:((l).set i z).length=(wds b).length:=by rw[Gx];exact W
  replace e:=e.to [⟨j,23,((l).set i z).flatMap aj⟩,⟨u,23,(wds a).flatMap aj⟩,⟨F,25,[uV 0,eS]⟩,⟨D,25,nc b⟩,⟨C,25,nc a⟩] [];refine lL e ac (lN (kQ (bI 73 ((i:Nat)+1) (i+1) ?_)));refine lL e ac (lD ?_);intro a_ J;refine ⟨_,_,?_,⟨i+1,(l).set i z,ze,zl,rfl,rfl,e.to _ _,oM,zn,(X.set _ oM),oM,(gf oM inv (by first|omega|(have hy0:=cA (l:=(wds a:List Nat)) (k:=i) (by first|omega|(simp;done));omega)))⟩,J.to _ kR⟩
  omega
 have zk:=oT zd;refine lB 55 zd (au (kQ (lL e aK (lX 58 (sB u) ((wds a).length) ((wds a).length) 1 (i:Nat) i rfl ?_))));refine lQ 59 1 (wds a) aj 1 0 i (mV ((wds a).getD i 0)) e oM (lL e ac (lN (kQ (lL e pR (lX 65 (sB j) ((wds b).length) ((wds b).length) 1 (i:Nat) i rfl ?_)))));refine lQ 66 0 l aj 1 0 i (mV ((l).getD i 0)) e oM (lL e aK ?_);obtain ⟨y,zf,bn,bm,b5,U⟩:=d4 ((l).getD i 0) ((wds a).getD i 0) x wM wM oM;refine lV 69 (.tuple #[mV y,mV zf]) ?_ (hr:=dK kR (U _));refine lL e [.c,.v (mV y),.v (mV zf)] (lX 72 (sB j) ((wds b).length) ((wds b).length) 1 (i:Nat) i rfl ?_);refine lW 0 l aj 1 i y e oM (fun _ e=>?_);have zo:((l).set i y).length=(wds b).length:=by rw[Gx];exact W
 replace e:=e.to [⟨j,23,((l).set i y).flatMap aj⟩,⟨u,23,(wds a).flatMap aj⟩,⟨F,25,[uV 0,eS]⟩,⟨D,25,nc b⟩,⟨C,25,nc a⟩] [];refine lL e ac (lN (kQ (bI 73 ((i:Nat)+1) (i+1) ?_)));refine lL e ac (lD ?_);intro a_ J;refine ⟨_,_,?_,⟨i+1,(l).set i y,zf,zl,rfl,rfl,e.to _ _,oM,zo,(X.set _ oM),oM,(gf oM inv (by first|omega|(have hy0:=cA (l:=(wds a:List Nat)) (k:=i) (by first|omega|(simp;done));omega)))⟩,J.to _ kR⟩
 omega
end Go.Proofs.YtpnchlalmgmkeaaGreatDoor
