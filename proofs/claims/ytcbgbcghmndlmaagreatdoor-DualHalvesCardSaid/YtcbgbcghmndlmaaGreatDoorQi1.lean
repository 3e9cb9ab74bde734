/- Laws of this claim, part 2. -/
import Derived.Test.YtcbgbcghmndlmaaGreatDoorQi0
set_option maxRecDepth 100000
set_option maxHeartbeats 4000000
namespace Go.Proofs.YtcbgbcghmndlmaaGreatDoor
open _root_.Array renaming getElem?_append_left -> yb, getElem?_append_right -> yR, getElem?_eq_none -> eq, getElem?_push_size -> gg, getElem?_replicate -> yS, getElem?_setIfInBounds_ne -> i3, getElem?_setIfInBounds_self_of_lt -> yV, replicate -> x2
open Bool renaming and_eq_true -> la, true_and -> Ik
open Int renaming fdiv -> Ij, toNat_natCast -> yP
open List renaming all_eq_true -> ov, drop_eq_getElem_cons -> Am, drop_eq_nil_of_le -> Ii, drop_zero -> yx, eq_nil_of_length_eq_zero -> yF, flatMap_cons -> yv, getD_eq_getElem?_getD -> D0, getElem?_append_left -> yo, getElem?_append_right -> yr, getElem?_drop -> yq, getElem?_eq_none -> ya, getElem?_eq_some_iff -> Ih, getElem?_map -> HU, getElem?_range -> HV, getElem?_take_of_lt -> yp, length_append -> yD, length_drop -> HT, length_set -> Ic, length_take -> Af, mem_map -> g2, mem_of_mem_eraseIdx -> yZ, mem_range -> pa, mem_singleton -> vl, replicate -> yL, set_set -> Ip, take_length -> yz, take_of_length_le -> G1, take_zero -> Im
open Nat renaming add_assoc -> yu, add_comm -> yC, add_mul -> Gx, add_mul_div_left -> A9, add_mul_mod_self_left -> Ig, add_sub_cancel -> H4, add_zero -> yw, div_add_mod -> Hz, div_div_eq_div_mul -> B2, div_eq_of_lt -> zY, div_eq_of_lt_le -> H5, div_le_self -> zy, div_lt_iff_lt_mul -> H1, div_mul_le_self -> HZ, eq_zero_or_pos -> yW, gcd_comm -> Io, le_of_eq -> Ir, le_refl -> ey, le_trans -> e4, lt_div_mul_add -> H0, lt_of_le_of_lt -> zh, lt_of_lt_of_le -> e5, lt_of_mul_lt_mul_right -> H6, lt_or_ge -> ep, min_eq_left -> Ag, mod_add_div -> Ib, mod_eq_of_lt -> yN, mod_lt -> yO, mul_add -> z7, mul_add_div -> If, mul_assoc -> z8, mul_comm -> z2, mul_div_mul_right -> H8, mul_le_mul -> H9, mul_le_mul_left -> A5, mul_le_mul_right -> yI, mul_lt_mul_of_pos_left -> Ft, mul_lt_mul_of_pos_right -> H7, mul_mod_mul_right -> Ia, mul_succ -> HX, mul_zero -> Ah, one_mul -> Hy, pos_of_ne_zero -> HY, pow_add -> A4, pow_le_pow_right -> Ay, pow_mul -> A7, pow_pos -> Bs, pow_succ -> z1, pow_zero -> Il, succ_pos -> Iq, two_pow_add_eq_or_of_lt -> HW, two_pow_pos -> Aw, zero_add -> yH, zero_le -> In, zero_mod -> Ie, zero_mul -> yE
open Go.RowKit
theorem mU (n k:Nat):(wds n).getD k 0<18446744073709551616:=(Wd.wds n).get k
def b8 (x:Nat):List UInt8:=(List.range 8).map (fun k=>UInt8.ofNat (x/256^k))
theorem jn (x:Nat):(b8 x).length=8:=rfl
theorem C6 (m:Nat):b8 (m%18446744073709551616)=b8 m:=by
 unfold b8
 apply List.map_congr_left
 intro k hk;have a:k<8:=pa.1 hk
 apply UInt8.toNat_inj.1
 show (m%18446744073709551616/256^k)%256=(m/256^k)%256
 have:k=0\/k=1\/k=2\/k=3\/k=4\/k=5\/k=6\/k=7:=by omega
 rcases this with rfl|rfl|rfl|rfl|rfl|rfl|rfl|rfl<;>omega
theorem uQ:∀ (f m:Nat),m<=f->wb f m=(iA 18446744073709551616 m).flatMap b8
  | 0,m,h=>by
    have:m=0:=by omega
    subst this;rfl
  | f+1,m,h=>by
    unfold wb
    split
    . rename_i h0;subst h0;rfl
    . rw[dL kD oM,yv,C6,uQ f _ oM];rfl
theorem xV (n:Nat):iA 18446744073709551616 (n/18446744073709551616)=(iA 18446744073709551616 n).drop 1:=by
 rcases yW n with h|h
 ·subst h;rfl
 ·conv=>rhs;rw[dL kD h]
  rfl
theorem nr (n:Nat):(hi n).data.toList=((wds n).drop 1).flatMap b8:=by
 unfold hi wds
 rw[uQ _ _ oM,xV]
theorem ml (l:List Nat):(l.flatMap b8).length=8*l.length:=by
 induction l with
 | nil=>rfl
 | cons x l ih=>rw[yv,yD,ih,jn,List.length_cons];omega
theorem gW (n:Nat):(hi n).size=8*((wds n).length-1):=by
 have:(hi n).size=(hi n).data.toList.length:=by rw[Array.length_toList];rfl
 rw[this,nr,ml,HT]
theorem mL:∀ (l:List Nat) (j k:Nat),j<l.length->k<8->(l.flatMap b8).getD (8*j+k) 0=(b8 (l.getD j 0)).getD k 0
  | [],j,k,hj,_=>by simp at hj
  | x::l,0,k,hj,hk=>by
    rw[yv]
    simp only[D0]
    rw[yo (by rw[jn];omega)]
    simp
  | x::l,j+1,k,hj,hk=>by
    rw[yv,List.getD_cons_succ,<-mL l j k (by simpa using hj) hk]
    simp only[D0]
    rw[yr (by rw[jn];omega),jn]
    congr 2
    omega
theorem Dd (x k:Nat)(hk:k<8):((b8 x).getD k 0).toNat=x/256^k%256:=by
 unfold b8
 simp only[D0,HU,HV hk]
 rfl
theorem DH (n j k:Nat)(a:j+1<(wds n).length)(hk:k<8):aG (hi n) (8*j+k)=(wds n).getD (j+1) 0/256^k%256:=by
 unfold aG
 rw[nr,mL _ _ _ (by rw[HT];omega) hk,Dd _ _ hk,br,yC 1 j]
theorem EW {s:ByteArray}{x:Nat}(a:x<18446744073709551616)(h:∀ k,k<8->aG s k=x/256^k%256):wv s=x:=by
 unfold wv
 rw[h 0 oM,h 1 oM,h 2 oM,h 3 oM,h 4 oM,h 5 oM,h 6 oM,h 7 oM]
 simp only[Nat.reducePow,Nat.div_one]
 omega
theorem it (n j:Nat)(a:j+1<(wds n).length):wv ((hi n).extract (8*j) (hi n).size)=(wds n).getD (j+1) 0 :=
 EW (mU n _) (fun k hk=>by rw[oN,DH n j k a hk])
theorem d7 {n:Nat}(h:n<18446744073709551616):hi n=⟨#[]⟩:=kj h
theorem ct {n:Nat}(h:18446744073709551616<=n):2<=(wds n).length:=by
 rcases ep (wds n).length 2 with h1|h1
 ·have a:=im (b:=18446744073709551616) kD n
  have:(18446744073709551616:Nat)^(iA 18446744073709551616 n).length<=18446744073709551616^1:=Ay kD (by show (wds n).length<=1;omega)
  omega
 ·exact h1
theorem em {n:Nat}(h:18446744073709551616<=n):(hi n).size≠0:=by rw[gW];have:=ct h;omega
theorem jw {n:Nat}(h0:0<n)(h:n<18446744073709551616):wds n=[n]:=by
 unfold wds
 rw[dL kD h0,yN h,zY h,jd]
theorem kC:wds 0=[]:=rfl
theorem jy {n:Nat}:0<(wds n).length↔0<n:=rM kD
theorem pI (n:Nat):lo n=(((wds n).getD 0 0:Nat):Int):=by
 unfold lo wds
 rcases yW n with h|h
 ·subst h;rfl
 ·rw[dL kD h];rfl
theorem nQ {l:List Nat}(h:Wd l):wds (aA l)=l.take (tl l l.length):=CM kD h
theorem ko {n:Nat}(h:0<n):(wds n).getD ((wds n).length-1) 0≠0:=o9 kD n h
theorem F8 {n:Nat}{l:List UInt8}(h:l=((wds n).drop 1).flatMap b8):(⟨l.toArray⟩:ByteArray)=hi n:=by
 have:(hi n).data.toList=l:=by rw[nr,h]
 cases e:hi n with
 | mk d=>rw[e] at this;rw[<-this]
theorem cI (n:Nat):n<18446744073709551616^(wds n).length:=im kD n
theorem cn {a b:Nat}(h:a<=b):(wds a).length<=(wds b).length:=dW kD (zh h (cI b))
theorem gG {a b:Nat}(k:Nat)(h:a<2^k):a ||| b*2^k=a+b*2^k:=by
 have:=HW h b;rw[Nat.or_comm,z2 b,<-this];omega
def bP (a b:Nat):Int:=if a<b then -1 else if b<a then 1 else 0
theorem dh {a b:Nat}(h:a<b):bP a b = -1:=by simp[bP,h]
theorem eD {a b:Nat}(h:b<a):bP a b=1:=by unfold bP;rw[if_neg oM,if_pos h]
theorem gT {a b:Nat}(h:a=b):bP a b=0:=by unfold bP;rw[if_neg oM,if_neg oM]
theorem fu {a b:Nat}(h:b<=a):bP a b=0\/bP a b=1:=by
 unfold bP
 rw[if_neg oM]
 split<;>simp
theorem fx {a b:Nat}(h:(wds a).length<(wds b).length):a<b:=by
 rcases ep a b with hl|hl
 ·exact hl
 ·have:=cn hl;omega
theorem kE {a b k:Nat}(d:(wds a).length=(wds b).length)(hk:k<(wds a).length)(f:(wds a).drop (k+1)=(wds b).drop (k+1))(c:(wds a).getD k 0<(wds b).getD k 0):a<b:=by
 have h:=bL 18446744073709551616 (l:=wds a) (k:=k+1) oM;have j:=bL 18446744073709551616 (l:=wds b) (k:=k+1) oM;have e1:ak 18446744073709551616 (wds a)=a:=aJ a;have e2:ak 18446744073709551616 (wds b)=b:=aJ b;have o:=aR 18446744073709551616 (l:=wds a) (k:=k) hk;have i:=aR 18446744073709551616 (l:=wds b) (k:=k) oM;have e:=bS (Dg.take (Wd.wds a) k);rw[Af,Ag oM] at e
 have p:18446744073709551616^k*(wds a).getD k 0+18446744073709551616^k<=18446744073709551616^k*(wds b).getD k 0:=by
  rw[<-HX];exact A5 _ c
 rw[f] at h
 omega
theorem jP {a b k:Nat}(c:(wds a).length=(wds b).length)(hk:k<(wds a).length)(d:(wds a).drop (k+1)=(wds b).drop (k+1))(e:(wds a).getD k 0≠(wds b).getD k 0):bP ((wds a).getD k 0) ((wds b).getD k 0)=bP a b:=by
 rcases ep ((wds a).getD k 0) ((wds b).getD k 0) with h|h
 ·rw[dh h,dh (kE c hk d h)]
 ·rw[eD oM,eD (kE c.symm oM d.symm oM)]
theorem eJ {l m:List Nat}{k:Nat}(c:l.length=m.length)(hk:k<l.length)(b:l.drop (k+1)=m.drop (k+1))(a:l.getD k 0=m.getD k 0):l.drop k=m.drop k:=by
 rw[Am hk,Am (l:=m) (i:=k) oM,b]
 simp[hk,show k<m.length by omega] at a
 rw[a]
theorem qD (n:Nat):n%18446744073709551616=(wds n).getD 0 0:=Int.ofNat.inj (pI n)
theorem mY {a b:Nat}(c:(wds a).length=(wds b).length)(d:(wds a).drop 1=(wds b).drop 1):bP (a%18446744073709551616) (b%18446744073709551616)=bP a b:=by
  rw[qD,qD]
  by_cases h:(wds a).getD 0 0=(wds b).getD 0 0
  . have:a=b:=by
      rcases yW (wds a).length with h0|h0
      . have e1:=aJ a
        have e2:=aJ b;have e:wds a=[]:=yF h0;have f:wds b=[]:=yF oM;rw[e] at e1
        rw[f] at e2
        exact e1.symm.trans e2
      . have:=eJ c h0 d h
        simp only[yx] at this
        rw[<-aJ a,<-aJ b,this]
    rw[h,gT rfl,gT this]
  . refine jP c ?_ d h
    rcases yW (wds a).length with h0|h0
    . exfalso;apply h
      have e1:wds a=[]:=yF h0;have e2:wds b=[]:=yF oM;rw[e1,e2]
    . exact h0
theorem rB {n:Nat}(h:(wds n).length<=1):n<18446744073709551616:=by
 rcases ep n 18446744073709551616 with h1|h1
 ·exact h1
 ·have:=ct h1;omega
theorem oy {a b:Nat}(c:(wds a).length-1=(wds b).length-1)(d:(wds a).drop 1=(wds b).drop 1):bP (a%18446744073709551616) (b%18446744073709551616)=bP a b:=by
 rcases ep 1 (wds a).length with h|h
 ·exact mY oM d
 ·rw[yN (rB h),yN (rB oM)]
theorem ww {n:Nat}(h:0<n):nb n=64*((wds n).length-1)+nb ((wds n).getD ((wds n).length-1) 0):=by
 have b:=jy.2 h;have e:=aR 18446744073709551616 (l:=wds n) (k:=(wds n).length-1) oM;rw[show (wds n).length-1+1=(wds n).length by omega,yz] at e
 have e1:ak 18446744073709551616 (wds n)=n:=aJ n;have a:=bS (Dg.take (Wd.wds n) ((wds n).length-1));rw[Af,Ag oM] at a
 have e2:(18446744073709551616:Nat)^((wds n).length-1)=2^(64*((wds n).length-1)):=by rw[A7]
 rw[e1,e2] at e
 rw[e2] at a
 have:=xg a (HY (ko h));rw[<-e] at this
 exact this
theorem iq {n:Nat}(h:n<18446744073709551616):Value.agg #[.int .u64 (n:Int),.string ⟨#[]⟩]=nv n:=by unfold nv;rw[kA h,kj h]
theorem co {n:Nat}:(wds n).length<=1↔n<18446744073709551616:=by
 constructor
 ·intro h
  rcases ep n 18446744073709551616 with h1|h1
  ·exact h1
  ·have:=ct h1;omega
 ·intro h
  rcases yW n with h0|h0
  ·subst h0;simp[kC]
  ·rw[jw h0 h];simp
structure HalfQ (Y y1 y0 u u1 q r:Nat):Prop where
  e:q*y1+r=u
  lt:u*4294967296+u1<(q+1)*Y
  qb:q<=4294967297
theorem kT {Y y1 y0 u u1:Nat}(c:Y=y1*4294967296+y0)(h1:u1<4294967296)(e:2147483648<=y1)(h0:y0<4294967296)(i:u<Y):HalfQ Y y1 y0 u u1 (u/y1) (u-u/y1*y1):=by
 have h:u/y1*y1<=u:=HZ u y1
 have d:u<(u/y1+1)*y1:=by
  have:=H0 (a:=u) (b:=y1) oM;rw[Gx,Hy];exact this
 refine ⟨by omega,?_,?_⟩
 ·have:(u/y1+1)*Y=(u/y1+1)*y1*4294967296+(u/y1+1)*y0:=by rw[c,z7,z8]
  omega
 ·have f:u/y1<4294967298:=by
   rw[H1 oM]
   omega
  omega
theorem mB {u y1:Nat}(h:0<y1):u-u/y1*y1<y1:=by
 have:=H0 (a:=u) (b:=y1) h;have c:u/y1*y1<=u:=HZ u y1
 omega
theorem HalfQ.dec {Y y1 y0 u u1 q r:Nat}(h:HalfQ Y y1 y0 u u1 q r)(b:Y=y1*4294967296+y0)(h1:u1<4294967296)(c:u<Y)(a:4294967296<=q\/4294967296*r+u1<q*y0):HalfQ Y y1 y0 u u1 (q-1) (r+y1):=by
 have d:0<q:=by
  rcases a with h2|h2
  ·omega
  ·rcases yW q with h3|h3
   ·subst h3;omega
   ·exact h3
 obtain ⟨p,rfl⟩:∃ p,q=p+1:=⟨q-1,by omega⟩;have e:=h.e;rw[Gx,Hy] at e
 refine ⟨by rw[H4];omega,?_,by have:=h.qb;omega⟩;rw[H4]
 rcases a with h2|h2
 ·have:4294967296*Y<=(p+1)*Y:=yI _ h2
  omega
 ·have:(p+1)*Y=(p+1)*y1*4294967296+(p+1)*y0:=by rw[b,z7,z8]
  rw[Gx p 1 y1,Hy] at this
  omega
theorem HalfQ.fin {Y y1 y0 u u1 q r:Nat}(h:HalfQ Y y1 y0 u u1 q r)(d:Y=y1*4294967296+y0)(f:¬4294967296*r+u1<q*y0):q=(u*4294967296+u1)/Y/\(u*4294967296+u1)-q*Y=(u*4294967296+u1)%Y/\q*Y<=u*4294967296+u1:=by
 have a:q*Y<=u*4294967296+u1:=by
  have:q*Y=q*y1*4294967296+q*y0:=by rw[d,z7,z8]
  have:=h.e
  omega
 have b:q=(u*4294967296+u1)/Y:=(H5 a h.lt).symm;have c:=Hz (u*4294967296+u1) Y;rw[<-b,z2] at c
 exact ⟨b,by omega,a⟩
theorem HalfQ.brk {Y y1 y0 u u1 q r:Nat}(h:HalfQ Y y1 y0 u u1 q r)(a:Y=y1*4294967296+y0)(h0:y0<4294967296)(hr:4294967296<=r)(b:q<=4294967296):q=(u*4294967296+u1)/Y/\(u*4294967296+u1)-q*Y=(u*4294967296+u1)%Y/\q*Y<=u*4294967296+u1 :=
 h.fin a (by
  have:q*y0<=4294967296*y0:=yI _ b
  omega)
theorem mK {A y s Y Q R:Nat}(a:Y=y*2^s)(c:A*2^s=Y*Q+R)(f:R<Y):A=y*Q+R/2^s/\R/2^s<y:=by
 have d:0<2^s:=Aw s;have e:y*Q*2^s=Y*Q:=by rw[a];ac_rfl
 have h:y*Q<=A:=by
  have:y*Q*2^s<=A*2^s:=by rw[c,e];omega
  exact Nat.le_of_mul_le_mul_right this d
 have b:R=(A-y*Q)*2^s:=by rw[Nat.sub_mul,c,e];omega
 rw[b,Nat.mul_div_cancel _ d];refine ⟨by omega,?_⟩;have:(A-y*Q)*2^s<y*2^s:=by rw[<-b,<-a];exact f
 exact H6 this
theorem sO {A y s a e Y u1 h p f o R:Nat}(b:Y=y*2^s)(u:A*2^s=a*18446744073709551616+e)(c:e=u1*4294967296+h)(j:0<y)
  (e1:p=(a*4294967296+u1)/Y)(e2:f=(a*4294967296+u1)%Y)(x:o=(f*4294967296+h)/Y)(i:R=(f*4294967296+h)%Y) :
  A=y*(p*4294967296+o)+R/2^s/\R/2^s<y:=by
 have d:0<Y:=by rw[b];exact Nat.mul_pos j (Aw s)
 have z:=Hz (a*4294967296+u1) Y;have B:=Hz (f*4294967296+h) Y;rw[<-e1,<-e2] at z
 rw[<-x,<-i] at B
 have l:R<Y:=by rw[i];exact yO _ d
 refine mK b ?_ l;rw[u,c,z7,<-z8]
 clear e1 e2 x i u c l b d j
 omega
theorem qK {y:Nat}(h0:0<y)(h:y<18446744073709551616):9223372036854775808<=y*2^(64-nb y)/\y*2^(64-nb y)<18446744073709551616:=by
 obtain ⟨a,b,e⟩:=cj h0;have c:nb y<=64:=kP (k:=64) h
 have e1:(2:Nat)^(nb y-1)*2^(64-nb y)=9223372036854775808:=by
  rw[<-A4,show nb y-1+(64-nb y)=63 by omega]
 have e2:(2:Nat)^nb y*2^(64-nb y)=18446744073709551616:=by
  rw[<-A4,show nb y+(64-nb y)=64 by omega]
 have d:=yI (2^(64-nb y)) a;have f:=H7 b (Aw (64-nb y))
 omega
theorem Bv {hi lo s:Nat}(c:s<=64)(a:lo<18446744073709551616):(hi*18446744073709551616+lo)*2^s=(hi*2^s+lo/2^(64-s))*18446744073709551616+lo*2^s%18446744073709551616/\lo/2^(64-s)<2^s:=by
 have e:(18446744073709551616:Nat)=2^(64-s)*2^s:=by rw[<-A4,show 64-s+s=64 by omega]
 have h1:lo*2^s/18446744073709551616=lo/2^(64-s):=by
  rw[e,H8 _ _ (Aw s)]
 have b:=Hz (lo*2^s) 18446744073709551616;rw[h1] at b
 constructor
 ·rw[Gx,Gx]
  have:hi*18446744073709551616*2^s=hi*2^s*18446744073709551616:=by ac_rfl
  omega
 ·rw[H1 (Aw _),z2,<-e];exact a
theorem mc {a b q Y r:Nat}(h:q*Y<=a*4294967296+b)(hr:a*4294967296+b-q*Y=r)(c:r<18446744073709551616):((a*4294967296%18446744073709551616+b)%18446744073709551616+(18446744073709551616-q*Y%18446744073709551616))%18446744073709551616=r:=by
 generalize q*Y=m at *
 omega
theorem Cf {a b:Nat}(ha:a<4294967296)(c:b<4294967296):a*b<18446744073709551616:=by
 have:a*b<=4294967295*4294967295:=H9 oM oM
 omega
theorem dB {a b c:Nat}(h:c<a*b):0<a:=by
 rcases yW a with h0|h0
 ·rw[h0,yE] at h;omega
 ·exact h0
theorem oZ {u u1 Y:Nat}(h:u<Y)(h1:u1<4294967296):(u*4294967296+u1)/Y<4294967296:=by
 rw[H1 oM];have:(u+1)*4294967296<=Y*4294967296:=yI _ h
 omega
theorem uq {p:Nat}(h:p<=64):(18446744073709551616:Nat)=2^(64-p)*2^p:=by rw[<-A4,show 64-p+p=64 by omega]
theorem vh {x p o:Nat}(f:p<=64)(c:x<18446744073709551616)(d:o<2^p) :
  o ||| (x*2^p%18446744073709551616)=o+x*2^p%18446744073709551616/\o+x*2^p%18446744073709551616<18446744073709551616/\x*2^p%18446744073709551616+18446744073709551616*(x/2^(64-p))=x*2^p/\x/2^(64-p)<2^p:=by
 have e:=uq f
 have b:x*2^p%18446744073709551616=x%2^(64-p)*2^p:=by
  conv=>lhs;rw[e]
  exact Ia _ _ _
 have a:x%2^(64-p)<2^(64-p):=yO _ (Aw _);refine ⟨by rw[b];exact gG p d,?_,?_,?_⟩
 ·rw[b]
  have:(x%2^(64-p)+1)*2^p<=2^(64-p)*2^p:=yI _ a;rw[<-e,Gx] at this
  omega
 ·have h1:x*2^p/18446744073709551616=x/2^(64-p):=by
   conv=>lhs;rw[e]
   exact H8 _ _ (Aw _)
  rw[<-h1];exact Ib _ _
 ·rw[H1 (Aw _),z2,<-e];exact c
theorem ux {l w:List Nat}{i q p x o a c:Nat}(u:i+q+1<l.length)(hv:aA l=2^p*(18446744073709551616^q*ak 18446744073709551616 (w.take i)))(h0:l.getD (i+q+1) 0=0)(h:a+18446744073709551616*c=x*2^p)(e:x=w.getD i 0)(f:o=l.getD (i+q) 0) :
  aA ((l.set (i+q) (o+a)).set (i+q+1) c)=2^p*(18446744073709551616^q*ak 18446744073709551616 (w.take (i+1))):=by
 have d:=cG 18446744073709551616 (l:=l) (k:=i+q) (o+a) oM;have b:=cG 18446744073709551616 (l:=l.set (i+q) (o+a)) (k:=i+q+1) c (by rw[Ic];omega);rw[bv oM,if_neg oM,h0] at b
 rw[<-f] at d
 have j:2^p*(18446744073709551616^q*ak 18446744073709551616 (w.take (i+1)))=aA l+18446744073709551616^(i+q)*(x*2^p):=by
  rw[aW,hv,<-e,z7,z7,A4]
  congr 1
  ac_rfl
 rw[j,<-h];rw[z1] at b
 show ak 18446744073709551616 _=ak 18446744073709551616 l+_
 simp only[z7,<-z8] at d b ⊢
 omega
theorem u6 (n:Nat):(2:Nat)^n=18446744073709551616^(n/64)*2^(n%64):=by
 have:n=64*(n/64)+n%64:=by omega
 conv=>lhs;rw[this,A4,A7]
theorem og {x y p:Nat}(h:p<=64)(d:x<18446744073709551616) :
  (x/2^p) ||| (y*2^(64-p)%18446744073709551616)=x/2^p+y*2^(64-p)%18446744073709551616/\x/2^p+y*2^(64-p)%18446744073709551616<18446744073709551616/\2^p*(x/2^p+y*2^(64-p)%18446744073709551616)+x%2^p=x+18446744073709551616*(y%2^p):=by
 have e:=uq h;have a:(18446744073709551616:Nat)=2^p*2^(64-p):=by rw[z2];exact e
 have b:y*2^(64-p)%18446744073709551616=y%2^p*2^(64-p):=by
  conv=>lhs;rw[a]
  exact Ia _ _ _
 have f:x/2^p<2^(64-p):=by rw[H1 (Aw _),<-e];exact d
 have c:y%2^p<2^p:=yO _ (Aw _);refine ⟨by rw[b];exact gG (64-p) f,?_,?_⟩
 ·rw[b]
  have:(y%2^p+1)*2^(64-p)<=2^p*2^(64-p):=yI _ c;rw[<-a,Gx] at this
  omega
 ·rw[b,z7]
  have h1:=Hz x (2^p);have i:2^p*(y%2^p*2^(64-p))=18446744073709551616*(y%2^p):=by rw[a];ac_rfl
  omega
theorem o4 {l W:List Nat}{i p d a:Nat}(c:i<l.length)(inv:2^p*ak 18446744073709551616 l+a=ak 18446744073709551616 (W.take i)+18446744073709551616^i*(W.getD i 0%2^p))(h0:l.getD i 0=0)(e:2^p*d+W.getD i 0%2^p=W.getD i 0+18446744073709551616*(W.getD (i+1) 0%2^p)) :
  2^p*ak 18446744073709551616 (l.set i d)+a=ak 18446744073709551616 (W.take (i+1))+18446744073709551616^(i+1)*(W.getD (i+1) 0%2^p):=by
 have b:=cG 18446744073709551616 (l:=l) (k:=i) d c;rw[h0] at b
 rw[aW,z1];have e1:18446744073709551616^i*(2^p*d+W.getD i 0%2^p)=18446744073709551616^i*(W.getD i 0+18446744073709551616*(W.getD (i+1) 0%2^p)):=by rw[e]
 have e2:ak 18446744073709551616 (l.set i d)=ak 18446744073709551616 l+18446744073709551616^i*d:=by omega
 rw[e2,z7];have f:2^p*(18446744073709551616^i*d)=18446744073709551616^i*(2^p*d):=by ac_rfl
 rw[f]
 simp only[z7,<-z8] at e1 ⊢
 simp only[z8] at e1 inv ⊢
 omega
theorem xE {l W:List Nat}{p m:Nat}(b:W.length<=m)(inv:2^p*ak 18446744073709551616 l+W.getD 0 0%2^p=ak 18446744073709551616 (W.take m)+18446744073709551616^m*(W.getD m 0%2^p)):aA l=aA W/2^p:=by
 rw[G1 b] at inv
 have h0:W.getD m 0=0:=by simp[ya b]
 rw[h0,Ie,Ah,yw] at inv
 have a:=Aw p;have c:=yO (W.getD 0 0) a
 show ak _ l=ak _ W/_
 rw[<-inv,If a,zY c,yw]
theorem l5 {w:List Nat}(b:Wd w){q:Nat}(a:q<=w.length):aA (w.drop q)=aA w/18446744073709551616^q:=by
 have e:=bL 18446744073709551616 a;have h1:=bS (Dg.take b q);rw[Af,Ag a] at h1
 show ak _ _=ak _ w/_
 rw[e,A9 _ _ (Bs kD),zY h1,yH]
def lm (x:Nat):List Value:=[.int .u8 (x:Nat)]
theorem pN {b:Nat}(a:0<b){l:List Nat}(h:Dg b l)(j:Nat):l.getD j 0=ak b l/b^j%b:=by
 rcases ep j l.length with hj|hj
 ·have h1:=bL b (l:=l) (k:=j) oM
  have e:=eT b (l:=l) (k:=j) hj;have c:=bS (Dg.take h j);rw[Af,Ag oM] at c
  have d:0<b^j:=Bs a;rw[h1,A9 _ _ d,zY c,yH,e,Ig,yN (h.getD a j)]
 ·rw[ci hj,zY,Ie]
  exact e5 (bS h) (Ay a hj)
theorem va {b:Nat}{l:List Nat}{k P:Nat}(hk:k<l.length)(c:0<b)(h:ak b l<b^k*P):l.getD k 0<P:=by
 have h1:=bL b (l:=l) (k:=k) oM;have d:=eT b (l:=l) (k:=k) hk;have e:0<b^k:=Bs c;refine Nat.lt_of_mul_lt_mul_left (a:=b^k) ?_;have f:b^k*l.getD k 0<=b^k*ak b (l.drop k):=A5 _ (by rw[d];omega)
 omega
theorem qe (k:Nat):(256:Nat)^k=18446744073709551616^(k/8)*2^(8*(k%8)):=by
 have:k=8*(k/8)+k%8:=by omega
 conv=>lhs;rw[this,A4,A7]
 rw[A7 2 8]
theorem oY {l:List Nat}(a:Wd l)(k:Nat):l.getD (k/8) 0/2^(8*(k%8))%256=aA l/256^k%256:=by
 rw[pN kD a (k/8),qe,<-B2]
 show _=ak 18446744073709551616 l/_/_%256
 generalize ak 18446744073709551616 l/18446744073709551616^(k/8)=y
 have:k%8=0\/k%8=1\/k%8=2\/k%8=3\/k%8=4\/k%8=5\/k%8=6\/k%8=7:=by omega
 rcases this with h|h|h|h|h|h|h|h<;>rw[h]<;>omega
theorem tT (n k:Nat):(wds n).getD (k/8) 0/2^(8*(k%8))%256=n/256^k%256:=by
 rw[oY (Wd.wds n),aJ]
theorem uD {b k:Nat}(a:b<256):b*2^(8*(k%8))<18446744073709551616:=by
 have:k%8=0\/k%8=1\/k%8=2\/k%8=3\/k%8=4\/k%8=5\/k%8=6\/k%8=7:=by omega
 rcases this with h|h|h|h|h|h|h|h<;>rw[h]<;>omega
theorem sH {a b k:Nat}(ha:a<2^(8*(k%8)))(c:b<256):a+b*2^(8*(k%8))<18446744073709551616:=by
 have:k%8=0\/k%8=1\/k%8=2\/k%8=3\/k%8=4\/k%8=5\/k%8=6\/k%8=7:=by omega
 rcases this with h|h|h|h|h|h|h|h<;>rw[h] at ha ⊢ <;> omega
theorem sn {l:List Nat}{n k x:Nat}(hk:k/8<l.length)(inv:aA l=n%256^k)(c:x=n/256^k%256) :
  (l.getD (k/8) 0 ||| x*2^(8*(k%8))%18446744073709551616)=l.getD (k/8) 0+x*2^(8*(k%8))/\l.getD (k/8) 0+x*2^(8*(k%8))<18446744073709551616 /\
  aA (l.set (k/8) (l.getD (k/8) 0+x*2^(8*(k%8))))=n%256^(k+1):=by
 have f:x<256:=by rw[c];exact yO _ oM
 have a:aA l<256^k:=by rw[inv];exact yO _ (Bs oM)
 have d:l.getD (k/8) 0<2^(8*(k%8)):=va (b:=18446744073709551616) hk kD (by rw[<-qe];exact a);refine ⟨?_,sH d f,?_⟩
 ·rw[yN (uD f)];exact gG _ d
 ·have e:=cG 18446744073709551616 (l:=l) (k:=k/8) (l.getD (k/8) 0+x*2^(8*(k%8))) hk
  rw[uL,<-c,<-inv]
  show ak _ _=ak _ l+_
  have e2:256^k*x=18446744073709551616^(k/8)*(x*2^(8*(k%8))):=by rw[qe k];ac_rfl
  rw[z7] at e
  rw[e2]
  omega
theorem vQ (n:Nat):n<256^((nb n+7)/8):=by
 have h:=FQ n;have e:(256:Nat)^((nb n+7)/8)=2^(8*((nb n+7)/8)):=by rw[A7]
 rw[e];exact e5 h (Ay oM oM)
theorem lk (n:Nat):nb n<=64*(wds n).length:=by
 apply kP
 have:=cI n
 rwa [show (18446744073709551616:Nat)=2^64 by rfl,<-A7] at this
theorem lf (n:Nat):(wds n).length=(nb n+63)/64:=by
 rcases yW n with h|h
 ·subst h;rfl
 ·have h1:=ww h
  have b:=ko h;have a:=mU n ((wds n).length-1);have d:=jy.2 h
  generalize (wds n).getD ((wds n).length-1) 0=t at *
  have e:=(cj (HY b)).2.2;have c:nb t<=64:=kP (k:=64) a
  omega
def Nw (K:Nat)(h:Hp)(b:Nat)(t:TypeId)(cs:List Value):Prop:=K<=b/\t≠0/\h[b]?=some (.cells cs.toArray t (0,0))
theorem Nw.gw {K:Nat}{h c:Hp}{b:Nat}{t:TypeId}{cs:List Value}(x:Nw K h b t cs)(u:Gw h c):Nw K c b t cs:=by
 obtain ⟨h1,d,a⟩:=x;refine ⟨h1,d,?_⟩
 rcases u.blk b (aF a) with e|e
 ·exact e.trans a
 ·rw[e] at a
  injection a with a
  unfold aY at a
  injection a with _ h4
  exact absurd h4.symm d
theorem Nw.seg {K:Nat}{h:Hp}{b:Nat}{t:TypeId}{cs sp:List Value}(x:Nw K h b t (cs++sp)):Seg h b 0 cs:=fun i v hv=>by
 unfold da
 rw[x.2.2];have hi:i<cs.length:=(Ih.1 hv).1
 simp only[yH,List.getElem?_toArray]
 rw[yo hi];exact hv
theorem Nw.seg0 {K:Nat}{h:Hp}{b:Nat}{t:TypeId}{cs:List Value}(x:Nw K h b t cs):Seg h b 0 cs:=Nw.seg (sp:=[]) (by rw[List.append_nil];exact x)
section laws
variable {M:Ms}{P:Program}{n:Nat}{N R:Po}{X:Nat->Po}{ops:Array Oper}{k k0:Nat}{hr:Hp}{AL:List Al}{L:Array Bool}{Γ:bW}{w:World}{h:Hp}{w0:World}{h0:Hp}{B:List Bx}{Rs:List Rw}{F:List (Hp->Prop)}
theorem SlO.flat {α:Type}{sz:Nat}{f:α->List Value}{d:α}{A:Z9}:∀ {l:List α},(∀ x,(f x).length=sz)->SlO sz f d h A l->Seg h (aB A) (aO A) (l.flatMap f)
  | l,hf,s=>fun i v hv=>by
    have hi:i<(l.flatMap f).length:=(Ih.1 hv).1;rw[d9 hf] at hi
    rcases yW sz with h0'|hp
    . subst h0';simp at hi
    . have hk:i/sz<l.length:=(H1 hp).2 hi
      have hr:i%sz<sz:=yO _ hp;have c:=s.el (i/sz) hk (i%sz) v;have b:=fM hf d l (i/sz) hk;have a:i/sz*sz+i%sz=i:=by rw[z2];exact Hz i sz
      have:=c (by rw[<-b,yp hr,yq,a];exact hv)
      rwa [yu,a] at this
theorem sQ {b o:Nat}{news:List Value}(g:G w h)(a:Seg h b o news):∀ j u,news[j]?=some u->w.cell? ((⟨b,o,none⟩:Addr).add j)=some u:=by
 intro j u c;have:=j4 g (a j u c)
 unfold Addr.add
 split
 ·rename_i h0;subst h0;exact this
 ·exact this
theorem mF (j o:Nat)(cs:List Value)(s:SS w0 h0 w h B Rs F)(H:∀ w',Put (av B j).b w w'->SS w0 h0 w' h (fN B j o cs) Rs F->LG P n N R X ops (k+1) Γ w')(c:cS ops Γ k=true:=by kernel_rfl)
  (a:(decide (j<B.length) && decide (o+cs.length<=(av B j).vs.length))=true:=by kernel_rfl)(d:dr P (execOp (ev Γ) (ao ops k))=some (.skip,nu (av B j).b o cs):=by kernel_rfl):LG P n N R X ops k Γ w :=
 LG.put j o cs s.st s.g0 (g5 c).1 (g5 c).2 a d (fun w' p e=>H w' p (s.put0 (oT (la _ _▸a).1) p e (kJ (oT (la _ _▸a).1))))
theorem tX (i t:Nat)(A:Z9)(len a sz:Nat)(x:Int)(j:Nat)(d:A=some ⟨aB A,aO A,none⟩)(H:AG M P n N R X ops k0 (L.setIfInBounds i true) ((t,.pointer (some ⟨aB A,aO A+j*sz,none⟩))::Γ) w)(c:cT n ops k0 L Γ i t=true:=by kernel_rfl)(e:BI P (ev Γ) (ao ops i)=some (.slice A len a,.int .i64 x,sz):=by kernel_rfl)(hk:x=j:=by omega)(b:j<len:=by omega):AG M P n N R X ops k0 L Γ w :=
 T.val i t _ w (nz c).1 (nz c).2 (f0 e d hk b w) H
theorem eK {α:Type}(i t:Nat)(ty:TypeId)(m sz bt:Nat)(z:Value)(f:α->List Value)(x0:α)(s:SS w0 h0 w h B Rs F)(H:∀ b w' h',SS w0 h0 w' h' (⟨b,ty,(yL m x0).flatMap f⟩::B) Rs F->EG M P n N R X ops k0 hr AL (L.setIfInBounds i true) ((t,.slice (some ⟨b,0,none⟩) m m)::Γ) w' h')(p:B9 n ops k0 AL L Γ i t=true:=by kernel_rfl)
  (C:Gj P (ev Γ) (ao ops i)=some (.int .i64 (m:Int),.int .i64 (m:Int),ty,z,sz,bt):=by kernel_rfl)(d:z.cells.toList=f x0:=by kernel_rfl)(e:z.cells.size=sz:=by kernel_rfl)(c:0<sz:=by decide)(y:bt*m<=140737488355328:=by omega)(o:m<9223372036854775808:=by omega):EG M P n N R X ops k0 hr AL L Γ w h :=
 Rg.event i t (ii p).1 (ii p).2 (fun w1 h1 u=>by
  have a:=s.step u;have j:Up w1 h1 (w1.alloc (.cells ((yL m x0).flatMap f).toArray ty (0,0))) (h1.push aY):=Up.allocAny a.g _ _ (.inr rfl);refine .inl ⟨_,_,_,nH C d e c y o w1,j.m M.l,H _ _ _ (a.new j (by rw[a.g.size];exact ey _) (St.new1 (x:=⟨0,0,.cells ((yL m x0).flatMap f).toArray ty (0,0)⟩) a.st (a.st.step j) ⟨?_,?_,?_⟩ ty _ rfl))⟩
  ·rw[heap_alloc];exact gg
  ·rw[a.g.size];exact gg
  ·show h1.size<=w1.heap.size;rw[a.g.size];exact ey _)
theorem SS.blkp {F1:List (Hp->Prop)}{wr:World}{x:Al}{b:Nat}(a:List Bx)(j:SS w0 h0 wr hr B Rs F1)(s:SS w0 h0 w h (a++B) Rs F)(k:Blk hr w h (x,b))(t:TypeId)(vs:List Value)(p:x.o=.cells vs.toArray t (0,0))(u:a.all (fun y=>y.t != t)=true):SS w0 h0 w h (⟨b,t,vs⟩::(a++B)) Rs F :=
 ⟨s.g0,St.new j.st s.st (fun y d=>by
  rcases List.mem_append.1 d with d|d
  ·right
   intro e;have h1:=s.st.own y (List.mem_append_left _ d);have l:w.heap[b]?=some x.o:=k.1
   unfold Own at h1
   rw[e,l,p] at h1
   injection h1 with h1
   injection h1 with _ h3
   have:=(ov.1 u) y d
   simp only[bne_iff_ne,ne_eq] at this
   exact this h3.symm
  ·exact .inl (aF (j.st.jk y d))) k t vs p,fun r i=>(s.ro r i).new b (fun c z e=>by
  have h1:=(j.ro r i).lt z;have l:hr.size<=b:=k.2.2
  omega),s.ap,s.mo,s.f⟩
theorem fi {F1:List (Hp->Prop)}{wr:World}{x:Al}(a:List Bx)(f:SS w0 h0 wr hr B Rs F1)(s:SS w0 h0 w h (a++B) Rs F)(t:TypeId)(vs:List Value)(H:∀ w' c b,SS w0 h0 w' c (⟨b,t,vs⟩::(a++B)) Rs F->AG M P n N R X ops k0 (L.setIfInBounds x.i true) ((x.t,.pointer (some ⟨b,0,none⟩))::Γ) w')(j:(fG ops [x] L && decide (x.t<n))=true:=by kernel_rfl)(d:x.o=.cells vs.toArray t (0,0):=by kernel_rfl)(e:a.all (fun y=>y.t != t)=true:=by kernel_rfl):EG M P n N R X ops k0 hr [x] L Γ w h :=
 Rg.fin1 j (fun w' c b u k=>H w' c b (SS.blkp a f (s.step u) k t vs d e))
end laws
theorem SS.at_ {w:World}{h:Hp}{rb:Nat}{t:TypeId}{vs:List Value}(g:G w h)(o:Own w rb t vs)(j:h[rb]?=some aY):∃ w0 h0,SS w0 h0 w h [⟨rb,t,vs⟩] [] []:=by
 obtain ⟨w0,h0,c,b⟩:=St.at_ g o j;exact ⟨w0,h0,c,b,fun _ a=>(by cases a),.nil,fun _ a=>(by cases a),trivial⟩
theorem SlO.take {α:Type}{sz:Nat}{f:α->List Value}{d:α}{h:Hp}{A:Z9}{l:List α}(s:SlO sz f d h A l)(k:Nat):SlO sz f d h A (l.take k) :=
 ⟨fun a=>s.ok (by rw[Af] at a;omega),fun i hi=>by
  rw[Af] at hi
  have:=s.el i oM
  rwa [D0,yp oM,<-D0]⟩
theorem SlO.drop {α:Type}{sz:Nat}{f:α->List Value}{d:α}{h:Hp}{A:Z9}{l:List α}(s:SlO sz f d h A l)(k c:Nat)(j:l.length<=c):SlO sz f d h (if c=k then A else A.map (·.add (k*sz))) (l.drop k):=by
 rcases ep k l.length with hk|hk
 ·rw[if_neg oM]
  have b:=s.ok oM
  have a:(⟨aB A,aO A,none⟩:Addr).add (k*sz)=⟨aB A,aO A+k*sz,none⟩:=by
   unfold Addr.add
   split
   ·rename_i h0;rw[h0];rfl
   ·rfl
  have e:A.map (·.add (k*sz))=some ⟨aB A,aO A+k*sz,none⟩:=by rw[b];simp only[Option.map_some,aB,aO] at a ⊢;rw[<-a]
  refine ⟨fun _=>by rw[e];rfl,fun i hi=>?_⟩;rw[e]
  show Seg h (aB A) (aO A+k*sz+i*sz) _
  rw[HT] at hi
  have:=s.el (k+i) oM;rw[Gx,<-yu] at this
  rwa [D0,yq,<-D0]
 ·rw[Ii hk];exact SlO.nil
theorem qz (x y:Int):(if y>x then y else x)=max x y:=by omega
theorem wu (x y:Int):(if y<x then y else x)=min x y:=by omega
section z
variable {bs:List Nat}{P:Program}{n:Nat}{N R:Po}{X:Nat->Po}{ops:Array Oper}{k0:Nat}{hr:Hp}{AL:List Al}{L:Array Bool}{Γ:bW}{w wr:World}{h:Hp}{w0:World}{h0:Hp}{B:List Bx}{Rs:List Rw}{F F1:List (Hp->Prop)}
abbrev Mz (hr:Hp)(bs:List Nat):Ms:=⟨[],some (hr.size,bs)⟩
theorem B5 {id:Nat}{d:Bool}(k0:Nat)(AL:List Al)(bs:List Nat)(e:P.follows .mixedOrders=true)(s:SS w0 h0 w h B Rs F)(b:∀ x∈AL,AlOk P ops k0 x)(H:EG (Mz h bs) P n N R X ops k0 h AL (x2 ops.size false) Γ w h)(a:jR ops=true:=by kernel_rfl):CG P n N R X (.region id ops d) Γ w :=
 CG.region (Mz h bs) k0 AL e a s.g b (fun _ c=>by cases c) H
theorem F4 (e:SS w0 h0 wr hr B Rs F1)(s:SS w0 h0 w h B Rs F){w':World}(c:∀ b,b<hr.size->b ∉ bs->b ∉ ([]:List Nat)->w'.heap[b]?=w.heap[b]?):∀ x∈B,x.b ∉ bs->Own w' x.b x.t x.vs:=fun x a d =>
 (c x.b (aF (e.st.jk x a)) d List.not_mem_nil).trans (s.st.own x a)
theorem wP (i t:Nat)(ps:List (Nat × Nat × Nat))(v:Value)(f:SS w0 h0 wr hr B Rs F1)(s:SS w0 h0 w h B Rs F)(H:EG (Mz hr bs) P n N R X ops k0 hr AL (L.setIfInBounds i true) ((t,v)::Γ) w h)(hM:∀ p∈ps,(av B p.1).b ∉ bs:=by intro _ _;exact List.not_mem_nil)(a:cE n ops k0 AL L Γ i t=true:=by kernel_rfl)(d:bT B ps=true:=by kernel_rfl)(e:bO P (execOp (ev Γ) (ao ops i)) (cB B ps)=some (.value v,bG B ps):=by kernel_rfl):EG (Mz hr bs) P n N R X ops k0 hr AL L Γ w h :=
 Rg.loadZ i t v rfl (jl a).1 (jl a).2 (fun w' c=>bM _ _ _ _ e (fU hM (F4 f s c) ps (fun _ h=>h) d)) H
theorem CT {x y:Al}(p:SS w0 h0 wr hr B Rs F)(s:SS w0 h0 w h B Rs F)(t:TypeId)(vs:List Value)(I:TypeId)(a:List Value)(H:∀ w' D b c,hr.size<=b->hr.size<=c->SS w0 h0 w' D (⟨b,t,vs⟩::⟨c,I,a⟩::B) Rs F->AG (Mz hr bs) P n N R X ops k0 ((L.setIfInBounds y.i true).setIfInBounds x.i true) ((x.t,.pointer (some ⟨b,0,none⟩))::(y.t,.pointer (some ⟨c,0,none⟩))::Γ) w')(M:(fG ops [x,y] L && decide (x.t<n) && decide (y.t<n) && (x.t != y.t) && (x.i != y.i))=true:=by kernel_rfl)(K:x.o=.cells vs.toArray t (0,0):=by kernel_rfl)(C:y.o=.cells a.toArray I (0,0):=by kernel_rfl):EG (Mz hr bs) P n N R X ops k0 hr [x,y] L Γ w h :=
 Rg.fin2 M (fun w' D b c u k k2 l=>H w' D b c k.2.2 k2.2.2 ⟨s.g0,St.new2 p.st (s.st.step u) k k2 l t vs K I a C,fun r j=>(((s.step u).ro r j).new c (fun d z e=>by
  have h1:=(p.ro r j).lt z;have J:hr.size<=c:=k2.2.2
  omega)).new b (fun d z e=>by
  have h1:=(p.ro r j).lt z;have J:hr.size<=b:=k.2.2
  omega),s.ap,s.mo,(s.step u).f⟩)
theorem gU {b:Nat}(c:hr.size<=b):∀ K a,(Mz hr bs).z=some (K,a)->K<=b\/b∈a:=fun K a e=>by
 injection e with e
 injection e with e1 e2
 subst e1;exact .inl c
theorem fw {b:Nat}(c:b∈bs):∀ K a,(Mz hr bs).z=some (K,a)->K<=b\/b∈a:=fun K a e=>by
 injection e with e
 injection e with e1 e2
 subst e2;exact .inr c
end z
def ft (x:Nat):List Value:=[.int .u32 (x:Nat)]
abbrev S3 (A:Z9)(l:List Nat):Hp->Prop:=fun h_=>SlO 1 ft 0 h_ A l
theorem mh:∀ f n:Nat,oL f n=oK 4294967296 f n
  | 0,_=>rfl
  | f+1,n=>by
    unfold oL oK
    split
    . rfl
    . rw[mh f]
theorem Bl (n:Nat):lim n=iA 4294967296 n:=mh n n
def Ld (l:List Nat):Prop:=Dg 4294967296 l
theorem Ld.lim (n:Nat):Ld (lim n):=fun x a=>jg n x a
theorem Ld.get {l:List Nat}(h:Ld l)(k:Nat):l.getD k 0<4294967296:=Dg.getD h kD k
theorem Ld.set {l:List Nat}(h:Ld l)(k:Nat){x:Nat}(a:x<4294967296):Ld (l.set k x):=Dg.set h k a
theorem Ld.rep (n:Nat):Ld (yL n 0):=Dg.rep kD
theorem ox (n:Nat):ak 4294967296 (lim n)=n:=by rw[<-ju];exact fh n
theorem un {l:List Nat}(h:Ld l){n:Nat}(e:ak 4294967296 l=n):lim n=l.take (tl l l.length):=by
 rw[<-e,<-ju];exact uR h
theorem pF {l:List Nat}(h:Ld l){n:Nat}(e:ak 4294967296 l=n):(lim n).length=tl l l.length:=by
 rw[un h e,Af];have:=ia l l.length;omega
theorem iD (n:Nat):n<4294967296^(lim n).length:=by rw[Bl];exact im kD n
theorem fV {a b:Nat}(h:a<=b):(lim a).length<=(lim b).length:=f4 (zh h (iD b))
theorem pi {a b k:Nat}(h:a<=b)(c:(lim b).length<=k):(lim a).length<=k:=e4 (fV h) c
theorem sq (n:Nat):(lim n).length<=2*(wds n).length:=by
 refine f4 ?_;have:=cI n
 rwa [show (18446744073709551616:Nat)=4294967296^2 by rfl,<-A7] at this
theorem Bf (n:Nat):(wds n).length<=(lim n).length:=by
 refine dW kD ?_;have:=iD n;exact e5 this (Nat.pow_le_pow_left kD _)
theorem fA {a b:Nat}(h:(lim a).length<(lim b).length):a<b:=by
 rcases ep a b with hl|hl
 ·exact hl
 ·have:=fV hl;omega
theorem BA {a b:Nat}(h:lim a=lim b):a=b:=by rw[<-fh a,<-fh b,h]
theorem fy {a b k:Nat}(d:(lim a).length=(lim b).length)(hk:k<(lim a).length)(h:(lim a).drop (k+1)=(lim b).drop (k+1))(c:(lim a).getD k 0<(lim b).getD k 0):a<b:=by
 have e:=bL 4294967296 (l:=lim a) (k:=k+1) oM;have i:=bL 4294967296 (l:=lim b) (k:=k+1) oM;rw[ox] at e i
 rw[h] at e
 have o:=aR 4294967296 (l:=lim a) (k:=k) hk;have j:=aR 4294967296 (l:=lim b) (k:=k) oM;have f:=bS (Dg.take (Ld.lim a) k);rw[Af,Ag oM] at f
 have p:4294967296^k*(lim a).getD k 0+4294967296^k<=4294967296^k*(lim b).getD k 0:=by
  rw[<-HX];exact A5 _ c
 omega
def RN (h:Hp)(v:Value)(n:Nat):Prop:=Gl 1 ft 0 h v (lim n)
def RI (h:Hp)(v:Value)(z:Int):Prop:=∃ A c,v=.agg #[.bool (ax z),.slice A (lim (ac z)).length c]/\(lim (ac z)).length<=c/\SlO 1 ft 0 h A (lim (ac z))
def RP (h:Hp)(v:Value)(z:Int)(n:Nat):Prop:=∃ A c B d,v=.agg #[.bool (ax z),.slice A (lim (ac z)).length c,.slice B (lim n).length d]/\(lim (ac z)).length<=c/\(lim n).length<=d/\SlO 1 ft 0 h A (lim (ac z))/\SlO 1 ft 0 h B (lim n)
def RQ (h:Hp)(v:Value)(q:Rat):Prop:=RP h v q.num q.den
theorem RP.gw {h a:Hp}{v:Value}{z:Int}{n:Nat}(r:RP h v z n)(u:Gw h a):RP a v z n:=by
 obtain ⟨A,c,B,d,h1,e,b,f,i⟩:=r;exact ⟨A,c,B,d,h1,e,b,f.gw u,i.gw u⟩
theorem RQ.gw {h a:Hp}{v:Value}{q:Rat}(r:RQ h v q)(u:Gw h a):RQ a v q:=RP.gw r u
theorem RN.trim {h:Hp}{A:Z9}{l:List Nat}{n m a:Nat}(b:Ld l)(e:ak 4294967296 l=n)(c:l.length=m)(d:m<=a)(s:SlO 1 ft 0 h A l):RN h (.slice A (tl l m) a) n:=by
 subst c;have e1:=pF b e;have:=ia l l.length;refine ⟨A,a,by rw[e1],by omega,?_⟩;rw[un b e];exact s.take _
theorem qp {h:Hp}{p b:Bool}{n a:Nat}{A:Z9}(d:b=(p && decide (0<n)))(e:(lim n).length<=a)(c:SlO 1 ft 0 h A (lim n)):RI h (.agg #[.bool b,.slice A (lim n).length a]) (ck p n):=by
 subst d;refine ⟨A,a,?_,?_,?_⟩
 ·rw[iL,ei]
 ·rw[ei];exact e
 ·rw[ei];exact c
theorem xF {l:List Nat}{m:Nat}(h:0<m)(h0:l.getD (m-1) 0=0):tl l m=tl l (m-1):=by
 obtain ⟨k,rfl⟩:∃ k,m=k+1:=⟨m-1,by omega⟩;rw[jW,if_pos (by simpa using h0)];rfl
theorem C1 {r x:Nat}(a:x<4294967296):r*4294967296 ||| x=r*4294967296+x:=by
 have:=HW (i:=32) (b:=x) oM r;rw[z2];exact this.symm
theorem sN {r x d:Nat}(a:0<d)(hr:r<d)(b:x<4294967296)(c:d<4294967296) :
  (r*4294967296+x)/d%4294967296=(r*4294967296+x)/d/\r*4294967296+x=d*((r*4294967296+x)/d)+(r*4294967296+x)%d/\(r*4294967296+x)%d<d:=by
 refine ⟨yN ?_,(Hz _ _).symm,yO _ a⟩;rw[H1 a];have h1:(r+1)*4294967296<=d*4294967296:=yI _ hr;rw[z2]
 omega
theorem vt {b:Nat}{l z:List Nat}{m d r a q X:Nat}(i:0<m)(f:m-1<z.length)(h0:z.getD (m-1) 0=0)(inv:X=d*ak b z+(b^m*r+ak b (l.take m)))(e:r*b+l.getD (m-1) 0=d*q+a) :
  X=d*ak b (z.set (m-1) q)+(b^(m-1)*a+ak b (l.take (m-1))):=by
 obtain ⟨k,rfl⟩:∃ k,m=k+1:=⟨m-1,by omega⟩;rw[H4] at *
 have h1:=cG b q f;rw[h0,Ah,yw] at h1
 have e2:=congrArg (b^k * ·) e
 simp only[z7] at e2
 rw[inv,h1,aW,z1,z7];have h:b^k*(r*b)=b^k*b*r:=by rw[z2 r b,z8]
 have c:b^k*(d*q)=d*(b^k*q):=by ac_rfl
 rw[h,c] at e2
 omega
section bld
variable {P:Program}{n:Nat}{N R:Po}{X:Nat->Po}{ops:Array Oper}{k:Nat}{Γ:bW}{w0:World}{h0:Hp}{B:List Bx}{Rs:List Rw}{F:List (Hp->Prop)}{wB:World}{hB:Hp}
theorem SS.liftJ (s:SS w0 h0 wB hB B Rs F){w:World}(x:Ext wB w):∃ c,SS w0 h0 w c B Rs F/\∀ b,wB.heap.size<=b->b<w.heap.size->c[b]?=some aY:=by
 have d:=x.size;have h:=s.g.size;refine ⟨hB++x2 (w.heap.size-wB.heap.size) aY,s.step ⟨x,⟨by simp,fun b a=>yb a⟩,⟨by simp;omega,fun b=>?_⟩⟩,fun b h1 f=>?_⟩
 ·rcases ep b hB.size with a|a
  ·rw[yb a]
   have e:=Below.block x b oM
   rcases s.g.blk b with h1|h1
   ·exact .inl (h1.trans e.symm)
   ·exact .inr h1
  ·rw[yR a,yS]
   by_cases hl:b<w.heap.size
   ·right;rw[if_pos oM]
   ·left;rw[if_neg oM,eq oM]
 ·rw[yR oM,yS,if_pos oM]
theorem HG (t:Nat)(ty:TypeId)(vs:List Value){w:World}{h:Hp}(s:SS w0 h0 w h B Rs F)(H:∀ w',Ext w w'->w.heap.size<=w'.heap.size->w'.heap[w.heap.size]?=some (.cells vs.toArray ty (0,0))->LG P n N R X ops (k+1) ((t,.pointer (some ⟨w.heap.size,0,none⟩))::Γ) w')(a:cL ops Γ k t n=true:=by kernel_rfl)
  (hr:(execOp (ev Γ) (ao ops k)).run P w=.ok (.value (.pointer (some ⟨w.heap.size,0,none⟩))) (w.alloc (.cells vs.toArray ty (0,0))):=by kernel_rfl):LG P n N R X ops k Γ w :=
 LG.val t _ (w.alloc (.cells vs.toArray ty (0,0))) (bQ a).1 (bQ a).2 hr (H _ ((Ext.refl _).alloc _) (by rw[heap_alloc];simp) (by rw[heap_alloc];simp))
theorem Hn (t:Nat){f:FuncId}{args:Array Value}{V:Value}{Q:World->Prop}{w:World}(s:SS w0 h0 wB hB B Rs F)(x:Ext wB w)(c:Calls P f args w fun e w'=>e=.returned V/\(Q w'/\Below wB.heap.size w w'))(H:∀ w' a,SS w0 h0 w' a B Rs F->Ext wB w'->Q w'->LG P n N R X ops (k+1) ((t,V)::Γ) w')(d:cL ops Γ k t n=true:=by kernel_rfl)
  (hr:(execOp (ev Γ) (ao ops k)).run P w=.ok (.enter f args) w:=by kernel_rfl):LG P n N R X ops k Γ w :=
 LG.call t f args (bQ d).1 (bQ d).2 hr (c.mono fun e w' ⟨i,q,b⟩=>by
  have h:Ext wB w':=Below.trans x b;obtain ⟨a,j,_⟩:=s.liftJ h;exact ⟨V,i,H w' a j h q⟩)
def BL (a b:Nat):List Nat:=(List.range b).filter (fun c=>decide (a<=c))
theorem kW {a b c:Nat}:c∈BL a b↔a<=c/\c<b:=by
 unfold BL;rw[List.mem_filter,pa];simp;omega
theorem A.takeK {M:Ms}{Q:Exit->Act->World->Prop}{k0:Nat}{L:Array Bool}{a:Act}{w:World}{i:Nat}{o:Oper}{v:Value}{S:World->Prop}
  (hi:ops[i]?=some o)(hk:i<k0)(d:Region.noSelect ops=true)(hf:Region.free .any ops L i=true)(hr:i∈Region.ready .any ops L)(y:∀ c a w,¬Q (.panic c) a w)
  (p:∀ w w',S w->Mo M.l w w'->S w')(z:S w)(x:YieldsIf P ops S o v a)
  (b:(∀ w,S w)\/(∀ w w',S w->Tl M w w'->S w')\/∀ j f,ops[j]?=some f->k0<=j->j≠i->∃ e∈f.after,Region.binds .any e=true/\e.on=i)
  (H:A M P ops Q k0 (L.setIfInBounds i true) (a.put o.dst v) w):A M P ops Q k0 L a w:=by
 unfold A at *
 rw[eZ hr]
 exact kY hi (Region.noSelect_spec d) (fun c a w B=>absurd B (y _ _ _)) p _ _ _ _
  (fun j f C h u=>Region.free_spec hi hf j f C h u) b hr x z H hk
variable {M:Ms}{k0:Nat}{L:Array Bool}{w:World}
theorem aV (i t:Nat)(v:Value)(H:AG M P n N R X ops k0 (L.setIfInBounds i true) ((t,v)::Γ) w)(h:cE n ops k0 [] L Γ i t=true:=by kernel_rfl)(hv:∀ w,(execOp (ev Γ) (ao ops i)).run P w=.ok (.value v) w:=by intro _;kernel_rfl):AG M P n N R X ops k0 L Γ w:=by
 obtain ⟨b,e⟩:=jl h;rw[la] at b
 have c:=dj b.1;intro a d;have e1:=d.exec (Region.noSelect_spec c.sel i _ · · c.get) b.2;refine A.takeK (v:=v) (S:=fun _=>True) c.get c.lt c.sel c.free c.ready (fun _ _ _ f=>f) (fun _ _ _ _=>trivial) trivial (.inl ⟨d.want e,fun w _=>by rw[e1];exact hv w⟩) (.inl fun _=>trivial) ?_;rw[c.dst];exact H _ (d.put c.tn v)
theorem aL (i t:Nat)(v:Value)(hr:∀ w',Mo M.l w w'->(execOp (ev Γ) (ao ops i)).run P w'=.ok (.value v) w')(H:AG M P n N R X ops k0 (L.setIfInBounds i true) ((t,v)::Γ) w)(x:AA n ops k0 [] L Γ i t=true:=by kernel_rfl):AG M P n N R X ops k0 L Γ w:=by
 obtain ⟨b,o⟩:=iK x;rw[la,la] at b
 obtain ⟨⟨h,e⟩,f⟩:=b;have c:=dj h;intro a d;have e1:=d.exec (Region.noSelect_spec c.sel i _ · · c.get) e;refine A.takeK (v:=v) (S:=fun w'=>Mo M.l w w') c.get c.lt c.sel c.free c.ready (fun _ _ _ p=>p) (fun _ _ h1 j=>h1.trans j) (Mo.refl _ _) (.inl ⟨d.want o,fun w' u=>by rw[e1];exact hr w' u⟩) (.inr (.inr (i5 f))) ?_;rw[c.dst];exact H _ (d.put c.tn v)
theorem aH (i t:Nat)(v:Value){h:Hp}{b o:Nat}{cs:List Value}(s:SS w0 h0 w h B Rs F)(d:Seg h b o cs)(H:AG M P n N R X ops k0 (L.setIfInBounds i true) ((t,v)::Γ) w)(hM:∀ b∈M.l,h[b]?=some aY)(e:AA n ops k0 [] L Γ i t=true:=by kernel_rfl)(c:bO P (execOp (ev Γ) (ao ops i)) cs=some (.value v,lM b o cs.length):=by kernel_rfl):AG M P n N R X ops k0 L Γ w :=
 aL i t v (fun _ a=>Seg.runM d s.g hM a c) H e
def Fy (ops:Array Oper)(k0:Nat)(L:Array Bool)(i:Nat):Bool:=decide (i<ops.size) && decide (i<k0) && Region.noSelect ops && (Region.ready .any ops L == [i])
theorem aC (i t:Nat){f:FuncId}{args:Array Value}(c:Calls P f args w fun e w'=>∃ v,e=.returned v/\Mo M.l w w'/\AG M P n N R X ops k0 (L.setIfInBounds i true) ((t,v)::Γ) w')(p:(Fy ops k0 L i && a6 Γ (ao ops i) && ((ao ops i).dst == some t) && decide (t<n))=true:=by kernel_rfl)(x:bh ops Γ (ao ops i)=some true:=by kernel_rfl)
  (hr:(execOp (ev Γ) (ao ops i)).run P w=.ok (.enter f args) w:=by kernel_rfl):AG M P n N R X ops k0 L Γ w:=by
 simp only[la,decide_eq_true_eq,beq_iff_eq] at p
 obtain ⟨⟨⟨h1,u⟩,z⟩,y⟩:=p
 unfold Fy at h1
 simp only[la,decide_eq_true_eq,beq_iff_eq] at h1
 have h:=bj (ops:=ops) h1.1.1.1;intro a b;refine A.intro (fun h0=>by rw[h1.2] at h0;cases h0) (fun j d=>?_);rw[h1.2,vl] at d
 subst d;refine OpR.wpOp (R:=fun v w'=>Mo M.l w w'/\AG M P n N R X ops k0 (L.setIfInBounds j true) ((t,v)::Γ) w') h ⟨b.want x,.inr (.inr ⟨f,args,?_,c⟩)⟩ (fun v w' o=>⟨Rl.mo h1.1.1.2 o.1,?_⟩)
 ·rw[b.exec (Region.noSelect_spec h1.1.2 j _ · · h) u];exact hr
 ·rw[z];exact o.2 _ (b.put y v)
theorem vL {id:Nat}(M:Ms)(k0:Nat)(c:P.follows .mixedOrders=true)(H:AG M P n N R X ops k0 (x2 ops.size false) Γ w.drew):CG P n N R X (.region id ops true) Γ w:=by
 intro a b;refine wp_region_any c ?_;have h1:=H a b
 unfold A at h1
 rw[ib] at h1
 exact kr _ _ _ _ _ _ _ _ _ h1
theorem SS.drew {h:Hp}(s:SS w0 h0 w h B Rs F):SS w0 h0 w.drew h B Rs F:=s.step (Up.drew (Up.refl s.g))
theorem vU {K:Nat}{w w':World}(x:Below K w w'):Mo (BL K w.heap.size) w w':=⟨x.os,x.tape,x.output,x.size,fun c b a=>by
 rcases ep c K with h|h
 ·exact Below.block x c h
 ·exact absurd (kW.2 ⟨h,b⟩) a⟩
theorem pY {K:Nat}{T e:TypeId}{b:Nat}{bs:List Value}{w w1:World}(h:Lib.IsBuilder T e K b bs w)(x:Ext w w1):Lib.IsBuilder T e K b bs w1:=by
 have key:∀ p,Lib.BuilderAt T e K b p bs w->Lib.BuilderAt T e K b p bs w1:=by
  rintro p ⟨h1,v,a,f,i⟩
  have d:b<w.heap.size:=by
   rcases ep b w.heap.size with h'|h'
   ·exact h'
   ·rw[eq h'] at a;cases a
  exact ⟨h1,v,(Below.block x b d).trans a,dX f (fun c j=>Below.block x c (jC f j)),i⟩
 rcases h with h|h
 ·exact .inl (key _ h)
 ·exact .inr (key _ h)
theorem aX (i t:Nat)(A:Z9)(len a sz:Nat)(x:Int)(j:Nat)(c:A=some ⟨aB A,aO A,none⟩)(H:AG M P n N R X ops k0 (L.setIfInBounds i true) ((t,.pointer (some ⟨aB A,aO A+j*sz,none⟩))::Γ) w)(e:cE n ops k0 [] L Γ i t=true:=by kernel_rfl)(d:BI P (ev Γ) (ao ops i)=some (.slice A len a,.int .i64 x,sz):=by kernel_rfl)(hk:x=j:=by omega)(b:j<len:=by omega):AG M P n N R X ops k0 L Γ w :=
 aV i t _ H e (fun w=>f0 d c hk b w)
theorem pK {P:List UInt8}{x m:Nat}(a:m<8):Lib.byteCells (P++(b8 x).take m)++[.int .u8 ((x/2^(8*m)%256:Nat):Int)]=Lib.byteCells (P++(b8 x).take (m+1)):=by
 have e:(b8 x).take (m+1)=(b8 x).take m++[UInt8.ofNat (x/256^m)]:=by
  rw[List.take_add_one]
  congr 1
  unfold b8
  rw[HU,HV a];rfl
 rw[e,<-List.append_assoc]
 unfold Lib.byteCells
 rw[List.map_append (l₁:=P++_)]
 congr 1
 show _=[Value.int .u8 ((x/256^m%256:Nat):Int)]
 rw[A7]
theorem sI {l:List Nat}{k:Nat}(hk:k<l.length):((l.take k).flatMap b8)++(b8 (l.getD k 0)).take 8=(l.take (k+1)).flatMap b8:=by
 have e:(b8 (l.getD k 0)).take 8=b8 (l.getD k 0):=G1 (by rw[jn];omega);rw[gF hk,List.flatMap_append,e];simp
theorem sK {l:List Nat}{k m x:Nat}(hk:k<=l.length)(b:m<=8)(a:l.length<=1099511627776):(Lib.byteCells ((l.take k).flatMap b8++(b8 x).take m)).length+1<=140737488355328:=by
 rw[Lib.byteCells_length,yD,ml,Af,Af,jn];omega
theorem AI {l:List Nat}(h:tl l l.length=0):Value.agg #[.int .u64 0,.string ⟨#[]⟩]=nv (aA l):=by
 have e:=iJ 18446744073709551616 l l.length (ey _);rw[h,yz] at e
 have:aA l=0:=e.symm;rw[this];rfl
theorem DN {l:List Nat}(a:Wd l)(h:tl l l.length=1):Value.agg #[.int .u64 (l.getD 0 0:Nat),.string ⟨#[]⟩]=nv (aA l):=by
 have e:=iJ 18446744073709551616 l l.length (ey _);have b:=ia l l.length;rw[h,yz,aW] at e
 have e2:aA l=l.getD 0 0:=by show ak _ l=_;rw[<-e];simp[ak]
 rw[e2];have:=a.get 0
 unfold nv
 rw[kA this,kj this]
theorem xX {l:List Nat}(a:Wd l)(h:0<tl l l.length):Value.agg #[.int .u64 (l.getD 0 0:Nat),.string ⟨(((l.drop 1).take (tl l l.length-1)).flatMap b8).toArray⟩]=nv (aA l):=by
 have e:=nQ a;have e1:((l.drop 1).take (tl l l.length-1))=(wds (aA l)).drop 1:=by rw[e,List.drop_take]
 unfold nv
 rw[F8 (n:=aA l) (by rw[e1]),pI,e,ir h]
end bld
section
variable {P:Program}{Γ:bW}{o:Oper}
theorem du {f:FuncId}{args:Array Value}{v:Value}{w:World}(h:(execOp (ev Γ) o).run P w=(callFunc f args).run P w)(k:(callFunc f args).run P w=.ok (.value v) w):(execOp (ev Γ) o).run P w=.ok (.value v) w:=h.trans k
end
theorem dM (x y c:Nat)(a:x<18446744073709551616)(b:y<18446744073709551616)(d:c<=1):∃ s c':Nat,s+18446744073709551616*c'=x+y+c/\s<18446744073709551616/\c'<=1/\∀ w,(callFunc 107 #[.int .u64 x,.int .u64 y,.int .u64 c]).run Tryz.prog w=.ok (.value (.tuple #[.int .u64 s,.int .u64 c'])) w:=by
 refine ⟨(x+y+c)%18446744073709551616,(x+y+c)/18446744073709551616,by omega,by omega,by omega,fun w=>?_⟩;rw[run_callFunc_extern Tryz.func107 kR kR kR (e:=add64Entry) kR,run_add64 x y c oM oM oM oM]
 simp only[Result.andThen]
 congr 5<;>omega
theorem iB (x y b:Nat)(d:x<18446744073709551616)(f:y<18446744073709551616)(c:b<=1):∃ s a:Nat,s+y+b=x+18446744073709551616*a/\s<18446744073709551616/\a<=1/\∀ w,(callFunc 108 #[.int .u64 x,.int .u64 y,.int .u64 b]).run Tryz.prog w=.ok (.value (.tuple #[.int .u64 s,.int .u64 a])) w:=by
 refine ⟨(x+18446744073709551616-y-b)%18446744073709551616,if x<y+b then 1 else 0,by split<;>omega,by omega,by split<;>omega,fun w=>?_⟩;rw[run_callFunc_extern Tryz.func108 kR kR kR (e:=sub64Entry) kR,run_sub64 x y b c]
 rfl
theorem Ret.of_same {f:FuncId}{args:Array Value}{V:Value}{P:Program}{w:World}{h:Hp}(g:G w h)(c:Calls P f args w fun e w'=>e=.returned V/\w'=w):Calls P f args w (Ret w h fun v _=>v=V) :=
 c.mono fun e w' ⟨a,b⟩=>by subst b;exact ⟨V,h,a,Up.refl g,rfl⟩
theorem ne (x y:Nat)(a:x<18446744073709551616)(b:y<18446744073709551616)(w:World)(h:Hp)(g:G w h):CR 76 #[uV x,uV y] w h (fun v _=>∃ hi lo:Nat,v=.tuple #[uV hi,uV lo]/\lo+18446744073709551616*hi=x*y/\lo<18446744073709551616/\hi<18446744073709551616/\hi<=18446744073709551614):=by
 refine (Ret.of_same g (Tryz.bits_Mul64 x y a b w)).mono ?_;rintro e w' ⟨v,c,d,u,rfl⟩;have h1:x*y<=18446744073709551615*18446744073709551615:=H9 oM oM;exact ⟨_,c,d,u,x*y/18446744073709551616,x*y%18446744073709551616,rfl,by omega,by omega,by omega,by omega⟩
theorem mE {n:Nat}(h:n<18446744073709551616):Lib.bitLen n=nb n:=by
 rcases yW n with h0|h0
 ·subst h0;rfl
 ·obtain ⟨a,d,c⟩:=cj h0
  have b:nb n<=64:=kP (k:=64) h;have:=Lib.bitLen_shift (nb n-1) n a h
  have h1:n/2^(nb n-1)=1:=by
   have:n<2^(nb n-1)*2:=by rw[<-z1];rwa [show (nb n-1).succ=nb n by omega]
   refine H5 oM oM
  rw[h1] at this
  have e1:Lib.bitLen 1=1:=by decide
  omega
theorem tZ (x:Nat)(a:x<18446744073709551616)(w:World)(h:Hp)(g:G w h):CV 104 #[uV x] w h (nV (nb x)):=by
 have:=Ret.of_same g (Tryz.bits_Len64 x w oM oM);rw[yP,mE a] at this
 exact this
theorem Ci (x:Nat)(a:x<18446744073709551616)(w:World)(h:Hp)(g:G w h):CV 140 #[uV x] w h (nV (64-nb x)):=by
 have:=Ret.of_same g (Tryz.bits_LeadingZeros64 x w oM oM);have b:nb x<=64:=kP (k:=64) a;rw[yP,mE a,show (64:Int)-(nb x:Nat)=((64-nb x:Nat):Int) by omega] at this
 exact this
theorem iI {a b:Nat}(ha:a<18446744073709551616)(d:b<18446744073709551616):a*b<=340282366920938463426481119284349108225:=by
 have h1:a<=18446744073709551615:=by omega
 have c:b<=18446744073709551615:=by omega
 exact H9 h1 c
theorem vK (A:Z9)(c:Nat)(l:List Nat)(m:Nat)(C:l.length=m)(F:l.length<=1099511627776)(D:l.length<=c)(w:World)(h:Hp)(g:G w h)(y:S3 A l h):CV 86 #[.slice A m c] w h (.slice A (tl l m) c):=by
 have a:=((sS g).aS y);refine go Tryz.func86 [(0,qS A m c)] rfl (ab a ae (aK (lL a [.c,.v (nV m),.c] (ag (kZ ?_)))));refine bY _ (CG.loop (fun o Γ x=>∃ (n:Nat)(h_:Hp),o=n/\Γ=[(0,qS A m c),(2,sZ),(3,nV n)]/\SS w h x h_ [] [] [S3 A l]/\n<=m/\tl l m=tl l n) _ ⟨m,h,rfl,rfl,a.to _ _,nR _,rfl⟩ ?_);rintro _ _ w1 ⟨n,u,z,rfl,a,H,j⟩;refine cQ (ab a ae ?_);cases d:(decide ((0:Int)<(n:Int)))
 .
  have i:=oF d;refine lB 7 d (lL a ae (lG 9 ?_));refine lG 10 (lG 11 (lG 12 (lG 13 (lG 14 (lL a [.v qF] (am (CG.exit ?_)))))))
  show CG _ _ _ _ _ _ _ _
  refine ab a aE (lT 20 A m c 1 (n:Nat) n ?_);exact lL a ae (ah a [] (qS A n c) (by rw[j,ma oM]))
 have i:=oT d;refine lB 7 d (lL a dG (bB 11 ((n:Nat)-1) (n-1) ?_));refine lX 12 A m c 1 (n-1:Nat) (n-1) ((a.f.1).ok oM) (lH 13 (mW (l.getD (n-1) 0)) a ((a.f.1).el (n-1) oM) ?_);cases b:(((l.getD (n-1) 0:Nat):Int) == (0:Int))
 .
  have e:=aq b;refine lB 14 b (lL a [.v qF] (am (CG.exit ?_)))
  show CG _ _ _ _ _ _ _ _
  refine ab a aE (lT 20 A m c 1 (n:Nat) n ?_);exact lL a ae (ah a [] (qS A n c) (by rw[j,ma oM]))
 have e:=eq_of_beq b;refine lB 14 b (lL a [.v qT] (ar (cK (kZ (kQ (lL a ae (bB 17 ((n:Nat)-1) (n-1) ?_)))))));refine lL a ae (lD ?_);intro B p;refine ⟨_,_,?_,⟨n-1,u,rfl,rfl,a.to _ _,oM,(by rw[j];exact xF oM oM)⟩,p.to _ kR⟩
 omega
theorem sT {h:Hp}{A:Z9}{n a:Nat}(c:n<18446744073709551616)(b:2<=a)(s:SlO 1 ft 0 h A [n%4294967296,n/4294967296]):RN h (.slice A (tl [n%4294967296,n/4294967296] 2) a) n :=
 RN.trim (Dg.cons oM (Dg.one oM)) (by simp only[ak];omega) rfl b s
theorem m7 (n:Nat)(c:n<18446744073709551616)(w:World)(h:Hp)(g:G w h):CR 53 #[mV n] w h (fun v h=>RN h v n):=by
 have a:=sS g;refine go Tryz.func53 [(0,mV n)] rfl (ab a ae (aK (lL a ae (lV 4 (mW (n%4294967296)) ?_ (hr:=rT ((n:Int)) kR (wT _))))));refine lL a ae (lV 6 (mV (n/4294967296)) ?_ (hr:=ay (n:=Ij (n:Int) 4294967296) kR (j6 _ 4294967296)));refine lV 7 (mW (n/4294967296)) ?_ (hr:=rT (((n/4294967296:Nat):Int)) kR (qo oM oM));refine lR 8 156 2 ([mW (n%4294967296),mW (n/4294967296)]) a (fun b w2 j a=>?_);replace a:=a.aS (SlO.of_flat (sz:=1) (f:=ft) (d:=0) (l:=[(n%4294967296),(n/4294967296)]) (fun _=>rfl) a.f.1);exact au 9 a (vK (sB b) 2 ([(n%4294967296),(n/4294967296)]) 2 (by first|rfl|omega|assumption) (by simp) (by simp) _ _ a.g a.f.1) (fun i e a=>lL a ae (ah a [] (qS (sB b) (tl ([(n%4294967296),(n/4294967296)]) 2) 2) (sT c oM a.f.1)))
theorem G8 (n:Nat)(A:Z9)(a:Nat)(e:(lim n).length<=a)(w:World)(h:Hp)(g:G w h)(d:S3 A (lim n) h):CR 85 #[.bool false,.slice A ((lim n).length) a] w h (fun v h=>RI h v (ck false n)):=by
 have b:=((sS g).aS d);refine go Tryz.func85 [(0,qF),(1,qS A ((lim n).length) a)] rfl (aD (lA 4 37 ([qF,sZ]) b (fun j w2 l b=>aK (lL b aE (lG 7 ?_)))));exact lG 8 (lG 9 (lL b [.v qF,.c,.v (.agg #[qF,qS A ((lim n).length) a])] (lP 0 0 ([qF,qS A ((lim n).length) a]) b (fun i b=>ah b [(0,0,2)] (.agg #[qF,qS A ((lim n).length) a]) (qp rfl e b.f.1)))))
theorem GM (n:Nat)(A:Z9)(a:Nat)(i:(lim n).length<=a)(w:World)(h:Hp)(g:G w h)(j:S3 A (lim n) h):CR 85 #[.bool true,.slice A ((lim n).length) a] w h (fun v h=>RI h v (ck true n)):=by
 have b:=((sS g).aS j);have p:=@dv n;refine go Tryz.func85 [(0,qT),(1,qS A ((lim n).length) a)] rfl (aD (lA 4 37 ([qF,sZ]) b (fun o w2 x b=>aK (lL b [.c,.c,.c,.v (nV ((lim n).length))] ?_))));cases d:(decide ((0:Int)<(((lim n).length:Nat):Int)))
 .
  have e:=oF d;exact lB 9 d (lL b [.v qF,.c,.v (.agg #[qF,qS A ((lim n).length) a])] (lP 0 0 ([qF,qS A ((lim n).length) a]) b (fun l b=>ah b [(0,0,2)] (.agg #[qF,qS A ((lim n).length) a]) (qp (by simp only[Ik];first|(symm;exact decide_eq_true oM)|(symm;exact decide_eq_false oM)) i b.f.1))))
 have e:=oT d;exact lB 9 d (lL b [.v qT,.c,.v (.agg #[qT,qS A ((lim n).length) a])] (lP 0 0 ([qT,qS A ((lim n).length) a]) b (fun u b=>ah b [(0,0,2)] (.agg #[qT,qS A ((lim n).length) a]) (qp (by simp only[Ik];first|(symm;exact decide_eq_true oM)|(symm;exact decide_eq_false oM)) i b.f.1))))
theorem rI (p:Bool)(n:Nat)(A:Z9)(a:Nat)(c:(lim n).length<=a)(w:World)(h:Hp)(g:G w h)(b:S3 A (lim n) h):CR 85 #[.bool p,.slice A (lim n).length a] w h (fun v h=>RI h v (ck p n)):=by
 cases p
 ·exact G8 n A a c w h g b
 ·exact GM n A a c w h g b
theorem qg (z:Int)(h0:z<0)(h1 : -9223372036854775808<=z)(w:World)(h:Hp)(g:G w h):CR 52 #[iV z] w h (fun v h=>RI h v (ck true (ac z))):=by
 have a:=sS g;have hi:ac z<=9223372036854775808:=by unfold ac;omega
 refine go Tryz.func52 [(0,iV z)] rfl (aD (lA 2 37 ([qF,sZ]) a (fun C w2 y a=>ag (ab a ae ?_))));have ⟨d,i⟩:=dT (p:=(z:Int)<(0:Int)) oM;refine lB 4 d (ar (ab a ae (lV 6 (mV (18446744073709551616-ac z)) ?_ (hr:=rU (z) kR (by rw[IntKind.wrap_u64];unfold ac;omega)))));refine lV 7 (mV (ac z)) ?_ (hr:=rU ((0-((18446744073709551616-ac z:Nat):Int))) kR (by rw[IntKind.wrap_u64];omega));refine lC 8 a (m7 (ac z) oM _ _ a.g) ?_;rintro _ B _ a ⟨x,l,rfl,b,c⟩;replace a:=a.aS c;refine lC 9 a (rI true (ac z) x l b _ _ a.g a.f.1) ?_;rintro _ _ _ a ⟨j,e,rfl,o,u⟩;replace a:=a.aS u;exact lP 0 0 ([.bool (ax (ck true (ac z))),qS j ((lim (ac (ck true (ac z)))).length) e]) a (fun _ a=>ah a [(0,0,2)] (.agg #[.bool (ax (ck true (ac z))),qS j ((lim (ac (ck true (ac z)))).length) e]) (⟨_,_,rfl,o,a.f.1⟩))
theorem pL (z:Nat)(h1:z<9223372036854775808)(w:World)(h:Hp)(g:G w h):CR 52 #[nV z] w h (fun v h=>RI h v (ck false z)):=by
 have a:=sS g;refine go Tryz.func52 [(0,nV z)] rfl (aD (lA 2 37 ([qF,sZ]) a (fun C w2 y a=>ag (ab a ae ?_))));have ⟨d,i⟩:=dF (p:=(z:Int)<(0:Int)) oM;refine lB 4 d (am (cK (ab a ae (lV 11 (mV z) ?_ (hr:=rU ((z:Int)) kR (bF oM oM))))));refine lC 12 a (m7 z oM _ _ a.g) ?_;rintro _ B _ a ⟨x,l,rfl,b,c⟩;replace a:=a.aS c;refine lC 13 a (rI false z x l b _ _ a.g a.f.1) ?_;rintro _ _ _ a ⟨j,e,rfl,o,u⟩;replace a:=a.aS u;exact lP 0 0 ([.bool (ax (ck false z)),qS j ((lim (ac (ck false z))).length) e]) a (fun _ a=>ah a [(0,0,2)] (.agg #[.bool (ax (ck false z)),qS j ((lim (ac (ck false z))).length) e]) (⟨_,_,rfl,o,a.f.1⟩))
theorem pO (z:Int)(h0 : -9223372036854775808<=z)(h1:z<9223372036854775808)(w:World)(h:Hp)(g:G w h):CR 52 #[iV z] w h (fun v h=>RI h v z):=by
 rcases Int.lt_or_le z 0 with hz|hz
 ·have e:ck true (ac z)=z:=by unfold ck ac;simp;omega
  have:=qg z hz h0 w h g;rw[e] at this
  exact this
 ·obtain ⟨n,rfl⟩:=Int.eq_ofNat_of_zero_le hz
  exact pL n oM w h g
theorem jT (a:Nat)(A:Z9)(c:Nat)(Z:(lim a).length<=c)(b:Nat)(D:Z9)(d:Nat)(W:(lim b).length<=d)(F:(lim a).length<=4000000000)(O:(lim b).length<=4000000000)(w:World)(h:Hp)(g:G w h)(M:S3 A (lim a) h)(Q:S3 D (lim b) h):CV 103 #[.slice A ((lim a).length) c,.slice D ((lim b).length) d] w h (iV (bP a b)):=by
 have e:=(((sS g).aS M).aS Q);refine go Tryz.func103 [(0,qS A ((lim a).length) c),(1,qS D ((lim b).length) d)] rfl (ab e ae (ag (ab e [.c,.v (nV ((lim a).length)),.c,.v (nV ((lim b).length))] ?_)));cases l:((((lim a).length:Nat):Int) != (((lim b).length:Nat):Int))
 .
  have y:=aI l;refine lB 10 l (am (cK (cQ (ab e [.c,.v (nV ((lim a).length))] (lV 18 (iV ((((lim a).length:Nat):Int)-1)) ?_ (hr:=rS ((((lim a).length:Nat)-1)) kR ((fW oM oM).trans oM)))))));refine lL e ae (a7 ?_);refine bY _ (CG.loop (fun C Γ L=>∃ (m:Nat)(h_:Hp),C=m/\Γ=[(0,qS A ((lim a).length) c),(1,qS D ((lim b).length) d),(5,iV ((m:Int)-1))]/\SS w h L h_ [] [] [S3 D (lim b),S3 A (lim a)]/\m<=(lim a).length/\(lim a).length=(lim b).length/\(lim a).drop m=(lim b).drop m) _ ⟨(lim a).length,h,rfl,rfl,e.to _ _,nR _,oM,(by rw[Ii oM,Ii oM])⟩ ?_);rintro _ _ w2 ⟨m,X,S,rfl,e,V,p,i⟩;refine cQ (ab e ae ?_);cases j:(decide ((0:Int)<=((m:Int)-1:Int)))
  .
   have x:=oF j;refine lB 20 j (am (CG.exit ?_))
   show CG _ _ _ _ _ _ _ _
   exact ab e ae (ah e [] (iV 0) (by rw[gT (BA (by obtain rfl:m=0:=oM;simpa using i))]))
  have x:=oT j;refine lB 20 j (ar (cK (cQ (kZ (cQ (cR 9 [] mixed e ai ?_))))));refine eV 0 23 (qS A ((lim a).length) c) (eV 1 24 (iV ((m:Int)-1)) (eX 2 25 A ((lim a).length) c 1 ((m:Int)-1) (m-1) ((e.f.2.1).ok oM) (eH 3 26 (mW ((lim a).getD (m-1) 0)) e ((e.f.2.1).el (m-1) oM) (eV 4 27 (qS D ((lim b).length) d) (eV 5 28 (iV ((m:Int)-1)) (eX 6 29 D ((lim b).length) d 1 ((m:Int)-1) (m-1) ((e.f.1).ok oM) (eH 7 30 (mW ((lim b).getD (m-1) 0)) e ((e.f.1).el (m-1) oM) ?_)))))));cases o:((((lim a).getD (m-1) 0:Nat):Int) != (((lim b).getD (m-1) 0:Nat):Int))
  .
   have u:=aI o;refine eB 8 31 o (bA e (fun Y H e=>tN (cD (cK (kQ (lL e ae (lV 22 (iV (((m-1:Nat):Int)-1)) ?_ (hr:=rS ((((m:Int)-1)-1)) kR ((fW oM oM).trans oM)))))))));refine lL e ae (lD ?_);intro U I;refine ⟨_,_,?_,⟨m-1,H,rfl,rfl,e.to _ _,oM,p,(eJ (k:=m-1) p oM (by rw[show m-1+1=m by omega];exact i) oM)⟩,I.to _ kR⟩
   omega
  have u:=aU o;refine eB 8 31 o (bA e (fun _ _ e=>tN (bZ (cQ (cQ (cR 9 [] mixed e ai ?_))))));refine eV 0 32 (qS A ((lim a).length) c) (eV 1 33 (iV ((m:Int)-1)) (eX 2 34 A ((lim a).length) c 1 ((m:Int)-1) (m-1) ((e.f.2.1).ok oM) (eH 3 35 (mW ((lim a).getD (m-1) 0)) e ((e.f.2.1).el (m-1) oM) (eV 4 36 (qS D ((lim b).length) d) (eV 5 37 (iV ((m:Int)-1)) (eX 6 38 D ((lim b).length) d 1 ((m:Int)-1) (m-1) ((e.f.1).ok oM) (eH 7 39 (mW ((lim b).getD (m-1) 0)) e ((e.f.1).el (m-1) oM) ?_)))))));cases B:(decide ((((lim a).getD (m-1) 0:Nat):Int)<(((lim b).getD (m-1) 0:Nat):Int)))
  .
   have J:=oF B;exact eB 8 40 B (bA e (fun _ _ e=>tN (cD (cK (ab e ae (ah e [] (iV 1) (by rw[eD (by first|exact fA oM|exact fy (k:=m-1) oM oM (by rw[show m-1+1=m by omega];exact i.symm) oM)])))))))
  have J:=oT B;exact eB 8 40 B (bA e (fun _ _ e=>tN (bZ (ab e ae (ah e [] (iV (-1)) (by rw[dh (by first|exact fA oM|exact fy (k:=m-1) oM oM (by rw[show m-1+1=m by omega];exact i) oM)]))))))
 have y:=aU l;refine lB 10 l (ar (cQ (ab e [.c,.v (nV ((lim a).length)),.c,.v (nV ((lim b).length))] ?_)));cases z:(decide ((((lim a).length:Nat):Int)<(((lim b).length:Nat):Int)))
 .
  have K:=oF z;exact lB 15 z (am (cK (ab e ae (ah e [] (iV 1) (by rw[eD (by first|exact fA oM|exact fy (k:=m-1) oM oM (by rw[show m-1+1=m by omega];exact i.symm) oM)])))))
 have K:=oT z;exact lB 15 z (ar (ab e ae (ah e [] (iV (-1)) (by rw[dh (by first|exact fA oM|exact fy (k:=m-1) oM oM (by rw[show m-1+1=m by omega];exact i) oM)]))))
theorem xn {a b q r:Nat}(h:a=b*q+r)(hr:r<b):q=a/b/\r=a%b:=by
 subst h;rw[If oM,zY hr,Nat.mul_add_mod,yN hr];simp
theorem GL (a:Nat)(A:Z9)(c:Nat)(hc:(lim a).length<=c)(W:(lim a).length<=4000000000)(d:Nat)(C:0<d)(hd:d<4294967296)(w:World)(h:Hp)(g:G w h)(hA:S3 A (lim a) h):CR 149 #[.slice A ((lim a).length) c,mW d] w h (fun v h1=>∃ Q,∃ r:Nat,v=.tuple #[Q,mW r]/\RN h1 Q (a/d)/\r=a%d):=by
 have e:=((sS g).aS hA);refine go Tryz.func149 [(0,qS A ((lim a).length) c),(1,mW d)] rfl (ab e aE (aK (lL e [.c,.v (nV ((lim a).length))] (lK 11 156 ((lim a).length) 1 4 (uW 0) ft 0 e (fun p w2 h3 e=>?_)))));have O:(yL ((lim a).length) 0).length=((lim a).length):=by simp
 refine lL e ae (aK (lL e ae (ag (ab e [.c,.v (nV ((lim a).length))] (lV 14 (iV ((((lim a).length:Nat):Int)-1)) ?_ (hr:=rS ((((lim a).length:Nat)-1)) kR ((fW oM oM).trans oM)))))));refine lL e ae (a7 ?_);refine bY _ (CG.loop (fun M Γ w_=>∃ (m:Nat)(z:List Nat)(r:Nat)(h_:Hp),M=m/\Γ=[(0,qS A ((lim a).length) c),(1,mW d),(4,sZ),(5,uW 0),(6,qS (sB p) ((lim a).length) ((lim a).length)),(8,iV ((m:Int)-1)),(7,mV r)]/\SS w h w_ h_ [⟨p,156,(z).flatMap ft⟩] [] [S3 A (lim a)]/\m<=(lim a).length/\z.length=(lim a).length/\Ld z/\a=d*ak 4294967296 z+(4294967296^m*r+ak 4294967296 ((lim a).take m))/\r<d/\(∀ k,k<m->z.getD k 0=0)) _ ⟨(lim a).length,yL ((lim a).length) 0,0,h3,rfl,rfl,e.to _ _,nR _,O,Ld.rep _,(by rw[fa,yz,ox];simp),C,fun k _=>fP⟩ ?_);rintro _ _ w5 ⟨m,z,r,X,Y,rfl,e,hm,B,S,inv,hr,hz⟩;have H:=(Ld.lim a).get (m-1);refine cQ (ab e ae ?_);cases i:(decide ((0:Int)<=((m:Int)-1:Int)))
 .
  have D:=oF i;refine lB 16 i (am (CG.exit ?_))
  show CG _ _ _ _ _ _ _ _
  refine ab e ae ?_;have J:m=0:=by omega
  rw[J,Il,Hy,Im] at inv
  have F:a=d*ak 4294967296 z+r:=by simpa [ak] using inv
  obtain ⟨K,L⟩:=xn F hr;have hE:ak 4294967296 z=a/d:=K;obtain ⟨h9,e,I,V,U⟩:=e.pub 0;replace e:=(e.to [] []).aS (SlO.of_flat (sz:=1) (f:=ft) (d:=0) (b:=p) (o:=0) (l:=z) (fun _=>rfl) I);refine au 40 e (vK (sB p) ((lim a).length) z ((lim a).length) B oM oM _ _ e.g e.f.1) (fun _ _ e=>lL e ae (lV 42 (mW r) ?_ (hr:=ay (ay (n:=IntKind.wrap .u32 (r:Int)) kR (wT _)) oM)));exact lL e aE (ah e [] (.tuple #[qS (sB p) (tl z ((lim a).length)) ((lim a).length),mW r]) (⟨_,r,rfl,RN.trim S hE B (nR _) e.f.1,L⟩))
 have D:=oT i;refine lB 16 i (ar (cK (cQ (kZ (ab e ae (lV 20 (mV (r*4294967296%18446744073709551616)) ?_ (hr:=rU (((r:Int)*4294967296)) kR (kh r 4294967296))))))));refine lL e aE (lX 23 A ((lim a).length) c 1 ((m:Int)-1) (m-1) ((e.f.1).ok oM) ?_);refine lH 24 (mW ((lim a).getD (m-1) 0)) e ((e.f.1).el (m-1) oM) (lV 25 (mV ((lim a).getD (m-1) 0)) ?_ (hr:=rU ((((lim a).getD (m-1) 0:Nat):Int)) kR (bF oM oM)));refine lV 26 (mV (r*4294967296+(lim a).getD (m-1) 0)) ?_ (hr:=ay (i9 (t:=23) (u:=23) (x:=.tmp 20) (y:=.tmp 25) (a:=(r*4294967296%18446744073709551616)) (b:=((lim a).getD (m-1) 0)) kR kR kR oM oM _) (by rw[yN (show r*4294967296<18446744073709551616 by omega),C1 H]));refine lL e ae (aK (lL e ll (lV 31 (mV d) ?_ (hr:=rU ((d:Int)) kR (bF oM oM)))));have j:=sN (r:=r) (x:=(lim a).getD (m-1) 0) C hr H hd;refine lV 32 (mV ((r*4294967296+(lim a).getD (m-1) 0)/d)) ?_ (hr:=ay (dl (t:=23) (u:=23) (x:=.tmp 29) (y:=.tmp 31) (k:=.u64) (a:=((r*4294967296+(lim a).getD (m-1) 0:Nat):Int)) (b:=(d:Int)) kR kR kR oM _) (kU (r*4294967296+(lim a).getD (m-1) 0) d oM));refine lV 33 (mW (((r*4294967296+(lim a).getD (m-1) 0)/d:Nat)%4294967296)) ?_ (hr:=rT ((((r*4294967296+(lim a).getD (m-1) 0)/d:Nat):Int)) kR (wT _));refine lX 34 (sB p) ((lim a).length) ((lim a).length) 1 ((m:Int)-1) (m-1) rfl (lW 0 z ft 1 (m-1) (((r*4294967296+(lim a).getD (m-1) 0)/d:Nat)%4294967296:Nat) e oM (fun _ e=>?_));have za:((z).set (m-1) (((r*4294967296+(lim a).getD (m-1) 0)/d:Nat)%4294967296:Nat)).length=((lim a).length):=by rw[Ic];exact B
 replace e:=e.to [⟨p,156,((z).set (m-1) (((r*4294967296+(lim a).getD (m-1) 0)/d:Nat)%4294967296:Nat)).flatMap ft⟩] [];refine lN (kQ (lL e aE (lV 37 (mV d) ?_ (hr:=rU ((d:Int)) kR (bF oM oM)))));refine lV 38 (mV ((r*4294967296+(lim a).getD (m-1) 0)%d)) ?_ (hr:=ay (fC (t:=23) (u:=23) (x:=.tmp 35) (y:=.tmp 37) (k:=.u64) (a:=((r*4294967296+(lim a).getD (m-1) 0:Nat):Int)) (b:=(d:Int)) kR kR kR oM _) (dg (r*4294967296+(lim a).getD (m-1) 0) d));refine lL e ae (lN (kQ (lL e ae (lV 18 (iV (((m-1:Nat):Int)-1)) ?_ (hr:=rS ((((m:Int)-1)-1)) kR ((fW oM oM).trans oM))))));refine lL e ae (lD ?_);intro a_ Z;refine ⟨_,_,?_,⟨m-1,(z).set (m-1) (((r*4294967296+(lim a).getD (m-1) 0)/d:Nat)%4294967296:Nat),((r*4294967296+(lim a).getD (m-1) 0)%d:Nat),X,rfl,rfl,e.to _ _,oM,za,(S.set _ (yO _ kD)),(by rw[j.1];exact vt oM oM (hz _ oM) inv j.2.1),j.2.2,(fun k hk=>by rw[bv oM,if_neg oM];exact hz k oM)⟩,Z.to _ kR⟩
 omega
theorem pT {B:List Bx}:∀ (ps:List (Nat × Nat × Nat)) (q:Nat) (a:Addr),(bG B ps)[q]?=some a->∃ p∈ps,a.block=(av B p.1).b:=by
  intro ps
  induction ps with
  | nil=>intro q a h;simp[bG] at h
  | cons p ps ih =>
    intro q a h
    unfold bG at h
    rcases ep q (lM (av B p.1).b p.2.1 p.2.2).length with hl|hl
    . rw[yo hl] at h
      exact ⟨p,by simp,by rw[eF _ _ _ _ _ h]⟩
    . rw[yr hl] at h
      obtain ⟨d,c,e⟩:=ih _ _ h;exact ⟨d,by simp[c],e⟩
section
variable {M:Ms}{P:Program}{n:Nat}{N R:Po}{X:Nat->Po}{ops:Array Oper}{k k0:Nat}{L:Array Bool}{Γ:bW}{w:World}{h:Hp}{w0:World}{h0:Hp}{B:List Bx}{Rs:List Rw}{F:List (Hp->Prop)}
theorem Gs {α:Type}(j:Nat)(l:List α)(f:α->List Value)(sz e:Nat)(x:α)(s:SS w0 h0 w h B Rs F)(hk:e<l.length)(H:∀ w',Put (av B j).b w w'->SS w0 h0 w' h (gf B j ((l.set e x).flatMap f)) Rs F->LG P n N R X ops (k+1) Γ w')(c:cS ops Γ k=true:=by kernel_rfl)
  (a:decide (j<B.length)=true:=by kernel_rfl)(hB:(av B j).vs=l.flatMap f:=by kernel_rfl)(hf:∀ x,(f x).length=sz:=by intro _;rfl)
  (d:dr P (execOp (ev Γ) (ao ops k))=some (.skip,nu (av B j).b (0+e*sz) (f x)):=by kernel_rfl):LG P n N R X ops k Γ w :=
 LG.putA j l f sz e x s.st s.g0 (g5 c).1 (g5 c).2 a hB hf hk d (fun w' p i=>H w' p (s.put0 (oT a) p i (jm (oT a))))
theorem HR {α:Type}(i j:Nat)(l:List α)(f:α->List Value)(sz e:Nat)(x:α)(s:SS w0 h0 w h B Rs F)(hk:e<l.length)(H:∀ w',Put (av B j).b w w'->SS w0 h0 w' h (gf B j ((l.set e x).flatMap f)) Rs F->AG M P n N R X ops k0 (L.setIfInBounds i true) Γ w')(c:EM ops k0 L Γ i=true:=by kernel_rfl)
  (a:decide (j<B.length)=true:=by kernel_rfl)(hB:(av B j).vs=l.flatMap f:=by kernel_rfl)(hf:∀ x,(f x).length=sz:=by intro _;rfl)
  (d:dr P (execOp (ev Γ) (ao ops i))=some (.skip,nu (av B j).b (0+e*sz) (f x)):=by kernel_rfl)(hz:∀ K bs,M.z=some (K,bs)->K<=(av B j).b\/(av B j).b∈bs:=by intro _ _ e;cases e):AG M P n N R X ops k0 L Γ w :=
 T.putA i j l f sz e x s.st s.g0 (jK c).1 (jK c).2 a hB hf hk d (fun w' p o=>H w' p (s.put0 (oT a) p o (jm (oT a)))) hz
theorem aQ {α:Type}(i t j:Nat)(l:List α)(f:α->List Value)(sz:Nat)(d:α)(e:Nat)(v:Value)(s:SS w0 h0 w h B Rs F)(hk:e<l.length)(H:AG M P n N R X ops k0 (L.setIfInBounds i true) ((t,v)::Γ) w)(hM:(av B j).b ∉ M.l:=by exact List.not_mem_nil)(p:AA n ops k0 [] L Γ i t=true:=by kernel_rfl)
  (C:decide (j<B.length)=true:=by kernel_rfl)(hB:(av B j).vs=l.flatMap f:=by kernel_rfl)(hf:∀ x,(f x).length=sz:=by intro _;rfl)
  (o:bO P (execOp (ev Γ) (ao ops i)) (f (l.getD e d))=some (.value v,lM (av B j).b (0+e*sz) (f (l.getD e d)).length):=by kernel_rfl):AG M P n N R X ops k0 L Γ w :=
 aL i t v (fun w' y=>bM _ _ _ _ o (fun q a u ha c=>by
  rw[eF _ _ _ _ _ ha,((s.st.own _ (a8 (oT C))).mo y hM).cell,hB];rw[<-fM hf d l e hk] at c
  have z:q<sz:=by
   rcases ep q sz with hl|hl
   ·exact hl
   ·rw[ya (by simp;omega)] at c;cases c
  rw[yp z,yq] at c
  rw[yH];exact c)) H p
theorem Bb (t j:Nat){f:FuncId}{args:Array Value}{Φ:Value->Prop}(s:SS w0 h0 w h B Rs F)(c:∀ hp,G w hp->AllF F hp->Seg hp (av B j).b 0 (av B j).vs->Calls P f args w (Ret w hp (fun v _=>Φ v)))(H:∀ v w' a,Up w h w' a->SS w0 h0 w' a B Rs F->Φ v->LG P n N R X ops (k+1) ((t,v)::Γ) w')(e:decide (j<B.length)=true:=by kernel_rfl)(i:cL ops Γ k t n=true:=by kernel_rfl)(hr:(execOp (ev Γ) (ao ops k)).run P w=.ok (.enter f args) w:=by kernel_rfl):LG P n N R X ops k Γ w :=
 jI t (s.lends (oT e) c) (fun v w' a u d=>H v w' a u (s.step u) d) i hr
theorem SS.lends2 (s:SS w0 h0 w h B Rs F){i j:Nat}(hi:i<B.length)(I:j<B.length)(p:i≠j){f:FuncId}{args:Array Value}{Φ:Value->Prop}(c:∀ a,G w a->AllF F a->Seg a (av B i).b 0 (av B i).vs->Seg a (av B j).b 0 (av B j).vs->Calls P f args w (Ret w a (fun v _=>Φ v))):Calls P f args w (Ret w h (fun v _=>Φ v)):=by
 have y:=a8 hi;have l:=a8 I;have O:(av B j).b≠(av B i).b:=fv s.st (decide_eq_true I) (decide_eq_true hi) (by simpa using p.symm);obtain ⟨a,g,gw,L,J⟩:=Bp s.g (s.st.jk _ y) (s.st.own _ y);have o:a[(av B j).b]?=some aY:=by rw[J _ O];exact s.st.jk _ l
 obtain ⟨C,H,d,x,D⟩:=Bp g o (s.st.own _ l);refine (c C H ((s.f.gw s.mo gw).gw s.mo d) (L.gw d) x).mono ?_;rintro e w' ⟨v,S,M,u,z⟩;obtain ⟨h1,u1⟩:=py o D (g.sz H) u;obtain ⟨K,Q⟩:=py (s.st.jk _ y) J (s.g.sz g) u1;exact ⟨v,K,M,Q,z⟩
theorem GS (t i j:Nat){f:FuncId}{args:Array Value}{Φ:Value->Prop}(s:SS w0 h0 w h B Rs F)(c:∀ hp,G w hp->AllF F hp->Seg hp (av B i).b 0 (av B i).vs->Seg hp (av B j).b 0 (av B j).vs->Calls P f args w (Ret w hp (fun v _=>Φ v)))(H:∀ v w' h',SS w0 h0 w' h' B Rs F->Φ v->LG P n N R X ops (k+1) ((t,v)::Γ) w')(a:(decide (i<B.length) && decide (j<B.length) && (i != j))=true:=by kernel_rfl)(d:cL ops Γ k t n=true:=by kernel_rfl)(hr:(execOp (ev Γ) (ao ops k)).run P w=.ok (.enter f args) w:=by kernel_rfl):LG P n N R X ops k Γ w:=by
 simp only[la,decide_eq_true_eq,bne_iff_ne,ne_eq] at a
 exact lC t s (s.lends2 a.1.1 a.1.2 a.2 c) H d hr
theorem Aa {w w':World}{h i f:Hp}{b:Nat}{M:List Nat}(l:h[b]?=some aY)(p:∀ c,c≠b->i[c]?=h[c]?)(j:i.size=h.size)(u:UpM M w i w' f):∃ d,UpM M w h w' d/\(∀ c,c≠b->d[c]?=f[c]?):=by
 have x:=aF l;have a:b<f.size:=e5 oM u.gr.size;refine ⟨f.setIfInBounds b aY,⟨u.mo,⟨by simp;rw[<-j];exact u.gr.size,fun c o=>?_⟩,⟨by simp;exact u.g.size,fun c=>?_⟩⟩,fun c o=>i3 (Ne.symm o)⟩
 ·by_cases e:b=c
  ·subst e;rw[yV a,l]
  ·rw[i3 e,u.gr.blk c oM,p c (Ne.symm e)]
 ·by_cases e:b=c
  ·subst e;right;rw[yV a]
  ·rw[i3 e];exact u.g.blk c
theorem Fa (t i j:Nat){f:FuncId}{args:Array Value}{Φ:Value->World->Prop}(s:SS w0 h0 w h B Rs F)(c:∀ d,G w d->AllF F d->d[(av B i).b]?=some aY->Seg d (av B j).b 0 (av B j).vs->Calls P f args w (dN (av B i).b w d (fun v w' _=>Φ v w')))(H:∀ v w' o,UpM [(av B i).b] w h w' o->Φ v w'->LG P n N R X ops (k+1) ((t,v)::Γ) w')(a:(decide (i<B.length) && decide (j<B.length) && (i != j))=true:=by kernel_rfl)(J:cL ops Γ k t n=true:=by kernel_rfl)(hr:(execOp (ev Γ) (ao ops k)).run P w=.ok (.enter f args) w:=by kernel_rfl):LG P n N R X ops k Γ w:=by
 simp only[la,decide_eq_true_eq,bne_iff_ne,ne_eq] at a
 have x:=a8 a.1.2;have I:(av B i).b≠(av B j).b:=fv s.st (decide_eq_true a.1.1) (decide_eq_true a.1.2) (by simpa using a.2);obtain ⟨d,g,gw,C,y⟩:=Bp s.g (s.st.jk _ x) (s.st.own _ x);refine fq (rb:=(av B i).b) (Φ:=fun v w' _=>Φ v w') (h:=h) t ((c d g (s.f.gw s.mo gw) (by rw[y _ I];exact s.st.jk _ (a8 a.1.1)) C).mono ?_) (fun v w' o u l=>H v w' o u l) J hr;rintro e w' ⟨v,o,D,u,l⟩;obtain ⟨p,z,_⟩:=Aa (s.st.jk _ x) y (s.g.sz g) u;exact ⟨v,p,D,z,l⟩
theorem HP {α:Type}(t j:Nat)(x y:Operand)(D e:TypeId)(f:α->List Value)(d:α)(A:Z9)(l2:List α)(m m2 c V:Nat)(s:SS w0 h0 w h B Rs F)(so:SlO 1 f d h A l2)(M:l2.length=m2)(L:m2=m)(U:0<m)(i:(av B j).vs.length=m)
  (H:∀ w',SS w0 h0 w' h (gf B j (l2.flatMap f)) Rs F->LG P n N R X ops (k+1) ((t,.int .i64 (m:Nat))::Γ) w')(S:m<=1099511627776:=by omega)(I:cL ops Γ k t n=true:=by kernel_rfl)(Y:decide (j<B.length)=true:=by kernel_rfl)
  (hf:∀ x,(f x).length=1:=by intro _;rfl)(h1:∀ x,(f x).all (·.oneCell')=true:=by intro _;kernel_rfl)(Z:(ao ops k).op=.call { callee:=.builtin .copy,args:=#[x,y],argTypes:=#[D,D] }:=by kernel_rfl)(hx:ev Γ x=.slice (some ⟨(av B j).b,0,none⟩) m V:=by kernel_rfl)(Q:ev Γ y=.slice A m2 c:=by kernel_rfl)
  (J:P.underlying D=some (.slice e):=by kernel_rfl)(hi:(P.info? e).map (·.size)=some 1:=by kernel_rfl):LG P n N R X ops k Γ w:=by
 subst L;have W:=M;have o:=oT Y;have z:=s.st.own _ (a8 o);have C:(l2.flatMap f).length=m2:=by rw[d9 hf,W];omega
 rw[so.ok oM] at Q
 have l:=run_copy_row (P:=P) w D D (ao ops k).type e (av B j).b 0 m2 V ⟨aB A,aO A,none⟩ m2 c (av B j).vs.toArray (av B j).t (l2.flatMap f) J hi z (by rw[C];exact (Nat.min_self m2).symm) (sQ s.g (so.flat hf)) (by rw[C];simp[i]) (fun u J=>by
  obtain ⟨a,_,ha⟩:=List.mem_flatMap.1 J;exact (ov.1 (h1 a)) u ha)
 have e1:((av B j).vs.toArray.toList.take 0++l2.flatMap f++(av B j).vs.toArray.toList.drop (0+(l2.flatMap f).length)).toArray=(l2.flatMap f).toArray:=by
  rw[C];simp[Ii,i]
 rw[e1,C] at l
 have p:Put (av B j).b w (w.setRow (av B j).b (l2.flatMap f).toArray):=⟨rfl,rfl,rfl,by simp,fun c I=>setRow_other _ _ _ _ I⟩
 have K:Own (w.setRow (av B j).b (l2.flatMap f).toArray) (av B j).b (av B j).t (fj (av B j).vs 0 (l2.flatMap f)):=by
  have e2:fj (av B j).vs 0 (l2.flatMap f)=l2.flatMap f:=by
   have:=jx (l2.flatMap f) (av B j).vs [] (by rw[i,C])
   simpa using this
  rw[e2];exact setRow_heap _ _ _ _ _ _ z
 have O:=s.st.put s.g0 o p K
 have e2:fj (av B j).vs 0 (l2.flatMap f)=l2.flatMap f:=by
  have:=jx (l2.flatMap f) (av B j).vs [] (by rw[i,C])
  simpa using this
 unfold fN at O
 rw[e2] at O
 refine LG.val t _ _ (bQ I).1 (bQ I).2 ?_ (H _ (s.put0 o p O (jm o)))
 unfold execOp
 have e3:goInt m2=.int .i64 (m2:Nat):=rfl;rw[e3] at l
 simp only[Z,resolve,invoke,builtin,Sem.run_bind,Sem.run_pure,Result.andThen_ok,List.map_toArray,List.map_cons,List.map_nil,hx,Q,l]
theorem od {Q:Exit->Act->World->Prop}{i:Nat}{x:Oper}{v:Value}{S:World->Prop}(hi:ops[i]?=some x)(p:∀ (j:Nat) (o:Oper) cs b,ops[j]?=some o->o.op≠.select cs b)
    (hQ:∀ c a w,Q (.panic c) (a.put x.dst v) w->Q (.panic c) a w)(U:∀ w w',S w->Tl M w w'->S w') :
    ∀ (n:Nat) (L:Array Bool) (a:Act) (w:World),
      (∀ j u,ops[j]?=some u->j≠i->L.getD j true=false->(∀ e∈u.after,Region.binds .any e=true->e.on≠i)->x.apart ops u=true) ->
      i∈Region.ready .any ops L->YieldsIf P ops S x v a->S w->qB M P ops Q 0 n (L.setIfInBounds i true) (a.put x.dst v) w->qB M P ops Q 0 (n+1) L a w:=by
  intro n
  induction n with
  | zero =>
    intro L a w _ hr D I H;refine ⟨fun h=>(by rw[h] at hr;cases hr),fun j J=>?_⟩
    by_cases hji:j=i
    . subst hji;exact D.wpOp hi I ⟨Rl.refl _ _ _ _,H⟩
    . have:=ready_mono J hji
      rw[H.1] at this
      cases this
  | succ n ih =>
    intro L a w d hr D I H;refine ⟨fun h=>(by rw[h] at hr;cases hr),fun j J=>?_⟩
    by_cases hji:j=i
    . subst hji;exact D.wpOp hi I ⟨Rl.refl _ _ _ _,H⟩
    . have h1:=H.2 j (ready_mono J hji)
      obtain ⟨l,u,y,B⟩:=mem_ready.1 J
      have z:∀ e∈u.after,Region.binds .any e=true->e.on≠i:=fun e Y hb O=>by
        have h1:=B e Y hb;have h0:=(mem_ready.1 hr).1;rw[O] at h1
        obtain ⟨hl,W⟩:=EH h0
        simp[Array.getD,hl,W] at h1
      have X:=wpOp_putIf y (d j u y hji l z) (fun cs b=>p i x cs b hi) (fun cs b=>p j u cs b y) hQ D h1
      have f:∀ k ok,ops[k]?=some ok->k≠i->(L.setIfInBounds j true).getD k true=false ->
          (∀ e∈ok.after,Region.binds .any e=true->e.on≠i)->x.apart ops ok=true:=fun k ok hk V C K=>by
        refine d k ok hk V ?_ K
        by_cases hjk:j=k
        . subst hjk;exact l
        . rw[getD_set_ne true hjk] at C;exact C
      refine wpOp_mono (fun Z w' F=>⟨F.2.1,ih (L.setIfInBounds j true) Z w' f (ready_mono hr (Ne.symm hji)) F.1 (U _ _ I (F.2.1.2 (In _))) ?_⟩) X;rw[Array.setIfInBounds_comm _ _ hji];exact F.2.2
def xx (n:Nat)(ops:Array Oper)(L:Array Bool)(Γ:bW)(i t:Nat):Bool :=
  decide (i<ops.size) && Region.noSelect ops && Region.free .any ops L i && (Region.ready .any ops L).contains i && ((ao ops i).dst == some t) && decide (t<n) && a6 Γ (ao ops i) && (bh ops Γ (ao ops i) == some true)
theorem Cp (i t:Nat)(v:Value){S:World->Prop}(f:∀ w w',S w->Tl M w w'->S w')(F:S w)(hv:∀ w',S w'->(execOp (ev Γ) (ao ops i)).run P w'=.ok (.value v) w')(H:AG M P n N R X ops 0 (L.setIfInBounds i true) ((t,v)::Γ) w)(o:xx n ops L Γ i t=true):AG M P n N R X ops 0 L Γ w:=by
 unfold xx at o
 simp only[la,decide_eq_true_eq,beq_iff_eq] at o
 obtain ⟨⟨⟨⟨⟨⟨⟨h1,p⟩,D⟩,C⟩,J⟩,u⟩,z⟩,x⟩:=o;have hr:i∈Region.ready .any ops L:=by simpa using C
 have h:=bj (ops:=ops) h1;intro a b;have e1:=b.exec (Region.noSelect_spec p i _ · · h) z;have K:=H _ (b.put u v)
 unfold A at *
 rw[eZ hr];refine od (S:=S) h (Region.noSelect_spec p) (fun c a w I=>I.elim) f _ _ _ _ (fun j y B e l=>Region.free_spec h D j y B e l) hr (.inl ⟨b.want x,fun w' d=>by rw[e1];exact hv w' d⟩) F ?_;rw[J];exact K
theorem zV (i t:Nat)(v:Value)(H:AG M P n N R X ops 0 (L.setIfInBounds i true) ((t,v)::Γ) w)(a:xx n ops L Γ i t=true:=by kernel_rfl)(hv:∀ w,(execOp (ev Γ) (ao ops i)).run P w=.ok (.value v) w:=by intro _;kernel_rfl):AG M P n N R X ops 0 L Γ w :=
 Cp i t v (S:=fun _=>True) (fun _ _ _ _=>trivial) trivial (fun w' _=>hv w') H a
theorem zO {K:Nat}(i t:Nat)(ps:List (Nat × Nat × Nat))(v:Value)(hz:M.z=some (K,[]))(C:K<=w.heap.size)(s:SS w0 h0 w h B Rs F)(f:∀ p∈ps,(av B p.1).b<K)(H:AG M P n N R X ops 0 (L.setIfInBounds i true) ((t,v)::Γ) w)(J:xx n ops L Γ i t=true:=by kernel_rfl)(l:bT B ps=true:=by kernel_rfl)(I:bO P (execOp (ev Γ) (ao ops i)) (cB B ps)=some (.value v,bG B ps):=by kernel_rfl):AG M P n N R X ops 0 L Γ w :=
 Cp i t v (S:=fun w'=>K<=w'.heap.size/\∀ b,b<K->w'.heap[b]?=w.heap[b]?) (fun w1 w2 c D=>by
  obtain ⟨h1,y⟩:=D K [] hz;exact ⟨e4 c.1 h1,fun b j=>(y b j List.not_mem_nil).trans (c.2 b j)⟩) ⟨C,fun _ _=>rfl⟩ (fun w' c=>bM _ _ _ _ I (fun q a u ha o=>by
  obtain ⟨p,e,d⟩:=pT ps q a ha;have:=cl (fun x O=>s.st.own x O) ps l q a u ha o;rw[<-this]
  unfold World.cell?
  rw[c.2 _ (d▸f p e)])) H J
theorem zC (i t:Nat){f:FuncId}{args:Array Value}(c:Calls P f args w fun e w'=>∃ v,e=.returned v/\Tl M w w'/\AG M P n N R X ops 0 (L.setIfInBounds i true) ((t,v)::Γ) w')(j:(io ops 0 L i && a6 Γ (ao ops i) && ((ao ops i).dst == some t) && decide (t<n))=true:=by kernel_rfl)(p:bh ops Γ (ao ops i)=some true:=by kernel_rfl)
  (hr:(execOp (ev Γ) (ao ops i)).run P w=.ok (.enter f args) w:=by kernel_rfl):AG M P n N R X ops 0 L Γ w:=by
 simp only[la,decide_eq_true_eq,beq_iff_eq] at j
 obtain ⟨⟨⟨h1,o⟩,x⟩,u⟩:=j;obtain ⟨h,l⟩:=kK h1;intro a b;refine A.one h1 h (R':=fun v w'=>Tl M w w'/\AG M P n N R X ops 0 (L.setIfInBounds i true) ((t,v)::Γ) w') ⟨b.want p,.inr (.inr ⟨f,args,?_,c⟩)⟩ (fun v w' d=>d.1) (fun v w' d=>?_)
 ·rw[b.exec (Region.noSelect_spec l i _ · · h) o];exact hr
 ·rw[x];exact d.2 _ (b.put u v)
theorem DR {K:Nat}{w':World}(hz:M.z=some (K,[]))(a:K<=w.heap.size)(x:Ext w w'):Tl M w w':=fun d bs e=>by
 rw[hz] at e
 injection e with e;injection e with e1 e2
 subst e1 e2;exact ⟨x.size,fun b c _=>Below.block x b oM⟩
theorem FS {K b:Nat}{w':World}(hz:M.z=some (K,[]))(a:K<=w.heap.size)(d:K<=b)(x:Mo [b] w w'):Tl M w w':=fun f bs e=>by
 rw[hz] at e
 injection e with e;injection e with e1 e2
 subst e1 e2;exact ⟨x.size,fun c h _=>x.blk c oM (by simp;omega)⟩
theorem qA {K:Nat}(i t:Nat){f:FuncId}{args:Array Value}{Φ:Value->Hp->Prop}(c:Calls P f args w (Ret w h Φ))(hz:M.z=some (K,[]))(d:K<=w.heap.size)(H:∀ v w' a,Up w h w' a->K<=w'.heap.size->Φ v a->AG M P n N R X ops 0 (L.setIfInBounds i true) ((t,v)::Γ) w')(o:(io ops 0 L i && a6 Γ (ao ops i) && ((ao ops i).dst == some t) && decide (t<n))=true:=by kernel_rfl)(j:bh ops Γ (ao ops i)=some true:=by kernel_rfl)
  (hr:(execOp (ev Γ) (ao ops i)).run P w=.ok (.enter f args) w:=by kernel_rfl):AG M P n N R X ops 0 L Γ w :=
 zC i t (c.mono fun e w' ⟨v,a,l,u,b⟩=>⟨v,l,DR hz d u.ext,H v w' a u (e4 d u.ext.size) b⟩) o j hr
theorem HL {K rb:Nat}(i t:Nat){f:FuncId}{args:Array Value}{Φ:Value->World->Hp->Prop}(c:Calls P f args w (dN rb w h Φ))(hz:M.z=some (K,[]))(j:K<=w.heap.size)(b:K<=rb)(H:∀ v w' a,UpM [rb] w h w' a->K<=w'.heap.size->Φ v w' a->AG M P n N R X ops 0 (L.setIfInBounds i true) ((t,v)::Γ) w')(p:(io ops 0 L i && a6 Γ (ao ops i) && ((ao ops i).dst == some t) && decide (t<n))=true:=by kernel_rfl)(l:bh ops Γ (ao ops i)=some true:=by kernel_rfl)
  (hr:(execOp (ev Γ) (ao ops i)).run P w=.ok (.enter f args) w:=by kernel_rfl):AG M P n N R X ops 0 L Γ w :=
 zC i t (c.mono fun e w' ⟨v,a,o,u,d⟩=>⟨v,o,FS hz j b u.mo,H v w' a u (e4 j u.mo.size) d⟩) p l hr
theorem ej (s:SS w0 h0 w h B Rs F)(j:Nat)(a:decide (j<B.length)=true:=by kernel_rfl):(av B j).b<w.heap.size:=by rw[s.g.size];exact aF (s.jk j a)
theorem EK (t b o len a sz:Nat)(i:Int)(j e:Nat)(H:LG P n N R X ops (k+1) ((t,.pointer (some ⟨b,0+e*sz,none⟩))::Γ) w)(f:cL ops Γ k t n=true:=by kernel_rfl)(h:BI P (ev Γ) (ao ops k)=some (.slice (some ⟨b,o,none⟩) len a,.int .i64 i,sz):=by kernel_rfl)(hk:i=j:=by omega)(d:j<len:=by omega)(c:o+j*sz=0+e*sz:=by omega):LG P n N R X ops k Γ w :=
 LG.val t _ w (bQ f).1 (bQ f).2 (c▸f0 h rfl hk d w) H
theorem Hg (i t b o len a sz:Nat)(x:Int)(j e:Nat)(H:AG M P n N R X ops k0 (L.setIfInBounds i true) ((t,.pointer (some ⟨b,0+e*sz,none⟩))::Γ) w)(h:cE n ops k0 [] L Γ i t=true:=by kernel_rfl)(f:BI P (ev Γ) (ao ops i)=some (.slice (some ⟨b,o,none⟩) len a,.int .i64 x,sz):=by kernel_rfl)(hk:x=j:=by omega)(d:j<len:=by omega)(c:o+j*sz=0+e*sz:=by omega):AG M P n N R X ops k0 L Γ w :=
 aV i t _ H h (fun w=>c▸f0 f rfl hk d w)
theorem HQ (i t b o len a sz:Nat)(x:Int)(j e:Nat)(H:AG M P n N R X ops k0 (L.setIfInBounds i true) ((t,.pointer (some ⟨b,0+e*sz,none⟩))::Γ) w)(f:cT n ops k0 L Γ i t=true:=by kernel_rfl)(h:BI P (ev Γ) (ao ops i)=some (.slice (some ⟨b,o,none⟩) len a,.int .i64 x,sz):=by kernel_rfl)(hk:x=j:=by omega)(d:j<len:=by omega)(c:o+j*sz=0+e*sz:=by omega):AG M P n N R X ops k0 L Γ w :=
 T.val i t _ w (nz f).1 (nz f).2 (c▸f0 h rfl hk d w) H
theorem HE (t b o len a sz:Nat)(i:Int)(j f:Nat)(H:LG P n N R X ops (k+1) ((t,.slice (some ⟨b,f,none⟩) (len-j) (a-j))::Γ) w)(p:cL ops Γ k t n=true:=by kernel_rfl)(u:CF P (ev Γ) (ao ops k)=some (.slice (some ⟨b,o,none⟩) len a,some (.int .i64 i),none,sz):=by kernel_rfl)(hk:i=j:=by omega)(l:j<=len:=by omega)(c:a≠j:=by omega)(d:f=o+j*sz:=by omega):LG P n N R X ops k Γ w:=by
 have h:=oI j u hk l w;rw[if_neg c] at h
 have e:(some (⟨b,o,none⟩:Addr)).map (·.add (j*sz))=some ⟨b,f,none⟩:=by subst d;simp[Addr.add]
 rw[e] at h
 exact LG.val t _ w (bQ p).1 (bQ p).2 h H
theorem SS.torow {α:Type}(s:SS w0 h0 w h B Rs F)(j:Nat)(f:α->List Value)(l:List α)(sz m:Nat)(z:l.length=m)(D:m<=1099511627776)(hB:(av B j).vs=l.flatMap f:=by kernel_rfl)(hf:∀ x,(f x).length=sz:=by intro _;rfl)(C:decide (j<B.length)=true:=by kernel_rfl) :
    SS w0 h0 w h (B.eraseIdx j) (⟨(av B j).t,sz,some ⟨(av B j).b,0,none⟩,m,m,l.flatMap f⟩::Rs) F:=by
  have p:=oT C;have d:=a8 p;have H:=s.st.own _ d
  have y:∀ x∈B.eraseIdx j,x.b≠(av B j).b:=by
    intro x a c;obtain ⟨i,hi,u⟩:=List.mem_iff_getElem.1 a;rw[List.getElem_eraseIdx] at u
    rw[List.length_eraseIdx_of_lt p] at hi
    split at u
    . rename_i I
      refine fv s.st (i:=i) (j:=j) (decide_eq_true oM) C (by simp;omega) ?_;rw[<-c,<-u];simp[av,show i<B.length by omega]
    . rename_i I
      refine fv s.st (i:=i+1) (j:=j) (decide_eq_true oM) C (by simp;omega) ?_;rw[<-c,<-u];simp[av,show i+1<B.length by omega]
  refine ⟨s.g0,⟨s.st.up,fun x a=>s.st.own x (yZ a),fun x a=>s.st.jk x (yZ a),fun x a=>s.st.lo x (yZ a),s.st.nd.sublist ((List.eraseIdx_sublist B j).map (·.b))⟩,?_,?_,s.mo,s.f⟩
  . intro r hr
    rcases List.mem_cons.1 hr with rfl|hr
    . refine ⟨⟨by rw[d9 hf,z],.inr ⟨(av B j).b,m,(av B j).vs.toArray,rfl,s.st.lo _ d,H,ey _,by unfold maxLen;omega,by rw[hB];simp[d9 hf,z],by rw[hB];simp[G1,d9 hf,z]⟩⟩,?_,?_⟩
      . intro b c
        have:(av B j).b=b:=by simpa [Rw.v,Value.ownBlock] using c
        rw[<-this];exact s.st.jk _ d
      . intro b c o
        have:(av B j).b=b:=by simpa [Rw.v,Value.ownBlock] using c
        obtain ⟨x,a,e⟩:=g2.1 o;exact y x a (e.trans this.symm)
    . exact (s.ro r hr).sub _ (fun b c=>by
        obtain ⟨x,a,e⟩:=g2.1 c;exact g2.2 ⟨x,yZ a,e⟩)
  . refine List.pairwise_cons.2 ⟨fun r hr b c hv=>?_,s.ap⟩
    have:(av B j).b=b:=by simpa [Rw.v,Value.ownBlock] using c
    exact (s.ro r hr).ap b hv (this▸g2.2 ⟨_,d,rfl⟩)
theorem Gt {α:Type}(t j m J:Nat)(l:List α)(f:α->List Value)(d x:α)(bt:Nat)(z:Value)(s:SS w0 h0 w h B Rs F)(L:Seg h J 0 (f x))(y:l.length=m)(I:m<=1000000000)
  (H:∀ a c' w' o,SS w0 h0 w' o (B.eraseIdx j) Rs ((fun h=>SlO 1 f d h a (l++[x]))::F)->m+1<=c'->LG P n N R X ops (k+1) ((t,.slice a (m+1) c')::Γ) w')(O:cL ops Γ k t n=true:=by kernel_rfl)(S:decide (j<B.length)=true:=by kernel_rfl)(hB:(av B j).vs=l.flatMap f:=by kernel_rfl)
  (M:EL P (ev Γ) (ao ops k)=some (.slice (some ⟨(av B j).b,0,none⟩) m m,.slice (some ⟨J,0,none⟩) 1 1,(av B j).t,z,1,bt):=by kernel_rfl)(c:z.cells.size=1:=by kernel_rfl)(hf:∀ x,(f x).length=1:=by intro _;rfl)(h1:(f x).all (·.oneCell')=true:=by kernel_rfl)(i:bt<=100:=by decide):LG P n N R X ops k Γ w:=by
 have C:=s.torow j f l 1 m y oM hB hf S
 refine Hl t 0 (f x) C (kH C.g L) (hf x) (fun u K=>(ov.1 h1) u K) (by simp) rfl O M c kD oM (by
  have:(m+1)*bt<=(m+1)*100:=A5 _ i
  omega) (fun a c' w' o D=>?_)
 have e1:m+1=(l++[x]).length:=by simp[y]
 have e2:l.flatMap f++f x=(l++[x]).flatMap f:=by simp
 rw[e2,List.set_cons_zero] at D
 have U:SS w0 h0 w' o (B.eraseIdx j) (⟨(av B j).t,1,a,c',(l++[x]).length,(l++[x]).flatMap f⟩::Rs) F:=by rw[<-e1];exact D
 obtain ⟨e,Q,p⟩:=U.pubr 0 d hf rfl (by simp);exact H a c' w' e Q (by rw[e1];exact p)
theorem SS.perm (s:SS w0 h0 w h B Rs F){c:List Bx}(p:B.Perm c):SS w0 h0 w h c Rs F :=
 ⟨s.g0,⟨s.st.up,fun x a=>s.st.own x (p.mem_iff.2 a),fun x a=>s.st.jk x (p.mem_iff.2 a),fun x a=>s.st.lo x (p.mem_iff.2 a),(p.map (·.b)).nodup_iff.1 s.st.nd⟩,
  fun r hr=>(s.ro r hr).sub _ (fun b d=>(p.map (·.b)).mem_iff.2 d),s.ap,s.mo,s.f⟩
end
theorem wj (a:Nat)(A:Z9)(c:Nat)(J:(lim a).length<=c)(u:(lim a).length<=4000000000)(w:World)(h:Hp)(g:G w h)(D:S3 A (lim a) h):CV 122 #[.slice A ((lim a).length) c] w h (nV (nb a)):=by
 have b:=((sS g).aS D);have y:=@dv a;have l:=(Ld.lim a).get ((lim a).length-1);refine go Tryz.func122 [(0,qS A ((lim a).length) c)] rfl (ab b ae (ag (ab b [.c,.v (nV ((lim a).length))] ?_)));cases e:((((lim a).length:Nat):Int) == (0:Int))
 .
  have j:=aq e;refine lB 7 e (am (cK (ab b [.c,.v (nV ((lim a).length))] (bB 10 (((lim a).length:Nat)-1) (((lim a).length)-1) ?_))));refine bB 11 (32*(((lim a).length)-1:Nat)) (32*(((lim a).length)-1:Nat)) (lL b ae (ag (ab b [.c,.c,.v (nV ((lim a).length))] (lI 15 (((lim a).length:Nat)-1) ?_))));refine lX 16 A ((lim a).length) c 1 (((lim a).length:Nat)-1) (((lim a).length)-1) ((b.f.1).ok oM) (lH 17 (mW ((lim a).getD (((lim a).length)-1) 0)) b ((b.f.1).el (((lim a).length)-1) oM) (lL b ae (a7 ?_)));refine bY _ (CG.loop (fun o Γ C=>∃ (n:Nat)(x:Nat)(h_:Hp),o=x/\Γ=[(2,iV 0),(3,nV n),(4,mW x)]/\SS w h C h_ [] [] [S3 A (lim a)]/\n+nb x=nb a/\x<4294967296/\nb a<=128000000000) _ ⟨32*((lim a).length-1),(lim a).getD ((lim a).length-1) 0,h,rfl,rfl,b.to _ _,(CQ oM).symm,l,(by have:=pH a;omega)⟩ ?_);rintro _ _ w2 ⟨n,x,F,H,rfl,b,p,K,B⟩;refine cQ (ab b ae ?_);cases d:(decide ((0:Int)<(x:Int)))
  .
   have i:=oF d;refine lB 19 d (am (CG.exit ?_))
   show CG _ _ _ _ _ _ _ _
   exact ab b aE (ah b [] (nV n) (by obtain rfl:x=0:=oM;rw[BE] at p;rw[<-p];rfl))
  have i:=oT d;refine lB 19 d (ar (cK (cQ (kZ (kQ (lL b ae (bB 23 ((n:Nat)+1) (n+1) ?_)))))));refine lL b ae (lN (kQ (lL b ae (lV 21 (mW (x/2)) ?_ (hr:=ay (n:=Ij (x:Nat) 2) kR (j6 x 2))))));refine lL b ae (lD ?_);intro I z;refine ⟨_,_,?_,⟨n+1,x/2,F,rfl,rfl,b.to _ _,(by have:=x7 (n:=x) oM;omega),oM,B⟩,z.to _ kR⟩
  omega
 have j:=eq_of_beq e;exact lB 7 e (ar (ab b ae (ah b [] (iV 0) (by obtain rfl:a=0:=oM;rfl))))
def l3 (u2 u1 u0:Nat):Nat:=4294967296*(4294967296*u2+u1)+u0
def l2 (v1 v0:Nat):Nat:=4294967296*v1+v0
structure Hss (u2 u1 u0 v1 v0 g r o:Nat):Prop where
  e:g*v1+(r+4294967296*o)=4294967296*u2+u1
  lt:g+1=4294967296\/l3 u2 u1 u0<(g+1)*l2 v1 v0
  gb:g<4294967296
structure Gk (u2 u1 u0 v1 v0 g r:Nat):Prop where
  e:g*v1+r=4294967296*u2+u1
  lt:4294967296<=g+1\/l3 u2 u1 u0<(g+1)*l2 v1 v0
section joi
variable {P:Program}{n:Nat}{N R:Po}{X:Nat->Po}{Γ:bW}{w:World}
theorem CG.join {x y:Code}(I:bW->World->Prop)(h1:CG P n (fun a w'=>∃ b,I b w'/\Kn n a b) R X x Γ w)(i:∀ Γ w,I Γ w->CG P n N R X y Γ w):CG P n N R X (.seq x y) Γ w:=by
 intro a h;refine wp_seq (wp_mono (h1 a h) ?_);intro e a w d;cases e with
 | normal=>obtain ⟨b,f,c⟩:=d;exact i b w f a c
 | _=>exact d
end joi
section fin
variable {M:Ms}{P:Program}{n:Nat}{N R:Po}{X:Nat->Po}{ops:Array Oper}{k0:Nat}{hr:Hp}{L:Array Bool}{Γ:bW}{w:World}{h:Hp}{w0:World}{h0:Hp}{B:List Bx}{Rs:List Rw}{F:List (Hp->Prop)}
theorem iX (s:SS w0 h0 w h B Rs F)(H:∀ w' a,Up w h w' a->SS w0 h0 w' a B Rs F->AG M P n N R X ops k0 L Γ w')(b:fG ops [] L=true:=by kernel_rfl):EG M P n N R X ops k0 hr [] L Γ w h:=Rg.fin0 b (fun w' a u=>H w' a u (s.step u))
end fin
theorem tJ (a:Nat)(A:Z9)(c:Nat)(u:(lim a).length<=c)(b:Nat)(D:Z9)(d:Nat)(H:(lim b).length<=d)(y:(lim a).length<=3000000000)(B:(lim b).length<=3000000000)(i:a<b)(w:World)(h:Hp)(g:G w h)(z:S3 A (lim a) h)(F:S3 D (lim b) h):CR 124 #[.slice A ((lim a).length) c,.slice D ((lim b).length) d] w h (fun v h1=>∃ l x,v=.tuple #[l,x]/\RN h1 l (a/b)/\RN h1 x (a%b)):=by
 have e:=(((sS g).aS z).aS F);have C:=dh i;refine go Tryz.func124 [(0,qS A ((lim a).length) c),(1,qS D ((lim b).length) d)] rfl (ab e aE (ag (ab e aE (au 27 e (jT a A c u b D d H oM oM _ _ e.g e.f.2.1 e.f.1) (fun w1 I e=>?_)))));have ⟨j,o⟩:=dT (p:=(bP a b:Int)<(0:Int)) oM;exact lB 28 j (ar (ab e dG (ah e [] (.tuple #[sZ,qS A ((lim a).length) c]) (⟨_,_,rfl,by rw[zY i];exact ⟨none,0,rfl,nR _,SlO.nil⟩,by rw[yN i];exact ⟨A,c,rfl,u,e.f.2.1⟩⟩))))
theorem qi {b:Nat}(h:(lim b).length=1):b<4294967296/\(lim b).getD 0 0=b/\0<b:=by
 have h1:=iD b;rw[h] at h1
 have a:0<b:=dv.1 oM;refine ⟨by omega,?_,a⟩;rw[A3 a oM];rfl
theorem p9 (a:Nat)(A:Z9)(c:Nat)(I:(lim a).length<=c)(b:Nat)(D:Z9)(d:Nat)(W:(lim b).length<=d)(K:(lim a).length<=3000000000)(S:(lim b).length<=3000000000)(o:b<=a)(h1:(lim b).length=1)(w:World)(h:Hp)(g:G w h)(M:S3 A (lim a) h)(V:S3 D (lim b) h):CR 124 #[.slice A ((lim a).length) c,.slice D ((lim b).length) d] w h (fun v h1=>∃ z J,v=.tuple #[z,J]/\RN h1 z (a/b)/\RN h1 J (a%b)):=by
 have e:=(((sS g).aS M).aS V);have U:=fu o;obtain ⟨L,i,j⟩:=qi h1;refine go Tryz.func124 [(0,qS A ((lim a).length) c),(1,qS D ((lim b).length) d)] rfl (ab e aE (ag (ab e aE (au 27 e (jT a A c I b D d W oM oM _ _ e.g e.f.2.1 e.f.1) (fun w1 h2 e=>?_)))));have ⟨j,C⟩:=dF (p:=(bP a b:Int)<(0:Int)) oM;refine lB 28 j (am (cK (cQ (ab e [.c,.v (nV ((lim b).length))] ?_))));have l:((((lim b).length:Nat):Int) == (1:Int))=true:=AE oM;have H:=eq_of_beq l;refine lB 32 l (ar (ab e aE (lX 36 D ((lim b).length) d 1 0 0 ((e.f.1).ok oM) ?_)));refine lH 37 (mW ((lim b).getD 0 0)) e ((e.f.1).el 0 oM) (lC 38 e (GL a A c I oM ((lim b).getD 0 0) oM oM _ _ e.g e.f.2.1) ?_);rintro _ w5 h6 e ⟨_,r,rfl,⟨B,F,rfl,y,X⟩,x⟩;replace e:=e.aS X;refine lL e [.c,.v (qS B ((lim (a/((lim b).getD 0 0))).length) F),.v (mW r),.c,.c] (aK (lL e aE ?_));have O:=yO a (show 0<(lim b).getD 0 0 by omega);refine lV 43 (mV r) ?_ (hr:=rU ((r:Int)) kR (bF oM oM));refine lC 44 e (m7 r oM _ _ e.g) ?_;rintro _ _ _ e ⟨Y,Q,rfl,u,Z⟩;replace e:=e.aS Z;exact lL e aE (ah e [] (.tuple #[qS B ((lim (a/((lim b).getD 0 0))).length) F,qS Y ((lim r).length) Q]) (⟨_,_,rfl,by rw[i] at *;exact ⟨_,_,rfl,y,e.f.2.1⟩,by rw[<-i,<-x];exact ⟨_,_,rfl,u,e.f.1⟩⟩))
theorem lu (x y:Nat):Nat.gcd y (x%y)=Nat.gcd x y:=by rw[Io y,<-Nat.gcd_rec,Io]
def aj (x:Nat):List Value:=[.int .u64 (x:Nat)]
theorem wm {l:List Nat}{m:Nat}(h:0<m)(h0:l.getD (m-1) 0=0):tl l m=tl l (m-1):=by
 obtain ⟨k,rfl⟩:∃ k,m=k+1:=⟨m-1,by omega⟩;rw[jW,if_pos (by simpa using h0)];rfl
theorem pj (s:ByteArray)(d:8<=s.size)(w:World)(h:Hp)(g:G w h):CV 105 #[.string s] w h (mV (wv s)):=by
 have c:=sS g;have B:=cA s 0;have o:=cA s 1;have l:=cA s 2;have p:=cA s 3;have f:=cA s 4;have D:=cA s 5;have e:=cA s 6;have z:=cA s 7;refine go Tryz.func105 [(0,.string s)] rfl (ab c ae (ag (cR 38 [] mixed c ai ?_)));refine eV 0 3 (.string s) (eV 1 4 (.int .u8 (aG s 0:Nat)) ?_ (hv:=fun _=>dZ (tx:=9) (x:=.tmp 3) (i:=.const (iV 0)) (k:=.i64) (s:=s) (n:=0) (j:=(0:Int)) kR kR kR kR oM oM _));refine eV 2 5 (mV (aG s 0)) ?_ (hv:=fun _=>rU (((aG s 0:Nat):Int)) kR (bF oM oM));refine eV 3 6 (.string s) (eV 4 7 (.int .u8 (aG s 1:Nat)) ?_ (hv:=fun _=>dZ (tx:=9) (x:=.tmp 6) (i:=.const (iV 1)) (k:=.i64) (s:=s) (n:=1) (j:=(1:Int)) kR kR kR kR oM oM _));refine eV 5 8 (mV (aG s 1)) ?_ (hv:=fun _=>rU (((aG s 1:Nat):Int)) kR (bF oM oM));refine eV 6 9 (mV ((aG s 1)*256)) ?_ (hv:=fun _=>rU ((((aG s 1:Nat):Int)*256)) kR ((bF oM oM).trans oM));refine eV 7 10 (mV (aG s 0+aG s 1*256)) ?_ (hv:=fun _=>ay (i9 (t:=23) (u:=23) (x:=.tmp 5) (y:=.tmp 9) (a:=(aG s 0)) (b:=((aG s 1)*256)) kR kR kR oM oM _) (by rw[gG 8 oM];first|done|omega));refine eV 8 11 (.string s) (eV 9 12 (.int .u8 (aG s 2:Nat)) ?_ (hv:=fun _=>dZ (tx:=9) (x:=.tmp 11) (i:=.const (iV 2)) (k:=.i64) (s:=s) (n:=2) (j:=(2:Int)) kR kR kR kR oM oM _));refine eV 10 13 (mV (aG s 2)) ?_ (hv:=fun _=>rU (((aG s 2:Nat):Int)) kR (bF oM oM));refine eV 11 14 (mV ((aG s 2)*65536)) ?_ (hv:=fun _=>rU ((((aG s 2:Nat):Int)*65536)) kR ((bF oM oM).trans oM));refine eV 12 15 (mV (aG s 0+aG s 1*256+aG s 2*65536)) ?_ (hv:=fun _=>ay (i9 (t:=23) (u:=23) (x:=.tmp 10) (y:=.tmp 14) (a:=(aG s 0+aG s 1*256)) (b:=((aG s 2)*65536)) kR kR kR oM oM _) (by rw[gG 16 oM];first|done|omega));refine eV 13 16 (.string s) (eV 14 17 (.int .u8 (aG s 3:Nat)) ?_ (hv:=fun _=>dZ (tx:=9) (x:=.tmp 16) (i:=.const (iV 3)) (k:=.i64) (s:=s) (n:=3) (j:=(3:Int)) kR kR kR kR oM oM _));refine eV 15 18 (mV (aG s 3)) ?_ (hv:=fun _=>rU (((aG s 3:Nat):Int)) kR (bF oM oM));refine eV 16 19 (mV ((aG s 3)*16777216)) ?_ (hv:=fun _=>rU ((((aG s 3:Nat):Int)*16777216)) kR ((bF oM oM).trans oM));refine eV 17 20 (mV (aG s 0+aG s 1*256+aG s 2*65536+aG s 3*16777216)) ?_ (hv:=fun _=>ay (i9 (t:=23) (u:=23) (x:=.tmp 15) (y:=.tmp 19) (a:=(aG s 0+aG s 1*256+aG s 2*65536)) (b:=((aG s 3)*16777216)) kR kR kR oM oM _) (by rw[gG 24 oM];first|done|omega));refine eV 18 21 (.string s) (eV 19 22 (.int .u8 (aG s 4:Nat)) ?_ (hv:=fun _=>dZ (tx:=9) (x:=.tmp 21) (i:=.const (iV 4)) (k:=.i64) (s:=s) (n:=4) (j:=(4:Int)) kR kR kR kR oM oM _));refine eV 20 23 (mV (aG s 4)) ?_ (hv:=fun _=>rU (((aG s 4:Nat):Int)) kR (bF oM oM));refine eV 21 24 (mV ((aG s 4)*4294967296)) ?_ (hv:=fun _=>rU ((((aG s 4:Nat):Int)*4294967296)) kR ((bF oM oM).trans oM));refine eV 22 25 (mV (aG s 0+aG s 1*256+aG s 2*65536+aG s 3*16777216+aG s 4*4294967296)) ?_ (hv:=fun _=>ay (i9 (t:=23) (u:=23) (x:=.tmp 20) (y:=.tmp 24) (a:=(aG s 0+aG s 1*256+aG s 2*65536+aG s 3*16777216)) (b:=((aG s 4)*4294967296)) kR kR kR oM oM _) (by rw[gG 32 oM];first|done|omega));refine eV 23 26 (.string s) (eV 24 27 (.int .u8 (aG s 5:Nat)) ?_ (hv:=fun _=>dZ (tx:=9) (x:=.tmp 26) (i:=.const (iV 5)) (k:=.i64) (s:=s) (n:=5) (j:=(5:Int)) kR kR kR kR oM oM _));refine eV 25 28 (mV (aG s 5)) ?_ (hv:=fun _=>rU (((aG s 5:Nat):Int)) kR (bF oM oM));refine eV 26 29 (mV ((aG s 5)*1099511627776)) ?_ (hv:=fun _=>rU ((((aG s 5:Nat):Int)*1099511627776)) kR ((bF oM oM).trans oM));refine eV 27 30 (mV (aG s 0+aG s 1*256+aG s 2*65536+aG s 3*16777216+aG s 4*4294967296+aG s 5*1099511627776)) ?_ (hv:=fun _=>ay (i9 (t:=23) (u:=23) (x:=.tmp 25) (y:=.tmp 29) (a:=(aG s 0+aG s 1*256+aG s 2*65536+aG s 3*16777216+aG s 4*4294967296)) (b:=((aG s 5)*1099511627776)) kR kR kR oM oM _) (by rw[gG 40 oM];first|done|omega));refine eV 28 31 (.string s) (eV 29 32 (.int .u8 (aG s 6:Nat)) ?_ (hv:=fun _=>dZ (tx:=9) (x:=.tmp 31) (i:=.const (iV 6)) (k:=.i64) (s:=s) (n:=6) (j:=(6:Int)) kR kR kR kR oM oM _));refine eV 30 33 (mV (aG s 6)) ?_ (hv:=fun _=>rU (((aG s 6:Nat):Int)) kR (bF oM oM));refine eV 31 34 (mV ((aG s 6)*281474976710656)) ?_ (hv:=fun _=>rU ((((aG s 6:Nat):Int)*281474976710656)) kR ((bF oM oM).trans oM));refine eV 32 35 (mV (aG s 0+aG s 1*256+aG s 2*65536+aG s 3*16777216+aG s 4*4294967296+aG s 5*1099511627776+aG s 6*281474976710656)) ?_ (hv:=fun _=>ay (i9 (t:=23) (u:=23) (x:=.tmp 30) (y:=.tmp 34) (a:=(aG s 0+aG s 1*256+aG s 2*65536+aG s 3*16777216+aG s 4*4294967296+aG s 5*1099511627776)) (b:=((aG s 6)*281474976710656)) kR kR kR oM oM _) (by rw[gG 48 oM];first|done|omega));refine eV 33 36 (.string s) (eV 34 37 (.int .u8 (aG s 7:Nat)) ?_ (hv:=fun _=>dZ (tx:=9) (x:=.tmp 36) (i:=.const (iV 7)) (k:=.i64) (s:=s) (n:=7) (j:=(7:Int)) kR kR kR kR oM oM _));refine eV 35 38 (mV (aG s 7)) ?_ (hv:=fun _=>rU (((aG s 7:Nat):Int)) kR (bF oM oM));refine eV 36 39 (mV ((aG s 7)*72057594037927936)) ?_ (hv:=fun _=>rU ((((aG s 7:Nat):Int)*72057594037927936)) kR ((bF oM oM).trans oM));refine eV 37 40 (mV (aG s 0+aG s 1*256+aG s 2*65536+aG s 3*16777216+aG s 4*4294967296+aG s 5*1099511627776+aG s 6*281474976710656+aG s 7*72057594037927936)) ?_ (hv:=fun _=>ay (i9 (t:=23) (u:=23) (x:=.tmp 35) (y:=.tmp 39) (a:=(aG s 0+aG s 1*256+aG s 2*65536+aG s 3*16777216+aG s 4*4294967296+aG s 5*1099511627776+aG s 6*281474976710656)) (b:=((aG s 7)*72057594037927936)) kR kR kR oM oM _) (by rw[gG 56 oM];first|done|omega));exact bA c (fun w1 C c=>tV 38 2 (mV (aG s 0+aG s 1*256+aG s 2*65536+aG s 3*16777216+aG s 4*4294967296+aG s 5*1099511627776+aG s 6*281474976710656+aG s 7*72057594037927936)) (tN (kX (c.ret [] (mV (aG s 0+aG s 1*256+aG s 2*65536+aG s 3*16777216+aG s 4*4294967296+aG s 5*1099511627776+aG s 6*281474976710656+aG s 7*72057594037927936)) rfl))))
theorem Cm (A:Z9)(c:Nat)(l:List Nat)(H:l.length<=1099511627776)(F:l.length<=c)(w:World)(h:Hp)(g:G w h)(z:SlO 1 aj 0 h A l):CV 118 #[.slice A l.length c] w h (.slice A (tl l l.length) c):=by
 have a:=((sS g).aS z);refine go Tryz.func118 [(0,qS A l.length c)] rfl (ab a ae (ag (kZ ?_)));refine bY _ (CG.loop (fun p Γ y=>∃ (m:Nat)(j:Hp),p=m/\Γ=[(2,sZ),(0,qS A m c)]/\SS w h y j [] [] [fun j=>SlO 1 aj 0 j A l]/\m<=l.length/\tl l l.length=tl l m) _ ⟨l.length,h,rfl,rfl,a.to _ _,nR _,rfl⟩ ?_);rintro _ _ w1 ⟨m,x,B,rfl,a,D,o⟩;refine cQ (ab a [.c,.v (nV m)] ?_);cases d:(decide ((0:Int)<(m:Int)))
 .
  have i:=oF d;refine lB 5 d (lL a ae (lG 7 ?_));refine lG 8 (lG 9 (lG 10 (lG 11 (lG 12 (lG 13 (lL a [.v qF] (am (CG.exit ?_))))))))
  show CG _ _ _ _ _ _ _ _
  exact ab a aE (ah a [] (qS A m c) (by rw[o,ma oM]))
 have i:=oT d;refine lB 5 d (lL a [.c,.c,.c,.v (nV m)] (bB 10 ((m:Nat)-1) (m-1) ?_));refine lX 11 A m c 1 (m-1:Nat) (m-1) ((a.f.1).ok oM) (lH 12 (mV (l.getD (m-1) 0)) a ((a.f.1).el (m-1) oM) ?_);cases b:(((l.getD (m-1) 0:Nat):Int) == (0:Int))
 .
  have e:=aq b;refine lB 13 b (lL a [.v qF] (am (CG.exit ?_)))
  show CG _ _ _ _ _ _ _ _
  exact ab a aE (ah a [] (qS A m c) (by rw[o,ma oM]))
 have e:=eq_of_beq b;refine lB 13 b (lL a [.v qT] (ar (cK (kZ (kQ (lL a [.c,.c,.v (nV m)] (bB 18 ((m:Nat)-1) (m-1) ?_)))))));refine lT 19 A m c 1 (m-1:Nat) (m-1) (lL a ae (lD ?_));intro C u;refine ⟨_,_,?_,⟨m-1,x,rfl,rfl,a.to _ _,oM,(by rw[o];exact wm oM oM)⟩,u.to _ kR⟩
 omega
theorem oO {l m:List Nat}(a:l.length=m.length)(h:∀ j,j<l.length->l.getD j 0=m.getD j 0):l=m:=by
 apply List.ext_getElem a
 intro i h1 b;have:=h i h1
 simpa [h1,b] using this
theorem pt {l m:List Nat}{i x:Nat}(hi:i<l.length)(h:∀ j,j<i->l.getD j 0=m.getD j 0)(a:x=m.getD i 0):∀ j,j<i+1->(l.set i x).getD j 0=m.getD j 0:=fun j b=>by
 rw[bv hi]
 split
 ·rename_i e;rw[<-e];exact a
 ·exact h j oM
def xD (h h1:Hp)(v:Value)(l:List Nat):Prop:=∃ b,v=.slice (some ⟨b,0,none⟩) l.length l.length/\h.size<=b/\h1[b]?=some (.cells (l.flatMap aj).toArray 23 (0,0))/\SlO 1 aj 0 h1 (some ⟨b,0,none⟩) l
theorem j3  (w:World)(h:Hp)(g:G w h):CV 79 #[nv 0] w h sZ:=by
 have a:=sS g;exact go Tryz.func79 [(0,nv 0)] rfl (aD (lA 1 25 ([uV 0,eS]) a (fun b w2 d a=>lL a ae (ag (ab a [.v (qP b 1),.o (eS) 0 1 1,.v qT,.c,.v (pB b),.o (uV 0) 0 0 1,.v qT,.v qT] (ar (ab a ae (ah a [] (sZ) rfl))))))))
theorem gK (s:ByteArray)(k:Nat):(s.extract k s.size).size=s.size-k:=by
 simp[ByteArray.size_extract]
theorem pe {n L:Nat}(a:0<L):∀ j,j<1->((yL L 0).set 0 (n%18446744073709551616)).getD j 0=(wds n).getD j 0:=fun j b=>by
 have:j=0:=by omega
 subst this;rw[bv (by simpa using a),if_pos rfl];have:=pI n
 unfold lo at this
 exact Int.ofNat.inj this
theorem x4 (n:Nat)(U:0<n)(hl:(wds n).length<=1000000000)(B:n<18446744073709551616)(w:World)(h:Hp)(g:G w h):CR 79 #[nv n] w h (fun v h1=>xD h h1 v (wds n)):=by
 have e:=sS g;have hz:=gW n;have hp:=jy.2 U;have hlo:=kA B;have M:=congrArg List.length (jw U B)
 simp only[List.length_singleton] at M
 refine go Tryz.func79 [(0,nv n)] rfl (aD (lA 1 25 (nc n) e (fun p w2 h3 e=>lL e ae (ag (ab e [.v (qP p 1),.o (.string (hi n)) 0 1 1] (lV 7 qT ?_ (hr:=rb kR (iR (d7 B)))))))));refine lL e [.c,.v (pB p),.o (mV (n%18446744073709551616)) 0 0 1] ?_;have H:(((n%18446744073709551616:Nat):Int) == (0:Int))=false:=fY oM;have Q:=aq H;refine lB 11 H (lL e [.v qF] (am (cK (ab e [.v (qP p 1),.o (.string (hi n)) 0 1 1,.v (nV ((hi n).size))] (lV 16 (nV (((hi n).size)/8)) ?_ (hr:=ay (dl (t:=3) (u:=3) (x:=.tmp 15) (y:=.const (iV 8)) (k:=.i64) (a:=(((hi n).size:Nat):Int)) (b:=(8:Int)) kR kR kR oM _) (db ((hi n).size) 8 oM)))))));refine bB 17 (1+(((hi n).size)/8:Nat)) ((wds n).length) (lK 18 23 ((wds n).length) 1 8 (uV 0) aj 0 e (fun z w6 X e=>?_));have J:(yL ((wds n).length) 0).length=((wds n).length):=by simp
 refine lL e ae (aK (lL e [.c,.v (pB p),.o (mV (n%18446744073709551616)) 1 0 1] (lX 22 (sB z) ((wds n).length) ((wds n).length) 1 0 0 rfl ?_)));refine lW 0 (yL ((wds n).length) 0) aj 1 0 (n%18446744073709551616) e oM (fun w9 e=>?_);have zc:((yL ((wds n).length) 0).set 0 (n%18446744073709551616)).length=((wds n).length):=by rw[Ic];exact J
 replace e:=e.to [⟨z,23,((yL ((wds n).length) 0).set 0 (n%18446744073709551616)).flatMap aj⟩,⟨p,25,nc n⟩] [];refine ag (ab e ae (a7 ?_));refine bY _ (CG.loop (fun K Γ w_=>∃ (i:Nat)(l:List Nat)(h_:Hp),K=(wds n).length-i/\Γ=[(1,pB p),(2,sZ),(3,qS (sB z) ((wds n).length) ((wds n).length)),(4,nV i)]/\SS w h w_ h_ [⟨z,23,(l).flatMap aj⟩,⟨p,25,nc n⟩] [] []/\1<=i/\i<=(wds n).length/\l.length=(wds n).length/\(∀ j,j<i->l.getD j 0=(wds n).getD j 0)) _ ⟨1,(yL ((wds n).length) 0).set 0 (n%18446744073709551616),X,rfl,rfl,e.to _ _,nR _,by omega,zc,pe oM⟩ ?_);rintro _ _ _ ⟨i,l,_,V,rfl,e,hi1,W,L,S⟩;refine cQ (ab e [.c,.c,.v (nV ((wds n).length))] ?_);cases I:(decide ((i:Int)<((((wds n).length):Nat):Int)))
 .
  have zb:=oF I;refine lB 26 I (am (CG.exit ?_))
  show CG _ _ _ _ _ _ _ _
  refine ab e aE (lN (kX ?_));have hiL:i=(wds n).length:=by omega
  have O:l=wds n:=oO oM (fun j hj=>S j oM);rw[O] at e
  obtain ⟨_,e,C,F,D⟩:=e.pub 0;replace e:=(e.to [⟨p,25,nc n⟩] []).aS (SlO.of_flat (sz:=1) (f:=aj) (d:=0) (b:=z) (o:=0) (l:=wds n) (fun _=>rfl) C);exact e.ret [] (qS (sB z) ((wds n).length) ((wds n).length)) (⟨z,rfl,F,D,e.f.1⟩)
 have zb:=oT I;refine lB 26 I (ar (cK (cQ (kZ (kQ (lL e [.c,.c,.v (qP p 1),.o (.string (hi n)) 1 1 1,.c] (lI 34 ((i:Nat)-1) ?_)))))));refine bB 35 (8*((i:Nat)-1)) (8*(i-1)) (lV 36 (.string ((hi n).extract (8*(i-1)) (hi n).size)) ?_ (hr:=n5 (tx:=9) (x:=.tmp 32) (i:=.tmp 35) (k:=.i64) (s:=hi n) (n:=(8*(i-1))) (j:=((8*(i-1):Nat):Int)) kR kR kR kR oM oM _));refine au 37 e (pj ((hi n).extract (8*(i-1)) (hi n).size) (by rw[gK];omega) _ _ e.g) (fun _ Z e=>lX 38 (sB z) ((wds n).length) ((wds n).length) 1 (i:Nat) i rfl (lW 0 l aj 1 i (wv ((hi n).extract (8*(i-1)) (hi n).size):Nat) e oM (fun _ e=>?_)));have zd:((l).set i (wv ((hi n).extract (8*(i-1)) (hi n).size):Nat)).length=((wds n).length):=by rw[Ic];exact L
 replace e:=e.to [⟨z,23,((l).set i (wv ((hi n).extract (8*(i-1)) (hi n).size):Nat)).flatMap aj⟩,⟨p,25,nc n⟩] [];refine lN (kQ (lL e ae (bB 28 ((i:Nat)+1) (i+1) ?_)));refine lL e ae (lD ?_);intro a_ Y;refine ⟨_,_,?_,⟨i+1,(l).set i (wv ((hi n).extract (8*(i-1)) (hi n).size):Nat),Z,rfl,rfl,e.to _ _,oM,oM,zd,(pt oM S (by rw[it n (i-1) oM,show i-1+1=i by omega]))⟩,Y.to _ kR⟩
 omega
theorem BF (n:Nat)(hn:0<n)(hl:(wds n).length<=1000000000)(H:18446744073709551616<=n)(w:World)(h:Hp)(g:G w h):CR 79 #[nv n] w h (fun v h1=>xD h h1 v (wds n)):=by
 have e:=sS g;have hz:=gW n;have hp:=jy.2 hn;refine go Tryz.func79 [(0,nv n)] rfl (aD (lA 1 25 (nc n) e (fun z w2 h3 e=>lL e ae (ag (ab e [.v (qP z 1),.o (.string (hi n)) 0 1 1] (lV 7 qF ?_ (hr:=rb kR (g8 (em H)))))))));refine lL e ae (lG 9 ?_);refine lG 10 (lG 11 (lL e [.v qF] (am (cK (ab e [.v (qP z 1),.o (.string (hi n)) 0 1 1,.v (nV ((hi n).size))] (lV 16 (nV (((hi n).size)/8)) ?_ (hr:=ay (dl (t:=3) (u:=3) (x:=.tmp 15) (y:=.const (iV 8)) (k:=.i64) (a:=(((hi n).size:Nat):Int)) (b:=(8:Int)) kR kR kR oM _) (db ((hi n).size) 8 oM))))))));refine bB 17 (1+(((hi n).size)/8:Nat)) ((wds n).length) (lK 18 23 ((wds n).length) 1 8 (uV 0) aj 0 e (fun p w5 S e=>?_));have I:(yL ((wds n).length) 0).length=((wds n).length):=by simp
 refine lL e ae (aK (lL e [.c,.v (pB z),.o (mV (n%18446744073709551616)) 1 0 1] (lX 22 (sB p) ((wds n).length) ((wds n).length) 1 0 0 rfl ?_)));refine lW 0 (yL ((wds n).length) 0) aj 1 0 (n%18446744073709551616) e oM (fun w8 e=>?_);have K:((yL ((wds n).length) 0).set 0 (n%18446744073709551616)).length=((wds n).length):=by rw[Ic];exact I
 replace e:=e.to [⟨p,23,((yL ((wds n).length) 0).set 0 (n%18446744073709551616)).flatMap aj⟩,⟨z,25,nc n⟩] [];refine ag (ab e ae (a7 ?_));refine bY _ (CG.loop (fun J Γ Y=>∃ (i:Nat)(l:List Nat)(h_:Hp),J=(wds n).length-i/\Γ=[(1,pB z),(2,sZ),(3,qS (sB p) ((wds n).length) ((wds n).length)),(4,nV i)]/\SS w h Y h_ [⟨p,23,(l).flatMap aj⟩,⟨z,25,nc n⟩] [] []/\1<=i/\i<=(wds n).length/\l.length=(wds n).length/\(∀ j,j<i->l.getD j 0=(wds n).getD j 0)) _ ⟨1,(yL ((wds n).length) 0).set 0 (n%18446744073709551616),S,rfl,rfl,e.to _ _,nR _,by omega,K,pe oM⟩ ?_);rintro _ _ _ ⟨i,l,_,O,rfl,e,hi1,U,L,Q⟩;refine cQ (ab e [.c,.c,.v (nV ((wds n).length))] ?_);cases F:(decide ((i:Int)<((((wds n).length):Nat):Int)))
 .
  have Z:=oF F;refine lB 26 F (am (CG.exit ?_))
  show CG _ _ _ _ _ _ _ _
  refine ab e aE (lN (kX ?_));have hiL:i=(wds n).length:=by omega
  have M:l=wds n:=oO oM (fun j hj=>Q j oM);rw[M] at e
  obtain ⟨_,e,D,C,B⟩:=e.pub 0;replace e:=(e.to [⟨z,25,nc n⟩] []).aS (SlO.of_flat (sz:=1) (f:=aj) (d:=0) (b:=p) (o:=0) (l:=wds n) (fun _=>rfl) D);exact e.ret [] (qS (sB p) ((wds n).length) ((wds n).length)) (⟨p,rfl,C,B,e.f.1⟩)
 have Z:=oT F;refine lB 26 F (ar (cK (cQ (kZ (kQ (lL e [.c,.c,.v (qP z 1),.o (.string (hi n)) 1 1 1,.c] (lI 34 ((i:Nat)-1) ?_)))))));refine bB 35 (8*((i:Nat)-1)) (8*(i-1)) (lV 36 (.string ((hi n).extract (8*(i-1)) (hi n).size)) ?_ (hr:=n5 (tx:=9) (x:=.tmp 32) (i:=.tmp 35) (k:=.i64) (s:=hi n) (n:=(8*(i-1))) (j:=((8*(i-1):Nat):Int)) kR kR kR kR oM oM _));refine au 37 e (pj ((hi n).extract (8*(i-1)) (hi n).size) (by rw[gK];omega) _ _ e.g) (fun _ X e=>lX 38 (sB p) ((wds n).length) ((wds n).length) 1 (i:Nat) i rfl (lW 0 l aj 1 i (wv ((hi n).extract (8*(i-1)) (hi n).size):Nat) e oM (fun _ e=>?_)));have W:((l).set i (wv ((hi n).extract (8*(i-1)) (hi n).size):Nat)).length=((wds n).length):=by rw[Ic];exact L
 replace e:=e.to [⟨p,23,((l).set i (wv ((hi n).extract (8*(i-1)) (hi n).size):Nat)).flatMap aj⟩,⟨z,25,nc n⟩] [];refine lN (kQ (lL e ae (bB 28 ((i:Nat)+1) (i+1) ?_)));refine lL e ae (lD ?_);intro a_ V;refine ⟨_,_,?_,⟨i+1,(l).set i (wv ((hi n).extract (8*(i-1)) (hi n).size):Nat),X,rfl,rfl,e.to _ _,oM,oM,W,(pt oM Q (by rw[it n (i-1) oM,show i-1+1=i by omega]))⟩,V.to _ kR⟩
 omega
theorem fd (n:Nat)(b:0<n)(a:(wds n).length<=1000000000)(w:World)(h:Hp)(g:G w h):CR 79 #[nv n] w h (fun v h1=>xD h h1 v (wds n)):=by
 rcases ep n 18446744073709551616 with hs|hs
 ·exact x4 n b a hs w h g
 ·exact BF n b a hs w h g
open Go.RowKit Go.Shelf
def vy:Go.Shelf.Ren:=⟨fun|167=>120|240=>147|276=>157|n=>n,fun|0=>0|4=>4|5=>5|9=>9|20=>20|37=>151|70=>193|72=>195|75=>198|164=>231|80=>200|n=>n,fun n=>n⟩
theorem AW:Go.Proofs.Lays.n167 Tryz.prog vy:={
 mixed:=by kernel_rfl
 f167:=Tryz.func120.trans (congrArg some kR)
 f240:=Tryz.func147.trans (congrArg some kR)
 f276:=Tryz.func157.trans (congrArg some kR)
 t0:=Tryz.underlying0
 a0:=Tryz.isAgg0
 z0:=Tryz.sizeOf0
 v0:=Tryz.zeroValue0
 t4:=Tryz.underlying4
 a4:=Tryz.isAgg4
 z4:=Tryz.sizeOf4
 v4:=Tryz.zeroValue4
 t5:=Tryz.underlying5
 a5:=Tryz.isAgg5
 z5:=Tryz.sizeOf5
 v5:=Tryz.zeroValue5
 t9:=Tryz.underlying9
 a9:=Tryz.isAgg9
 z9:=Tryz.sizeOf9
 v9:=Tryz.zeroValue9
 t20:=Tryz.underlying20
 a20:=Tryz.isAgg20
 z20:=Tryz.sizeOf20
 v20:=Tryz.zeroValue20
 t37:=Tryz.underlying151
 a37:=Tryz.isAgg151
 z37:=Tryz.sizeOf151
 v37:=Tryz.zeroValue151
 t70:=Tryz.underlying193
 a70:=Tryz.isAgg193
 z70:=Tryz.sizeOf193
 v70:=Tryz.zeroValue193
 t72:=Tryz.underlying195
 a72:=Tryz.isAgg195
 z72:=Tryz.sizeOf195
 v72:=Tryz.zeroValue195
 t75:=Tryz.underlying198
 a75:=Tryz.isAgg198
 z75:=Tryz.sizeOf198
 v75:=Tryz.zeroValue198
 t164:=Tryz.underlying231
 a164:=Tryz.isAgg231
 z164:=Tryz.sizeOf231
 v164:=Tryz.zeroValue231 }
theorem vG:Builder.Extra Tryz.prog vy:={
 sizeBuilder:=by kernel_rfl
 liesBuilder:=by kernel_rfl
 t5:=Tryz.underlying5
 a5:=Tryz.isAgg5
 z5:=Tryz.sizeOf5
 v5:=Tryz.zeroValue5
 infoByte:=by kernel_rfl
 cellsByte:=by kernel_rfl
 sizeByte:=by kernel_rfl
 neB5:=by decide }
theorem Cs (A:Z9)(c:Nat)(l:List Nat)(Y:Wd l)(hl:l.length<=1099511627776)(Z:l.length<=c)(w:World)(h:Hp)(g:G w h)(hA:SlO 1 aj 0 h A l):CV 77 #[.slice A l.length c] w h (nv (aA l)):=by
 have d:=((sS g).aS hA);have htl:=ia l l.length;have hdl:(l.drop 1).length=l.length-1:=HT;refine go Tryz.func77 [(0,qS A l.length c)] rfl (aD (lA 2 25 ([uV 0,eS]) d (fun Q w2 h3 d=>aK (lL d ae (au 8 d (Cm A c l hl Z _ _ d.g d.f.1) (fun e h5 d=>lL d ae (ag (ab d [.c,.v (nV (tl l l.length))] (a7 (aD ?_))))))))));cases C:((((tl l l.length):Nat):Int) == (0:Int))
 .
  have K:=aq C;refine lB 12 C (lL d ae (am (aD ?_)));cases B:((((tl l l.length):Nat):Int) == (1:Int))
  .
   have J:=aq B;refine lB 15 B (lL d ae (am (cK (aD ?_))));have j:=d;refine HG 3 195 [.pointer none,sZ] d (fun w8 i V hbk=>?_);obtain ⟨h9,d,-⟩:=j.liftJ i;refine aK (lL d [.c,.v (nV (tl l l.length))] (bB 22 (((tl l l.length):Nat)-1) ((tl l l.length)-1) ?_));refine bB 23 (8*((tl l l.length)-1:Nat)) (8*((tl l l.length)-1)) (Hn 24 j i (Tryz.Builder_Grow_fresh e.heap.size e.heap.size (8*((tl l l.length)-1):Nat) _ (nR _) hbk V oM) (fun _ ze d z D=>?_))
   clear i
   have i:=z;clear z;have F:Lib.IsBuilder 195 5 e.heap.size e.heap.size (Lib.byteCells (((l.drop 1).take 0).flatMap b8)) _:=.inr D;refine ag (ab d ae (lF 26 A (tl l l.length) c 1 1 1 ?_));replace d:=d.aS (d.f.1.drop 1 c Z);replace j:=j.aS (j.f.1.drop 1 c Z);refine lL d [.v (nV ((tl l l.length)-1)),.c] (a7 ?_);refine bY _ (CG.loop (fun I Γ H=>∃ (k:Nat)(o:Hp),I=(tl l l.length)-k/\Γ=[(0,qS A (tl l l.length) c),(2,pB Q),(3,.pointer (some ⟨e.heap.size,0,none⟩)),(26,qS (if c=1 then A else A.map (·.add (1*1))) ((tl l l.length)-1) (c-1)),(27,nV ((tl l l.length)-1)),(28,nV k)]/\SS w h H o [⟨Q,25,[uV 0,eS]⟩] [] [fun o=>SlO 1 aj 0 o (if c=1 then A else A.map (·.add (1*1))) (l.drop 1),fun o=>SlO 1 aj 0 o A l]/\k<=(tl l l.length)-1/\Ext e H/\Lib.IsBuilder 195 5 e.heap.size e.heap.size (Lib.byteCells (((l.drop 1).take k).flatMap b8)) H) _ ⟨0,ze,rfl,rfl,d.to _ _,In _,i,F⟩ ?_);rintro _ _ zf ⟨k,zg,bd,rfl,d,hk,i,F⟩;have hxk:(l.drop 1).getD k 0<18446744073709551616:=Dg.getD (Dg.drop Y 1) kD k;refine aD ?_;cases S:(decide ((k:Int)<(((tl l l.length)-1:Nat):Int)))
   .
    have zc:=oF S;refine lB 29 S (ag (cD (CG.exit ?_)))
    show CG _ _ _ _ _ _ _ _
    refine cQ (vL ⟨BL e.heap.size zf.heap.size,none⟩ 5 mixed ?_);obtain ⟨_,d,hj⟩:=j.liftJ i.drew;refine aV 0 43 (qS A (tl l l.length) c) (aX 1 44 A (tl l l.length) c 1 0 0 ((d.f.2.1).ok oM) (aH 2 45 (mV (l.getD 0 0)) d ((d.f.2.1).el 0 oM) ?_ (fun b hb=>hj b (kW.1 hb).1 (kW.1 hb).2)));refine aC 3 46 ((Tryz.Builder_String_any e.heap.size e.heap.size (((l.drop 1).take k).flatMap b8) _ (pY F ((Ext.refl _).drew)) i.size).mono fun e_ _ ⟨X,L⟩=>⟨_,X,vU L,?_⟩);obtain ⟨_,d,-⟩:=j.liftJ (Below.trans i.drew L);refine aV 4 47 (.agg #[mV (l.getD 0 0),.string (⟨(((l.drop 1).take k).flatMap b8).toArray⟩)]) (tP 5 0 0 ([mV (l.getD 0 0),.string (⟨(((l.drop 1).take k).flatMap b8).toArray⟩)]) d (fun _ d=>tN (kX ?_)));have W:k=(tl l l.length)-1:=by omega
    exact d.ret [(0,0,2)] (.agg #[mV (l.getD 0 0),.string (⟨(((l.drop 1).take k).flatMap b8).toArray⟩)]) (by rw[W];exact xX Y oM)
   have zc:=oT S;refine lB 29 S (ag (bZ (cK (cQ (kZ (aD (lX 30 (if c=1 then A else A.map (·.add (1*1))) ((tl l l.length)-1) (c-1) 1 (k:Nat) k ((d.f.1).ok oM) ?_)))))));refine lH 31 (mV ((l.drop 1).getD k 0)) d ((d.f.1).el k oM) (lL d ae (aK (lL d ae (a7 ?_))));refine bY _ (CG.loop (fun I Γ H=>∃ (m:Nat)(o:Hp),I=8-m/\Γ=[(0,qS A (tl l l.length) c),(2,pB Q),(3,.pointer (some ⟨e.heap.size,0,none⟩)),(26,qS (if c=1 then A else A.map (·.add (1*1))) ((tl l l.length)-1) (c-1)),(27,nV ((tl l l.length)-1)),(28,nV k),(5,mV ((l.drop 1).getD k 0)),(32,nV m)]/\SS w h H o [⟨Q,25,[uV 0,eS]⟩] [] [fun o=>SlO 1 aj 0 o (if c=1 then A else A.map (·.add (1*1))) (l.drop 1),fun o=>SlO 1 aj 0 o A l]/\m<=8/\Ext e H/\Lib.IsBuilder 195 5 e.heap.size e.heap.size (Lib.byteCells (((l.drop 1).take k).flatMap b8++(b8 ((l.drop 1).getD k 0)).take m)) H) _ ⟨0,zg,rfl,rfl,d.to _ _,In _,i,(by simpa using F)⟩ ?_);rintro _ _ _ ⟨m,zi,bb,rfl,d,hm,i,p⟩;refine aD ?_;cases O:(decide ((m:Int)<(8:Int)))
   .
    have zd:=oF O;refine lB 33 O (ag (cD (CG.exit ?_)))
    show CG _ _ _ _ _ _ _ _
    refine kQ (bB 42 ((k:Nat)+1) (k+1) ?_);refine lL d ae (lD ?_);intro a_ U;refine ⟨_,_,?_,⟨k+1,zi,rfl,rfl,d.to _ _,oM,i,(by rw[show m=8 by omega,sI oM] at p;exact p)⟩,U.to _ kR⟩
    omega
   have zd:=oT O;refine lB 33 O (ag (bZ (cK (cQ (kZ (ab d aE (lN (kQ (lL d aE (bB 37 (8*(m:Nat)) (8*m) ?_))))))))));refine lV 38 (mV (((l.drop 1).getD k 0)/2^(8*m))) ?_ (hr:=fZ (t:=23) (u:=3) (x:=.tmp 35) (y:=.tmp 37) (ky:=.i64) (a:=((l.drop 1).getD k 0)) (n:=(8*m)) kR kR kR oM _);refine lV 39 (.int .u8 ((((l.drop 1).getD k 0)/2^(8*m):Nat)%256:Nat)) ?_ (hr:=ay (n:=IntKind.wrap .u8 ((((l.drop 1).getD k 0)/2^(8*m):Nat):Int)) kR (xG _));refine Hn 40 j i (Any.Builder_WriteByte AW vG e.heap.size e.heap.size _ ((((l.drop 1).getD k 0)/2^(8*m)%256:Nat):Int) _ p (sK oM oM oM) i.size) (fun _ zj d z D=>?_)
   clear i
   have i:=z;clear z;rw[pK oM] at D
   have M:Lib.IsBuilder 195 5 e.heap.size e.heap.size _ _:=.inr D;refine lN (kQ (bB 41 ((m:Nat)+1) (m+1) ?_));refine lL d ae (lD ?_);intro a_ U;refine ⟨_,_,?_,⟨m+1,zj,rfl,rfl,d.to _ _,oM,i,M⟩,U.to _ kR⟩
   omega
  have J:=eq_of_beq B;refine lB 15 B (lL d ae (ar (ab d ae (lX 17 A (tl l l.length) c 1 0 0 ((d.f.1).ok oM) ?_))));exact lH 18 (mV (l.getD 0 0)) d ((d.f.1).el 0 oM) (lL d [.v (.agg #[mV (l.getD 0 0),eS])] (lP 0 0 ([mV (l.getD 0 0),eS]) d (fun _ d=>ah d [(0,0,2)] (.agg #[mV (l.getD 0 0),eS]) (DN Y oM))))
 have K:=eq_of_beq C;exact lB 12 C (lL d ae (ar (ab d [.v (.agg #[uV 0,eS])] (lP 0 0 ([uV 0,eS]) d (fun _ d=>ah d [(0,0,2)] (.agg #[uV 0,eS]) (AI oM))))))
theorem Gi (n:Nat)(b:n<18446744073709551616)(w:World)(h:Hp)(g:G w h):CV 69 #[mV n] w h (nv n):=by
 have a:=sS g;exact go Tryz.func69 [(0,mV n)] rfl (aD (lA 2 25 ([uV 0,eS]) a (fun e w2 f a=>aK (lL a [.c,.v (.agg #[mV n,eS])] (lP 0 0 ([mV n,eS]) a (fun d a=>ah a [(0,0,2)] (.agg #[mV n,eS]) (iq b)))))))
theorem rY (n:Nat)(d:n<18446744073709551616)(w:World)(h:Hp)(g:G w h):CV 73 #[nv n] w h (.tuple #[mV n,.bool true]):=by
 have a:=sS g;refine go Tryz.func73 [(0,nv n)] rfl (aD (lA 1 25 (nc n) a (fun b w2 e a=>lL a aE (ag (ab a [.v (qP b 1),.o (.string (hi n)) 0 1 1] (lV 6 qF ?_ (hr:=rb kR (Fi (d7 d)))))))));exact am (cK (ab a [.v (pB b),.o (mV (n%18446744073709551616)) 0 0 1,.c,.c] (ah a [] (.tuple #[mV (n%18446744073709551616),qT]) (by rw[yN d]))))
theorem x6 (n:Nat)(c:18446744073709551616<=n)(w:World)(h:Hp)(g:G w h):CV 73 #[nv n] w h (.tuple #[uV 0,.bool false]):=by
 have a:=sS g;refine go Tryz.func73 [(0,nv n)] rfl (aD (lA 1 25 (nc n) a (fun b w2 d a=>lL a aE (ag (ab a [.v (qP b 1),.o (.string (hi n)) 0 1 1] (lV 6 qT ?_ (hr:=rb kR (FJ (em c)))))))));exact ar (ab a aE (ah a [] (.tuple #[uV 0,qF]) rfl))
theorem Cn (a b:Nat)(w:World)(h:Hp)(g:G w h):CV 106 #[mV a,mV b] w h (iV (bP a b)):=by
 have c:=sS g;refine go Tryz.func106 [(0,mV a),(1,mV b)] rfl (ab c ae (ag (kZ (ab c aE ?_))));cases d:(decide ((a:Int)<(b:Int)))
 .
  have f:=oF d;refine lB 8 d (lL c ae (am (ab c aE ?_)));cases e:(decide ((b:Int)<(a:Int)))
  .
   have i:=oF e;exact lB 12 e (lL c ae (am (cK (ab c ae (ah c [] (iV 0) (by rw[gT oM]))))))
  have i:=oT e;exact lB 12 e (lL c ae (ar (ab c ae (ah c [] (iV 1) (by rw[eD oM])))))
 have f:=oT d;exact lB 8 d (lL c ae (ar (ab c ae (ah c [] (iV (-1)) (by rw[dh oM])))))
theorem Dq (n:Nat)(c:n<18446744073709551616)(w:World)(h:Hp)(g:G w h):CV 66 #[nv n] w h (nV (nb n)):=by
 have a:=sS g;refine go Tryz.func66 [(0,nv n)] rfl (aD (lA 1 25 (nc n) a (fun b w2 e a=>lL a ae (ag (ab a [.v (qP b 1),.o (.string (hi n)) 0 1 1] (lV 5 qT ?_ (hr:=rb kR (iR (d7 c)))))))));exact ar (ab a [.v (pB b),.o (mV (n%18446744073709551616)) 0 0 1] (au 8 a (tZ (n%18446744073709551616) wM _ _ a.g) (fun d f a=>lL a ae (ah a [] (nV (nb (n%18446744073709551616))) (by rw[yN c])))))
theorem DE (n:Nat)(e:18446744073709551616<=n)(F:(wds n).length<=1000000000)(w:World)(h:Hp)(g:G w h):CV 66 #[nv n] w h (nV (nb n)):=by
 have a:=sS g;have hz:=gW n;have u:=ct e;refine go Tryz.func66 [(0,nv n)] rfl (aD (lA 1 25 (nc n) a (fun b w2 B a=>lL a ae (ag (ab a [.v (qP b 1),.o (.string (hi n)) 0 1 1] (lV 5 qF ?_ (hr:=rb kR (g8 (em e)))))))));refine am (cK (cQ (cR 14 [] mixed a ai ?_)));refine eV 0 9 (qP b 1) (eO 1 10 [(0,1,1)] (.string (hi n)) a (eV 2 11 (nV ((hi n).size)) (lr 3 12 (8*((hi n).size:Nat)) (8*(hi n).size) (eV 4 13 (qP b 1) (eO 5 14 [(0,1,1)] (.string (hi n)) a (eV 6 15 (qP b 1) (eO 7 16 [(0,1,1)] (.string (hi n)) a (eV 8 17 (nV ((hi n).size)) (lr 9 18 (((hi n).size:Nat)-8) (8*((wds n).length-2)) (eV 10 19 (.string ((hi n).extract (8*((wds n).length-2):Nat) (hi n).size)) ?_ (hv:=fun _=>n5 (tx:=9) (x:=.tmp 14) (i:=.tmp 18) (k:=.i64) (s:=hi n) (n:=(8*((wds n).length-2):Nat)) (j:=((8*((wds n).length-2):Nat):Int)) kR kR kR kR oM oM _)))))))))));refine af 11 20 a (fun _ _ a=>pj ((hi n).extract (8*((wds n).length-2):Nat) (hi n).size) (by rw[gK];omega) _ _ a.g) (fun D C a=>af 12 21 a (fun _ _ a=>tZ (wv ((hi n).extract (8*((wds n).length-2):Nat) (hi n).size):Nat) wM _ _ a.g) (fun p l a=>?_));have d:=it n ((wds n).length-2) oM;rw[show (wds n).length-2+1=(wds n).length-1 by omega] at d
 have c:=ww (n:=n) oM;have f:nb (wv ((hi n).extract (8*((wds n).length-2)) (hi n).size))<=64:=kP (k:=64) (Cj _);rw[<-d] at c
 exact lr 13 22 ((8*(hi n).size:Nat)+(nb (wv ((hi n).extract (8*((wds n).length-2):Nat) (hi n).size):Nat):Nat)) (nb n) (bA a (fun z y a=>tV 14 2 (nV (nb n)) (tN (kX (a.ret [] (nV (nb n)) rfl)))))
theorem ff (n:Nat)(a:(wds n).length<=1000000000)(w:World)(h:Hp)(g:G w h):CV 66 #[nv n] w h (nV (nb n)):=by
 rcases ep n 18446744073709551616 with hs|hs
 ·exact Dq n hs w h g
 ·exact DE n hs a w h g
theorem kN (a b:Nat)(V:(wds a).length<=1000000000)(S:(wds b).length<=1000000000)(w:World)(h:Hp)(g:G w h):CV 68 #[nv a,nv b] w h (iV (bP a b)):=by
 have c:=sS g;have Y:=gW a;have U:=gW b;refine go Tryz.func68 [(0,nv a),(1,nv b)] rfl (aD (lA 2 25 (nc a) c (fun f w2 h3 c=>lA 3 25 (nc b) c (fun l w5 K c=>lL c ae (ag (ab c [.v (qP f 1),.o (.string (hi a)) 1 1 1,.v (nV ((hi a).size)),.v (qP l 1),.o (.string (hi b)) 0 1 1,.v (nV ((hi b).size))] ?_))))));cases d:((((hi a).size:Nat):Int) != (((hi b).size:Nat):Int))
 .
  have p:=aI d;refine lB 14 d (am (cK (cQ (ab c [.v (qP f 1),.o (.string (hi a)) 1 1 1,.v (nV ((hi a).size))] (lV 25 (iV (8*(((wds a).length-1:Nat):Int)-8)) ?_ (hr:=rS ((((hi a).size:Nat)-8)) kR ((fW oM oM).trans oM)))))));refine lL c ae (a7 ?_);refine bY _ (CG.loop (fun I Γ Q=>∃ (m:Nat)(h_:Hp),I=m/\Γ=[(2,pB f),(3,pB l),(5,iV (8*(m:Int)-8))]/\SS w h Q h_ [⟨l,25,nc b⟩,⟨f,25,nc a⟩] [] []/\m<=(wds a).length-1/\(wds a).length-1=(wds b).length-1/\(wds a).drop (m+1)=(wds b).drop (m+1)) _ ⟨(wds a).length-1,K,rfl,rfl,c.to _ _,nR _,oM,(by rw[Ii oM,Ii oM])⟩ ?_);rintro _ _ w8 ⟨m,h9,J,rfl,c,hm,u,e⟩;refine cQ (ab c ae ?_);cases B:(decide ((0:Int)<=(8*(m:Int)-8:Int)))
  .
   have O:=oF B;refine lB 27 B (am (CG.exit ?_))
   show CG _ _ _ _ _ _ _ _
   exact ab c [.v (pB f),.o (mV (a%18446744073709551616)) 1 0 1,.v (pB l),.o (mV (b%18446744073709551616)) 0 0 1] (au 50 c (Cn (a%18446744073709551616) (b%18446744073709551616) _ _ c.g) (fun _ _ c=>lL c ae (ah c [] (iV (bP (a%18446744073709551616) (b%18446744073709551616))) (by rw[oy (a:=a) (b:=b) oM (by have F:m=0:=oM;rw[F] at e;exact e)]))))
  have O:=oT B;refine lB 27 B (ar (cK (cQ (kZ (cQ ?_)))));have C:=c;refine B5 10 [] [] mixed c ai (eV 0 30 (qP f 1) (eO 1 31 [(1,1,1)] (.string (hi a)) c (eV 2 32 (iV (8*(m:Int)-8)) (eV 3 33 (.string ((hi a).extract (8*(m-1)) (hi a).size)) ?_ (hv:=fun _=>n5 (tx:=9) (x:=.tmp 31) (i:=.tmp 32) (k:=.i64) (s:=hi a) (n:=8*(m-1)) (j:=(8*(m:Int)-8:Int)) kR kR kR kR oM oM _)))));refine eV 5 35 (qP l 1) (wP 6 36 [(0,1,1)] (.string (hi b)) C c (eV 7 37 (iV (8*(m:Int)-8)) (eV 8 38 (.string ((hi b).extract (8*(m-1)) (hi b).size)) ?_ (hv:=fun _=>n5 (tx:=9) (x:=.tmp 36) (i:=.tmp 37) (k:=.i64) (s:=hi b) (n:=8*(m-1)) (j:=(8*(m:Int)-8:Int)) kR kR kR kR oM oM _))));refine af 4 34 c (fun _ _ c=>pj ((hi a).extract (8*(m-1)) (hi a).size) (by rw[gK];omega) _ _ c.g) (fun _ _ c=>af 9 39 c (fun _ _ c=>pj ((hi b).extract (8*(m-1)) (hi b).size) (by rw[gK];omega) _ _ c.g) (fun _ _ c=>bA c (fun _ W c=>tV 10 6 (mV (wv ((hi a).extract (8*(m-1)) (hi a).size))) (tV 11 7 (mV (wv ((hi b).extract (8*(m-1)) (hi b).size))) (tM ?_)))));have H:=it a (m-1) oM;have D:=it b (m-1) oM;rw[show m-1+1=m by omega] at H D
  refine lL c aE ?_;cases z:(((wv ((hi a).extract (8*(m-1)) (hi a).size):Nat):Int) != ((wv ((hi b).extract (8*(m-1)) (hi b).size):Nat):Int))
  .
   have M:=aI z;refine lB 42 z (am (cK (kQ (lL c ae (lV 29 (iV (8*((m-1:Nat):Int)-8)) ?_ (hr:=rS (((8*(m:Int)-8)-8)) kR ((fW oM oM).trans oM)))))));refine lL c ae (lD ?_);intro Z L;refine ⟨_,_,?_,⟨m-1,W,rfl,rfl,c.to _ _,oM,u,(by rw[show m-1+1=m by omega];exact eJ oM oM e oM)⟩,L.to _ kR⟩
   omega
  have M:=aU z;exact lB 42 z (ar (ab c aE (au 45 c (Cn (wv ((hi a).extract (8*(m-1)) (hi a).size):Nat) (wv ((hi b).extract (8*(m-1)) (hi b).size):Nat) _ _ c.g) (fun _ _ c=>lL c ae (ah c [] (iV (bP (wv ((hi a).extract (8*(m-1)) (hi a).size):Nat) (wv ((hi b).extract (8*(m-1)) (hi b).size):Nat))) (by rw[it a (m-1) oM,it b (m-1) oM,show m-1+1=m by omega];exact congrArg (Value.int .i64) (jP oM oM e oM)))))))
 have p:=aU d;refine lB 14 d (ar (cQ (ab c [.v (qP f 1),.o (.string (hi a)) 1 1 1,.v (nV ((hi a).size)),.v (qP l 1),.o (.string (hi b)) 0 1 1,.v (nV ((hi b).size))] ?_)));cases y:(decide ((((hi a).size:Nat):Int)<(((hi b).size:Nat):Int)))
 .
  have X:=oF y;exact lB 21 y (am (cK (ab c ae (ah c [] (iV 1) (by rw[eD (fx oM)])))))
 have X:=oT y;exact lB 21 y (ar (ab c ae (ah c [] (iV (-1)) (by rw[dh (fx oM)]))))
theorem wU (hi lo y:Nat)(hlt:hi<y)(hy:y<18446744073709551616)(hlo:lo<18446744073709551616)(w:World)(h:Hp)(g:G w h):CR 139 #[mV hi,mV lo,mV y] w h (fun v _=>∃ q r:Nat,v=.tuple #[uV q,uV r]/\hi*18446744073709551616+lo=y*q+r/\r<y/\q<18446744073709551616):=by
 have c:=sS g;refine go Tryz.func139 [(0,mV hi),(1,mV lo),(2,mV y)] rfl (ab c aE (ag (ab c ae ?_)));have V:((y:Int) == (0:Int))=false:=fY oM;have bn:=aq V;refine lB 20 V (am (cK (cQ (ab c aE ?_))));have ⟨hb2,bm⟩:=dF (p:=(y:Int)<=(hi:Int)) oM;refine lB 24 hb2 (am (cK (cQ (ab c ae ?_))));cases B:((hi:Int) == (0:Int))
 .
  have Q:=aq B;refine lB 27 B (am (cK (ab c ae (au 35 c (Ci y wM _ _ c.g) (fun w4 h5 c=>?_)))));obtain ⟨s,hsd⟩:∃ e,e=64-nb y:=⟨_,rfl⟩;refine lV 36 (mV s) ?_ (hr:=ay (ay (n:=IntKind.wrap .u64 ((64-nb y:Nat):Int)) kR (bF oM oM)) (by rw[hsd]));refine lL c ae (aK (lL c aE ?_));obtain ⟨Y,hY⟩:∃ e,e=y*2^s:=⟨_,rfl⟩;have hn:=qK (y:=y) oM oM;rw[<-hsd,<-hY] at hn
  refine lV 39 (mV Y) ?_ (hr:=ay (gE (t:=23) (u:=157) (x:=.tmp 37) (y:=.tmp 38) (ky:=.u64) (a:=y) (n:=s) kR kR kR _) (by rw[<-hY,yN hn.2]));refine lL c ae (aK (lL c ae ?_));obtain ⟨y1,hy1⟩:∃ e,e=Y/4294967296:=⟨_,rfl⟩;refine lV 41 (mV y1) ?_ (hr:=ay (ay (n:=Ij (Y:Int) 4294967296) kR (j6 _ 4294967296)) (by rw[hy1]));refine lL c ae (aK (lL c ae ?_));obtain ⟨y0,hy0⟩:∃ e,e=Y%4294967296:=⟨_,rfl⟩;refine lV 43 (mV y0) ?_ (hr:=ay (ur (t:=23) (u:=23) (x:=.tmp 42) (y:=.const (uV 4294967295)) (a:=Y) (m:=4294967295) 32 kR kR kR oM kD _) (by rw[hy0]));refine lL c ae (aK (lL c aE ?_));have hhi:hi*2^s<Y:=by rw[hY];exact H7 hlt (Aw s)
  obtain ⟨J,hsl⟩:=Bv (hi:=hi) (lo:=lo) (s:=s) oM hlo;have hdl:=zy lo (2^(64-s));have d:Y=y1*4294967296+y0:=by omega
  refine lV 46 (mV (hi*2^s)) ?_ (hr:=ay (gE (t:=23) (u:=157) (x:=.tmp 44) (y:=.tmp 45) (ky:=.u64) (a:=hi) (n:=s) kR kR kR _) (by rw[yN oM]));refine lL c aE (lV 49 (mV (64-s)) ?_ (hr:=rU (((64:Int)-(s:Int))) kR (fQ 64 s oM oM)));refine lV 50 (mV (lo/2^(64-s))) ?_ (hr:=fZ (t:=23) (u:=157) (x:=.tmp 47) (y:=.tmp 49) (ky:=.u64) (a:=lo) (n:=(64-s)) kR kR kR oM _);obtain ⟨u32,hu32⟩:∃ e,e=hi*2^s+lo/2^(64-s):=⟨_,rfl⟩;rw[<-hu32] at J
  have D:u32<Y:=by
    have e2:(hi+1)*2^s<=y*2^s:=yI _ hlt;rw[Gx,Hy,<-hY] at e2
    omega
  refine lV 51 (mV u32) ?_ (hr:=ay (i9 (t:=23) (u:=23) (x:=.tmp 46) (y:=.tmp 50) (a:=(hi*2^s)) (b:=(lo/2^(64-s))) kR kR kR oM oM _) (by rw[hu32,Nat.or_comm,gG s hsl,yC]));refine lL c ae (aK (lL c aE ?_));obtain ⟨u10,hu10⟩:∃ e,e=lo*2^s%18446744073709551616:=⟨_,rfl⟩;rw[<-hu10] at J
  have bd:u10<18446744073709551616:=by omega
  refine lV 54 (mV u10) ?_ (hr:=ay (gE (t:=23) (u:=157) (x:=.tmp 52) (y:=.tmp 53) (ky:=.u64) (a:=lo) (n:=s) kR kR kR _) (by rw[hu10]));refine lL c ae (aK (lL c ae ?_));obtain ⟨u1,hu1⟩:∃ e,e=u10/4294967296:=⟨_,rfl⟩;refine lV 56 (mV u1) ?_ (hr:=ay (ay (n:=Ij (u10:Int) 4294967296) kR (j6 _ 4294967296)) (by rw[hu1]));refine lL c ae (lN (bY [(2,mV Y),(6,uV 0),(7,uV 0),(8,mV s),(9,mV y1),(10,mV y0),(11,mV u32),(12,mV u10),(13,mV u1)] ?_));refine ab c ae ?_;obtain ⟨u0,hu0⟩:∃ e,e=u10%4294967296:=⟨_,rfl⟩;refine lV 58 (mV u0) ?_ (hr:=ay (ur (t:=23) (u:=23) (x:=.tmp 57) (y:=.const (uV 4294967295)) (a:=u10) (m:=4294967295) 32 kR kR kR oM kD _) (by rw[hu0]));refine lL c ae (aK (lL c aE ?_));have I:=kT (Y:=Y) (y1:=y1) (y0:=y0) (u:=u32) (u1:=u1) d oM oM oM D;have S:=mB (u:=u32) (y1:=y1) oM;have hM0:=HZ u32 y1;obtain ⟨qa,hqa⟩:∃ e,e=u32/y1:=⟨_,rfl⟩;rw[<-hqa] at I S hM0
  refine lV 61 (mV qa) ?_ (hr:=ay (ay (dl (t:=23) (u:=23) (x:=.tmp 59) (y:=.tmp 60) (k:=.u64) (a:=(u32:Int)) (b:=(y1:Int)) kR kR kR oM _) (kU u32 y1 oM)) (by rw[hqa]));refine lL c ae (aK (lL c dG (lV 65 (mV (qa*y1)) ?_ (hr:=rU (((qa:Int)*(y1:Int))) kR (kV qa y1 oM)))));obtain ⟨ra,hra⟩:∃ e,e=u32-qa*y1:=⟨_,rfl⟩;rw[<-hra] at I S
  refine lV 66 (mV ra) ?_ (hr:=ay (ay (n:=IntKind.wrap .u64 ((u32:Int)-((qa*y1:Nat):Int))) kR (fQ u32 (qa*y1) oM oM)) (by rw[hra]));refine lL c ae (lN (CG.join (fun Γ H=>∃ (j:Nat)(h_:Hp),Γ=[(2,mV Y),(6,uV 0),(7,uV 0),(8,mV s),(9,mV y1),(10,mV y0),(11,mV u32),(13,mV u1),(14,mV u0),(15,mV j)]/\SS w h H h_ [] [] []/\j=(u32*4294967296+u1)/Y/\(u32*4294967296+u1)-j*Y=(u32*4294967296+u1)%Y/\j*Y<=u32*4294967296+u1) ?_ ?_))
  .
   refine kZ ?_;refine bY _ (CG.loop (fun L Γ H=>∃ (q:Nat)(r:Nat)(h_:Hp),L=q/\Γ=[(2,mV Y),(6,uV 0),(7,uV 0),(8,mV s),(9,mV y1),(10,mV y0),(11,mV u32),(13,mV u1),(14,mV u0),(15,mV q),(16,mV r)]/\SS w h H h_ [] [] []/\HalfQ Y y1 y0 u32 u1 q r/\r<4294967296) _ ⟨qa,ra,h5,rfl,rfl,c.to _ _,I,oM⟩ ?_);rintro _ _ w6 ⟨q,r,h7,hm8,rfl,c,O,hr⟩;have bk:=O.qb;refine cQ (ab c ae ?_);cases C:(decide ((4294967296:Int)<=(q:Int)))
   .
    have bb:=oF C;refine lB 68 C (lL c dG (lV 72 (mV (q*y0)) ?_ (hr:=rU (((q:Int)*(y0:Int))) kR (kV q y0 (Cf oM oM)))));refine lL c ae (lV 74 (mV (4294967296*r)) ?_ (hr:=rU (((4294967296:Int)*(r:Int))) kR (kV 4294967296 r oM)));refine lL c ae (lV 76 (mV ((4294967296*r)+u1)) ?_ (hr:=rU ((((4294967296*r:Nat):Int)+(u1:Int))) kR (hJ (4294967296*r) u1 oM)));cases za:(decide ((((4294967296*r)+u1:Nat):Int)<((q*y0:Nat):Int)))
    .
     have zj:=oF za;refine lB 77 za (lL c [.v qF] (am (CG.exit ?_)));intro F f;exact ⟨_,⟨q,h7,rfl,c.to _ _,(by first|exact O.fin d oM|exact i.brk d oM oM (by have:=i.qb;omega))⟩,f.to _ kR⟩
    have zj:=oT za;refine lB 77 za (lL c [.v qT] (ar (cK (kZ (ab c ae ?_)))));have hq1:0<q:=by first|omega|exact dB (show 4294967296*r+u1<q*y0 by omega)
    have i:=O.dec d oM D (by first|exact .inl oM|exact .inr oM);refine lV 80 (mV (q-1)) ?_ (hr:=rU (((q:Int)-(1:Int))) kR (fQ q 1 oM oM));refine lL c ae (aK (lL c aE (lV 83 (mV (r+y1)) ?_ (hr:=rU (((r:Int)+(y1:Int))) kR (hJ r y1 oM)))));refine lL c ae (aK (lL c ae ?_));cases zb:(decide ((4294967296:Int)<=((r+y1:Nat):Int)))
    .
     have zk:=oF zb;refine lB 85 zb (am (CG.skip ?_));intro F f;refine ⟨_,_,?_,⟨q-1,r+y1,h7,rfl,rfl,c.to _ _,i,oM⟩,f.to _ kR⟩
     omega
    have zk:=oT zb;refine lB 85 zb (ar (CG.exit ?_));intro F f;exact ⟨_,⟨(q-1),h7,rfl,c.to _ _,(by first|exact O.fin d oM|exact i.brk d oM oM (by have:=i.qb;omega))⟩,f.to _ kR⟩
   have bb:=oT C;refine lB 68 C (lL c ae (lG 70 ?_));refine lG 71 (lG 72 (lG 73 (lG 74 (lG 75 (lG 76 (lG 77 (lL c [.v qT] (ar (cK (kZ (ab c ae ?_)))))))))));have hq1:0<q:=by first|omega|exact dB (show 4294967296*r+u1<q*y0 by omega)
   have i:=O.dec d oM D (by first|exact .inl oM|exact .inr oM);refine lV 80 (mV (q-1)) ?_ (hr:=rU (((q:Int)-(1:Int))) kR (fQ q 1 oM oM));refine lL c ae (aK (lL c aE (lV 83 (mV (r+y1)) ?_ (hr:=rU (((r:Int)+(y1:Int))) kR (hJ r y1 oM)))));refine lL c ae (aK (lL c ae ?_));cases zc:(decide ((4294967296:Int)<=((r+y1:Nat):Int)))
   .
    have zl:=oF zc;refine lB 85 zc (am (CG.skip ?_));intro F f;refine ⟨_,_,?_,⟨q-1,r+y1,h7,rfl,rfl,c.to _ _,i,oM⟩,f.to _ kR⟩
    omega
   have zl:=oT zc;refine lB 85 zc (ar (CG.exit ?_));intro F f;exact ⟨_,⟨(q-1),h7,rfl,c.to _ _,(by first|exact O.fin d oM|exact i.brk d oM oM (by have:=i.qb;omega))⟩,f.to _ kR⟩
  rintro _ _ ⟨j,zq,rfl,c,hF⟩;refine aD ?_;obtain ⟨W,hF2,hF3⟩:=hF;have hF4:=oZ (u1:=u1) D oM;rw[<-W] at hF4
  refine lL c ae (lV 87 (mV ((u32*4294967296)%18446744073709551616)) ?_ (hr:=rU (((u32:Int)*(4294967296:Int))) kR (kh u32 4294967296)));refine lL c ae (lV 89 (mV ((((u32*4294967296)%18446744073709551616)+u1)%18446744073709551616)) ?_ (hr:=rU (((((u32*4294967296)%18446744073709551616:Nat):Int)+(u1:Int))) kR (xa ((u32*4294967296)%18446744073709551616) u1)));refine lL c aE (lV 92 (mV ((j*Y)%18446744073709551616)) ?_ (hr:=rU (((j:Int)*(Y:Int))) kR (kh j Y)));obtain ⟨r1,hr1⟩:∃ e,e=(u32*4294967296+u1)%Y:=⟨_,rfl⟩;have z:r1<Y:=by rw[hr1];exact yO _ oM
  refine lV 93 (mV r1) ?_ (hr:=ay (ay (n:=IntKind.wrap .u64 ((((((u32*4294967296)%18446744073709551616)+u1)%18446744073709551616:Nat):Int)-(((j*Y)%18446744073709551616:Nat):Int))) kR (Ca ((((u32*4294967296)%18446744073709551616)+u1)%18446744073709551616:Nat) ((j*Y)%18446744073709551616) oM)) (by rw[mc hF3 (hF2.trans hr1.symm) oM]));refine lL c ae (aK (lL c aE ?_));have K:=kT (Y:=Y) (y1:=y1) (y0:=y0) (u:=r1) (u1:=u0) d oM oM oM z;have U:=mB (u:=r1) (y1:=y1) oM;have hL0:=HZ r1 y1;obtain ⟨qb,hqb⟩:∃ e,e=r1/y1:=⟨_,rfl⟩;rw[<-hqb] at K U hL0
  refine lV 96 (mV qb) ?_ (hr:=ay (ay (dl (t:=23) (u:=23) (x:=.tmp 94) (y:=.tmp 95) (k:=.u64) (a:=(r1:Int)) (b:=(y1:Int)) kR kR kR oM _) (kU r1 y1 oM)) (by rw[hqb]));refine lL c ae (aK (lL c dG (lV 100 (mV (qb*y1)) ?_ (hr:=rU (((qb:Int)*(y1:Int))) kR (kV qb y1 oM)))));obtain ⟨rb,hrb⟩:∃ e,e=r1-qb*y1:=⟨_,rfl⟩;rw[<-hrb] at K U
  refine lV 101 (mV rb) ?_ (hr:=ay (ay (n:=IntKind.wrap .u64 ((r1:Int)-((qb*y1:Nat):Int))) kR (fQ r1 (qb*y1) oM oM)) (by rw[hrb]));refine lL c ae (lN (CG.join (fun Γ H=>∃ (o:Nat)(h_:Hp),Γ=[(2,mV Y),(6,uV 0),(7,uV 0),(8,mV s),(14,mV u0),(15,mV j),(17,mV r1),(18,mV o)]/\SS w h H h_ [] [] []/\o=(r1*4294967296+u0)/Y/\(r1*4294967296+u0)-o*Y=(r1*4294967296+u0)%Y/\o*Y<=r1*4294967296+u0) ?_ ?_))
  .
   refine kZ ?_;refine bY _ (CG.loop (fun L Γ H=>∃ (p:Nat)(t:Nat)(h_:Hp),L=p/\Γ=[(2,mV Y),(6,uV 0),(7,uV 0),(8,mV s),(9,mV y1),(10,mV y0),(14,mV u0),(15,mV j),(17,mV r1),(18,mV p),(16,mV t)]/\SS w h H h_ [] [] []/\HalfQ Y y1 y0 r1 u0 p t/\t<4294967296) _ ⟨qb,rb,zq,rfl,rfl,c.to _ _,K,oM⟩ ?_);rintro _ _ _ ⟨p,t,Z,bf,rfl,c,M,ht⟩;have bl:=M.qb;refine cQ (ab c ae ?_);cases zd:(decide ((4294967296:Int)<=(p:Int)))
   .
    have zm:=oF zd;refine lB 103 zd (lL c dG (lV 107 (mV (p*y0)) ?_ (hr:=rU (((p:Int)*(y0:Int))) kR (kV p y0 (Cf oM oM)))));refine lL c ae (lV 109 (mV (4294967296*t)) ?_ (hr:=rU (((4294967296:Int)*(t:Int))) kR (kV 4294967296 t oM)));refine lL c ae (lV 111 (mV ((4294967296*t)+u0)) ?_ (hr:=rU ((((4294967296*t:Nat):Int)+(u0:Int))) kR (hJ (4294967296*t) u0 oM)));cases ze:(decide ((((4294967296*t)+u0:Nat):Int)<((p*y0:Nat):Int)))
    .
     have zn:=oF ze;refine lB 112 ze (lL c [.v qF] (am (CG.exit ?_)));intro F f;exact ⟨_,⟨p,Z,rfl,c.to _ _,(by first|exact M.fin d oM|exact l.brk d oM oM (by have:=l.qb;omega))⟩,f.to _ kR⟩
    have zn:=oT ze;refine lB 112 ze (lL c [.v qT] (ar (cK (kZ (ab c ae ?_)))));have hq2:0<p:=by first|omega|exact dB (show 4294967296*t+u0<p*y0 by omega)
    have l:=M.dec d oM z (by first|exact .inl oM|exact .inr oM);refine lV 115 (mV (p-1)) ?_ (hr:=rU (((p:Int)-(1:Int))) kR (fQ p 1 oM oM));refine lL c ae (aK (lL c aE (lV 118 (mV (t+y1)) ?_ (hr:=rU (((t:Int)+(y1:Int))) kR (hJ t y1 oM)))));refine lL c ae (aK (lL c ae ?_));cases zf:(decide ((4294967296:Int)<=((t+y1:Nat):Int)))
    .
     have zo:=oF zf;refine lB 120 zf (am (CG.skip ?_));intro F f;refine ⟨_,_,?_,⟨p-1,t+y1,Z,rfl,rfl,c.to _ _,l,oM⟩,f.to _ kR⟩
     omega
    have zo:=oT zf;refine lB 120 zf (ar (CG.exit ?_));intro F f;exact ⟨_,⟨(p-1),Z,rfl,c.to _ _,(by first|exact M.fin d oM|exact l.brk d oM oM (by have:=l.qb;omega))⟩,f.to _ kR⟩
   have zm:=oT zd;refine lB 103 zd (lL c ae (lG 105 ?_));refine lG 106 (lG 107 (lG 108 (lG 109 (lG 110 (lG 111 (lG 112 (lL c [.v qT] (ar (cK (kZ (ab c ae ?_)))))))))));have hq2:0<p:=by first|omega|exact dB (show 4294967296*t+u0<p*y0 by omega)
   have l:=M.dec d oM z (by first|exact .inl oM|exact .inr oM);refine lV 115 (mV (p-1)) ?_ (hr:=rU (((p:Int)-(1:Int))) kR (fQ p 1 oM oM));refine lL c ae (aK (lL c aE (lV 118 (mV (t+y1)) ?_ (hr:=rU (((t:Int)+(y1:Int))) kR (hJ t y1 oM)))));refine lL c ae (aK (lL c ae ?_));cases zg:(decide ((4294967296:Int)<=((t+y1:Nat):Int)))
   .
    have zp:=oF zg;refine lB 120 zg (am (CG.skip ?_));intro F f;refine ⟨_,_,?_,⟨p-1,t+y1,Z,rfl,rfl,c.to _ _,l,oM⟩,f.to _ kR⟩
    omega
   have zp:=oT zg;refine lB 120 zg (ar (CG.exit ?_));intro F f;exact ⟨_,⟨(p-1),Z,rfl,c.to _ _,(by first|exact M.fin d oM|exact l.brk d oM oM (by have:=l.qb;omega))⟩,f.to _ kR⟩
  rintro _ _ ⟨o,_,rfl,c,hE⟩;refine aD ?_;obtain ⟨X,hE2,hE3⟩:=hE;have hE4:=oZ (u1:=u0) z oM;rw[<-X] at hE4
  refine lL c ae (lV 122 (mV (j*4294967296)) ?_ (hr:=rU (((j:Int)*(4294967296:Int))) kR (kV j 4294967296 oM)));refine lL c ae (lV 124 (mV ((j*4294967296)+o)) ?_ (hr:=rU ((((j*4294967296:Nat):Int)+(o:Int))) kR (hJ (j*4294967296) o oM)));refine lL c ae (lV 126 (mV ((r1*4294967296)%18446744073709551616)) ?_ (hr:=rU (((r1:Int)*(4294967296:Int))) kR (kh r1 4294967296)));refine lL c ae (lV 128 (mV ((((r1*4294967296)%18446744073709551616)+u0)%18446744073709551616)) ?_ (hr:=rU (((((r1*4294967296)%18446744073709551616:Nat):Int)+(u0:Int))) kR (xa ((r1*4294967296)%18446744073709551616) u0)));refine lL c aE (lV 131 (mV ((o*Y)%18446744073709551616)) ?_ (hr:=rU (((o:Int)*(Y:Int))) kR (kh o Y)));obtain ⟨R,hR⟩:∃ e,e=(r1*4294967296+u0)%Y:=⟨_,rfl⟩;have hRY:R<Y:=by rw[hR];exact yO _ oM
  refine lV 132 (mV R) ?_ (hr:=ay (ay (n:=IntKind.wrap .u64 ((((((r1*4294967296)%18446744073709551616)+u0)%18446744073709551616:Nat):Int)-(((o*Y)%18446744073709551616:Nat):Int))) kR (Ca ((((r1*4294967296)%18446744073709551616)+u0)%18446744073709551616:Nat) ((o*Y)%18446744073709551616) oM)) (by rw[mc hE3 (hE2.trans hR.symm) oM]));refine lL c ae (lV 134 (mV (R/2^s)) ?_ (hr:=fZ (t:=23) (u:=157) (x:=.tmp 132) (y:=.tmp 133) (ky:=.u64) (a:=R) (n:=s) kR kR kR oM _));refine lL c aE (lN (kX ?_));obtain ⟨hB1,hB2⟩:=sO (A:=hi*18446744073709551616+lo) (y:=y) hY J (show u10=u1*4294967296+u0 by omega) oM W hr1 X hR;exact c.ret [] (.tuple #[mV ((j*4294967296)+o),mV (R/2^s)]) (⟨_,_,rfl,hB1,hB2,by omega⟩)
 have Q:=eq_of_beq B;refine lB 27 B (ar (cQ (cR 6 [] mixed c ai ?_)));refine eV 0 28 (mV lo) (eV 1 29 (mV y) (eV 2 30 (mV (lo/y)) ?_ (hv:=fun _=>ay (dl (t:=23) (u:=23) (x:=.tmp 28) (y:=.tmp 29) (k:=.u64) (a:=(lo:Int)) (b:=(y:Int)) kR kR kR oM _) (kU lo y oM))));refine eV 3 31 (mV lo) (eV 4 32 (mV y) (eV 5 33 (mV (lo%y)) ?_ (hv:=fun _=>ay (fC (t:=23) (u:=23) (x:=.tmp 31) (y:=.tmp 32) (k:=.u64) (a:=(lo:Int)) (b:=(y:Int)) kR kR kR oM _) (dg lo y))));refine bA c (fun _ _ c=>tV 6 6 (mV (lo/y)) (tV 7 7 (mV (lo%y)) (tN (kX ?_))));have hdm:=Hz lo y;have hml:=yO lo (show 0<y by omega);have bq:=zy lo y;have hh0:hi=0:=by omega
 subst hh0;exact c.ret [] (.tuple #[mV (lo/y),mV (lo%y)]) (⟨lo/y,lo%y,rfl,by rw[yE,yH];exact hdm.symm,hml,by omega⟩)
def xA (h1:Hp)(v:Value)(m:Nat)(Q:List Nat->Prop):Prop:=∃ A c,∃ z:List Nat,v=.slice A z.length c/\z.length<=c/\z.length=m/\Wd z/\Q z/\SlO 1 aj 0 h1 A z
theorem Wd.set {l:List Nat}(h:Wd l)(k:Nat){x:Nat}(a:x<18446744073709551616):Wd (l.set k x):=Dg.set h k a
theorem Wd.rep (n:Nat):Wd (yL n 0):=Dg.rep kD
theorem o5 {l:List Nat}{k j x:Nat}(hk:k<l.length)(h:∀ i,j<=i->l.getD i 0=0)(a:k<j):∀ i,j<=i->(l.set k x).getD i 0=0:=fun i hi=>by rw[bv hk,if_neg oM];exact h i hi
theorem Ce (A:Z9)(c:Nat)(x:List Nat)(D:Z9)(d:Nat)(y:List Nat)(hx:Wd x)(hy:Wd y)(hlx:x.length<=1000000000)(hly:y.length<=1000000000)(w:World)(h:Hp)(g:G w h)(hA:SlO 1 aj 0 h A x)(hD:SlO 1 aj 0 h D y):CR 78 #[.slice A x.length c,.slice D y.length d] w h (fun v h1=>xA h1 v (x.length+y.length) (fun z=>aA z=aA x*aA y)):=by
 have e:=(((sS g).aS hA).aS hD);refine go Tryz.func78 [(0,qS A x.length c),(1,qS D y.length d)] rfl (ab e ae (aK (lL e [.c,.v (nV x.length),.c,.v (nV y.length)] (bB 19 ((x.length:Nat)+(y.length:Nat)) (x.length+y.length) ?_))));refine lK 20 23 (x.length+y.length) 1 8 (uV 0) aj 0 e (fun B w2 h3 e=>?_);have hl4:(yL (x.length+y.length) 0).length=(x.length+y.length):=by simp
 refine lL e ae (ag (ab e [.c,.v (nV x.length),.c] (a7 ?_)));refine bY _ (CG.loop (fun O Γ w_=>∃ (i:Nat)(l:List Nat)(C:Hp),O=x.length-i/\Γ=[(1,qS D y.length d),(4,sZ),(5,qS (sB B) (x.length+y.length) (x.length+y.length)),(21,qS A x.length c),(22,nV x.length),(23,nV i)]/\SS w h w_ C [⟨B,23,(l).flatMap aj⟩] [] [fun C=>SlO 1 aj 0 C D y,fun C=>SlO 1 aj 0 C A x]/\i<=x.length/\l.length=x.length+y.length/\Wd l/\aA l=ak 18446744073709551616 (x.take i)*aA y/\(∀ k,i+y.length<=k->l.getD k 0=0)) _ ⟨0,yL (x.length+y.length) 0,h3,rfl,rfl,e.to _ _,In _,hl4,Wd.rep _,(by show ak _ _=_;rw[fa];simp[ak]),fun k _=>fP⟩ ?_);rintro _ _ w5 ⟨i,l,h6,hm7,rfl,e,hi,M,hW,hv,hz⟩;refine aD ?_;cases J:(decide ((i:Int)<(x.length:Int)))
 .
  have U:=oF J;refine lB 24 J (ag (cD (CG.exit ?_)))
  show CG _ _ _ _ _ _ _ _
  refine ab e aE (lN (kX ?_));have hix:i=x.length:=by omega
  rw[hix,yz] at hv
  obtain ⟨h9,e,V,bk,bf⟩:=e.pub 0;replace e:=(e.to [] []).aS (SlO.of_flat (sz:=1) (f:=aj) (d:=0) (b:=B) (o:=0) (l:=l) (fun _=>rfl) V);exact e.ret [] (qS (sB B) (x.length+y.length) (x.length+y.length)) (⟨sB B,_,l,by rw[M],by omega,M,hW,hv,e.f.1⟩)
 have U:=oT J;refine lB 24 J (ag (bZ (cK (cQ (kZ (ab e ae (lX 26 A x.length c 1 (i:Nat) i ((e.f.2.1).ok oM) ?_)))))));refine lH 27 (mV (x.getD i 0)) e ((e.f.2.1).el i oM) (lL e aE (aK (lL e ae (ag (ab e [.c,.v (nV y.length),.c] (a7 ?_))))));refine bY _ (CG.loop (fun O Γ w_=>∃ (j:Nat)(l2:List Nat)(H:Nat)(C:Hp),O=y.length-j/\Γ=[(1,qS D y.length d),(4,sZ),(5,qS (sB B) (x.length+y.length) (x.length+y.length)),(21,qS A x.length c),(22,nV x.length),(23,nV i),(6,nV i),(7,mV (x.getD i 0)),(28,qS D y.length d),(29,nV y.length),(30,nV j),(8,mV H)]/\SS w h w_ C [⟨B,23,(l2).flatMap aj⟩] [] [fun C=>SlO 1 aj 0 C D y,fun C=>SlO 1 aj 0 C A x]/\j<=y.length/\l2.length=x.length+y.length/\Wd l2/\H<18446744073709551616/\ak 18446744073709551616 l2+18446744073709551616^(i+j)*H=aA l+18446744073709551616^i*(x.getD i 0*ak 18446744073709551616 (y.take j))/\(∀ k,i+y.length<=k->l2.getD k 0=0)) _ ⟨0,l,0,h6,rfl,rfl,e.to _ _,In _,M,hW,by omega,(by show ak _ l+_=ak _ l+_;simp[ak]),hz⟩ ?_);rintro _ _ _ ⟨j,l2,H,zi,bl,rfl,e,hj,K,Q,hc,inv,L⟩;have hlk:=Q.get (i+j);refine aD ?_;cases Z:(decide ((j:Int)<(y.length:Int)))
 .
  have zd:=oF Z;refine lB 31 Z (ag (cD (CG.exit ?_)))
  show CG _ _ _ _ _ _ _ _
  refine kQ (lL e [.c,.c,.c,.v (nV y.length)] (bB 75 ((i:Nat)+(y.length:Nat)) (i+y.length) ?_));refine lL e ae (lX 77 (sB B) (x.length+y.length) (x.length+y.length) 1 (i+y.length:Nat) (i+y.length) rfl ?_);refine lW 0 l2 aj 1 (i+y.length) H e oM (fun _ e=>?_);have zf:((l2).set (i+y.length) H).length=(x.length+y.length):=by rw[Ic];exact K
  replace e:=e.to [⟨B,23,((l2).set (i+y.length) H).flatMap aj⟩] [];refine lN (kQ (bB 78 ((i:Nat)+1) (i+1) ?_));refine lL e ae (lD ?_);intro a_ ka;refine ⟨_,_,?_,⟨i+1,(l2).set (i+y.length) H,zi,rfl,rfl,e.to _ _,oM,zf,(Q.set _ hc),(by have hjy:j=y.length:=oM;rw[hjy] at inv;exact (AO oM inv (L _ oM)).trans (xR hv)),(o5 oM (fun k hk=>L k oM) oM)⟩,ka.to _ kR⟩
  omega
 have zd:=oT Z;refine lB 31 Z (ag (bZ (cK (cQ (kZ (ab e ae (lX 33 D y.length d 1 (j:Nat) j ((e.f.1).ok oM) ?_)))))));refine lH 34 (mV (y.getD j 0)) e ((e.f.1).el j oM) (lL e aE (aK (lL e aE (lC 38 e (ne (x.getD i 0) (y.getD j 0) wM wM _ _ e.g) ?_))));rintro _ _ zj e ⟨p,ze,rfl,b0,b2,bm,b4⟩;have Y:=iI (a:=(x.getD i 0)) (b:=(y.getD j 0)) wM wM;refine lL e [.c,.v (mV p),.v (mV ze),.c,.c] (aK (lL e ll (bB 46 ((i:Nat)+(j:Nat)) (i+j) ?_)));refine lX 47 (sB B) (x.length+y.length) (x.length+y.length) 1 (i+j:Nat) (i+j) rfl (lQ 48 0 l2 aj 1 0 (i+j) (mV ((l2).getD (i+j) 0)) e oM ?_);obtain ⟨I,F,b3,bb,bd,X⟩:=dM ze ((l2).getD (i+j) 0) 0 wM wM oM;refine lV 49 (.tuple #[mV I,mV F]) ?_ (hr:=du kR (X _));refine lL e [.c,.v (mV I),.v (mV F),.c,.c] (aK (lL e aE (lV 54 (mV (p+F)) ?_ (hr:=rU (((p:Int)+(F:Int))) kR (hJ p F oM)))));refine lL e ae (lN (bY [(1,qS D y.length d),(4,sZ),(5,qS (sB B) (x.length+y.length) (x.length+y.length)),(21,qS A x.length c),(22,nV x.length),(23,nV i),(6,nV i),(7,mV (x.getD i 0)),(28,qS D y.length d),(29,nV y.length),(30,nV j),(8,mV H),(9,nV j),(11,mV (p+F)),(13,mV I),(14,mV F)] ?_));refine ab e aE ?_;obtain ⟨u,S,bq,bn,bz,W⟩:=dM I H 0 wM wM oM;refine lV 58 (.tuple #[mV u,mV S]) ?_ (hr:=du kR (W _));refine lL e [.c,.v (mV u),.v (mV S),.c,.c] (lN (kQ (lL e dG (bB 64 ((i:Nat)+(j:Nat)) (i+j) ?_))));refine lL e dG (lV 68 (mV ((p+F)+S)) ?_ (hr:=rU ((((p+F:Nat):Int)+(S:Int))) kR (hJ (p+F) S oM)));refine lX 69 (sB B) (x.length+y.length) (x.length+y.length) 1 (i+j:Nat) (i+j) rfl (lW 0 l2 aj 1 (i+j) u e oM (fun _ e=>?_));have zg:((l2).set (i+j) u).length=(x.length+y.length):=by rw[Ic];exact K
 replace e:=e.to [⟨B,23,((l2).set (i+j) u).flatMap aj⟩] [];refine lL e ae (lN (kQ (bB 70 ((j:Nat)+1) (j+1) ?_)));refine lL e ae (lD ?_);intro a_ ka;refine ⟨_,_,?_,⟨j+1,(l2).set (i+j) u,((p+F)+S),zj,rfl,rfl,e.to _ _,oM,zg,(Q.set _ oM),oM,(om oM inv oM),(o5 oM L oM)⟩,ka.to _ kR⟩
 omega
theorem AX {x:List Nat}(a:Wd x){n:Nat}(h:x.length<=n/64):aA x<2^n:=by
 have h1:=bS a;have c:(18446744073709551616:Nat)^x.length=2^(64*x.length):=by rw[A7]
 have b:(2:Nat)^(64*x.length)<=2^n:=Ay oM oM
 show ak _ x<_
 omega
theorem mA {l:List Nat}{k x:Nat}(hk:k<l.length)(h:∀ i,k<=i->l.getD i 0=0):∀ i,k+1<=i->(l.set k x).getD i 0=0:=fun i hi=>by rw[bv hk,if_neg oM];exact h i oM
theorem wI (A:Z9)(c:Nat)(x:List Nat)(hx:Wd x)(hlx:x.length<=1000000000)(n:Nat)(hn:n<=1000000000)(w:World)(h:Hp)(g:G w h)(hA:SlO 1 aj 0 h A x):CR 141 #[.slice A x.length c,nV n] w h (fun v h1=>xA h1 v (x.length+n/64+1) (fun z=>aA z=aA x*2^n)):=by
 have e:=((sS g).aS hA);refine go Tryz.func141 [(0,qS A x.length c),(1,nV n)] rfl (ab e ae (aK (lL e ae (lV 11 (nV (n/64)) ?_ (hr:=ay (dl (t:=3) (u:=3) (x:=.tmp 10) (y:=.const (iV 64)) (k:=.i64) (a:=(n:Int)) (b:=(64:Int)) kR kR kR oM _) (db n 64 oM))))));refine lL e ae (lV 13 (nV (n%64)) ?_ (hr:=ay (fC (t:=3) (u:=3) (x:=.tmp 12) (y:=.const (iV 64)) (k:=.i64) (a:=(n:Int)) (b:=(64:Int)) kR kR kR oM _) (dg n 64)));refine lV 14 (mV (n%64)) ?_ (hr:=rU (((n%64:Nat):Int)) kR (bF oM oM));refine lL e aE (aK (lL e [.c,.v (nV x.length),.c] (bB 18 ((x.length:Nat)+(n/64:Nat)) (x.length+(n/64)) ?_)));refine bB 19 ((x.length+(n/64):Nat)+1) ((x.length+(n/64))+1) (lK 20 23 ((x.length+(n/64))+1:Nat) 1 8 (uV 0) aj 0 e (fun j w2 h3 e=>?_));have L:(yL ((x.length+(n/64))+1:Nat) 0).length=((x.length+(n/64))+1:Nat):=by simp
 refine lL e ae (ag (ab e [.c,.v (nV x.length),.c] (a7 ?_)));refine bY _ (CG.loop (fun K Γ w_=>∃ (i:Nat)(l:List Nat)(I:Hp),K=x.length-i/\Γ=[(4,sZ),(5,nV (n/64)),(6,mV (n%64)),(7,qS (sB j) ((x.length+(n/64))+1:Nat) ((x.length+(n/64))+1:Nat)),(21,qS A x.length c),(22,nV x.length),(23,nV i)]/\SS w h w_ I [⟨j,23,(l).flatMap aj⟩] [] [fun I=>SlO 1 aj 0 I A x]/\i<=x.length/\l.length=x.length+n/64+1/\Wd l/\aA l=2^(n%64)*(18446744073709551616^(n/64)*ak 18446744073709551616 (x.take i))/\l.getD (i+n/64) 0<2^(n%64)/\(∀ k,i+n/64+1<=k->l.getD k 0=0)) _ ⟨0,yL ((x.length+(n/64))+1:Nat) 0,h3,rfl,rfl,e.to _ _,In _,L,Wd.rep _,(by show ak _ _=_;rw[fa];simp[ak]),(by rw[fP];exact Aw _),fun k _=>fP⟩ ?_);rintro _ _ w5 ⟨i,l,X,Y,rfl,e,hi,C,H,hv,ho,hz⟩;refine aD ?_;cases B:(decide ((i:Int)<(x.length:Int)))
 .
  have D:=oF B;refine lB 24 B (ag (cD (CG.exit ?_)))
  show CG _ _ _ _ _ _ _ _
  refine ab e aE (lN (kX ?_));have O:i=x.length:=by omega
  rw[O,yz] at hv
  obtain ⟨h9,e,F,W,V⟩:=e.pub 0;replace e:=(e.to [] []).aS (SlO.of_flat (sz:=1) (f:=aj) (d:=0) (b:=j) (o:=0) (l:=l) (fun _=>rfl) F);exact e.ret [] (qS (sB j) ((x.length+(n/64))+1:Nat) ((x.length+(n/64))+1:Nat)) (⟨sB j,_,l,by rw[C],by omega,C,H,(by show aA l=_;rw[hv,u6 n];show _*(_*aA x)=_;ac_rfl),e.f.1⟩)
 have D:=oT B;refine lB 24 B (ag (bZ (cK (cQ (kZ (ab e ae (lX 26 A x.length c 1 (i:Nat) i ((e.f.1).ok oM) ?_)))))));refine lH 27 (mV (x.getD i 0)) e ((e.f.1).el i oM) (lL e aE (aK (lL e dG (bB 31 ((i:Nat)+(n/64:Nat)) (i+(n/64)) ?_))));refine lX 32 (sB j) ((x.length+(n/64))+1:Nat) ((x.length+(n/64))+1:Nat) 1 (i+(n/64):Nat) (i+(n/64)) rfl (lQ 33 0 l aj 1 0 (i+(n/64)) (mV ((l).getD (i+(n/64)) 0)) e oM (lL e aE (lV 36 (mV ((x.getD i 0)*2^(n%64)%18446744073709551616)) ?_ (hr:=gE (t:=23) (u:=157) (x:=.tmp 34) (y:=.tmp 35) (ky:=.u64) (a:=(x.getD i 0)) (n:=(n%64)) kR kR kR _))));have U:=hx.get i;obtain ⟨M,Q,S,J⟩:=vh (x:=x.getD i 0) (p:=n%64) (o:=l.getD (i+n/64) 0) oM U ho;have hlg:=H.get (i+n/64);refine lV 37 (mV (l.getD (i+n/64) 0+x.getD i 0*2^(n%64)%18446744073709551616)) ?_ (hr:=ay (i9 (t:=23) (u:=23) (x:=.tmp 33) (y:=.tmp 36) (a:=((l).getD (i+(n/64)) 0:Nat)) (b:=((x.getD i 0)*2^(n%64)%18446744073709551616)) kR kR kR oM oM _) (by rw[M]));refine lX 38 (sB j) ((x.length+(n/64))+1:Nat) ((x.length+(n/64))+1:Nat) 1 (i+(n/64):Nat) (i+(n/64)) rfl (lW 0 l aj 1 (i+(n/64)) (l.getD (i+n/64) 0+x.getD i 0*2^(n%64)%18446744073709551616) e oM (fun _ e=>?_));have za:((l).set (i+(n/64)) (l.getD (i+n/64) 0+x.getD i 0*2^(n%64)%18446744073709551616)).length=((x.length+(n/64))+1:Nat):=by rw[Ic];exact C
 replace e:=e.to [⟨j,23,((l).set (i+(n/64)) (l.getD (i+n/64) 0+x.getD i 0*2^(n%64)%18446744073709551616)).flatMap aj⟩] [];refine lN (kQ (lL e dG (bB 42 ((i:Nat)+(n/64:Nat)) (i+(n/64)) ?_)));refine bB 43 ((i+(n/64):Nat)+1) ((i+(n/64))+1) (lL e aE (lV 46 (mV (64-(n%64))) ?_ (hr:=rU (((64:Int)-((n%64:Nat):Int))) kR (fQ 64 (n%64) oM oM))));refine lV 47 (mV ((x.getD i 0)/2^(64-(n%64)))) ?_ (hr:=fZ (t:=23) (u:=157) (x:=.tmp 44) (y:=.tmp 46) (ky:=.u64) (a:=(x.getD i 0)) (n:=(64-(n%64))) kR kR kR oM _);refine lX 48 (sB j) ((x.length+(n/64))+1:Nat) ((x.length+(n/64))+1:Nat) 1 ((i+(n/64))+1:Nat) ((i+(n/64))+1:Nat) rfl (lW 0 ((l).set (i+(n/64)) (l.getD (i+n/64) 0+x.getD i 0*2^(n%64)%18446744073709551616)) aj 1 ((i+(n/64))+1:Nat) ((x.getD i 0)/2^(64-(n%64)):Nat) e oM (fun _ e=>?_));have zb:(((l).set (i+(n/64)) (l.getD (i+n/64) 0+x.getD i 0*2^(n%64)%18446744073709551616)).set ((i+(n/64))+1:Nat) ((x.getD i 0)/2^(64-(n%64)):Nat)).length=((x.length+(n/64))+1:Nat):=by rw[Ic];exact za
 replace e:=e.to [⟨j,23,(((l).set (i+(n/64)) (l.getD (i+n/64) 0+x.getD i 0*2^(n%64)%18446744073709551616)).set ((i+(n/64))+1:Nat) ((x.getD i 0)/2^(64-(n%64)):Nat)).flatMap aj⟩] [];refine lN (kQ (bB 49 ((i:Nat)+1) (i+1) ?_));refine lL e ae (lD ?_);intro a_ Z;refine ⟨_,_,?_,⟨i+1,((l).set (i+(n/64)) (l.getD (i+n/64) 0+x.getD i 0*2^(n%64)%18446744073709551616)).set ((i+(n/64))+1:Nat) ((x.getD i 0)/2^(64-(n%64)):Nat),X,rfl,rfl,e.to _ _,oM,zb,((H.set _ Q).set _ (by have:=zy (x.getD i 0) (2^(64-n%64));omega)),(ux oM hv (hz _ oM) S rfl rfl),(by rw[show i+1+n/64=i+n/64+1 by omega,bv (by rw[Ic];omega),if_pos rfl];exact J),(fun k hk=>by rw[bv (by rw[Ic];omega),if_neg oM,bv oM,if_neg oM];exact hz k oM)⟩,Z.to _ kR⟩
 omega
theorem Ge (A:Z9)(c:Nat)(x:List Nat)(X:Wd x)(hlx:x.length<=1000000000)(n:Nat)(hn:n<=1000000000)(w:World)(h:Hp)(g:G w h)(hA:SlO 1 aj 0 h A x):CR 143 #[.slice A x.length c,nV n] w h (fun v h1=>xA h1 v (x.length-n/64) (fun z=>aA z=aA x/2^n)):=by
 have e:=((sS g).aS hA);refine go Tryz.func143 [(0,qS A x.length c),(1,nV n)] rfl (ab e ae (aK (lL e ae (lV 10 (nV (n/64)) ?_ (hr:=ay (dl (t:=3) (u:=3) (x:=.tmp 9) (y:=.const (iV 64)) (k:=.i64) (a:=(n:Int)) (b:=(64:Int)) kR kR kR oM _) (db n 64 oM))))));refine lL e ae (lV 12 (nV (n%64)) ?_ (hr:=ay (fC (t:=3) (u:=3) (x:=.tmp 11) (y:=.const (iV 64)) (k:=.i64) (a:=(n:Int)) (b:=(64:Int)) kR kR kR oM _) (dg n 64)));refine lV 13 (mV (n%64)) ?_ (hr:=rU (((n%64:Nat):Int)) kR (bF oM oM));refine lL e aE (ag (ab e [.c,.c,.v (nV x.length)] ?_));cases C:(decide ((x.length:Int)<=((n/64:Nat):Int)))
 .
  have I:=oF C;refine lB 17 C (am (cK (ab e [.c,.v (nV x.length),.c] (bB 21 ((x.length:Nat)-(n/64:Nat)) (x.length-(n/64)) ?_))));refine lK 22 23 (x.length-(n/64)) 1 8 (uV 0) aj 0 e (fun B w3 h4 e=>?_);have Z:(yL (x.length-(n/64)) 0).length=(x.length-(n/64)):=by simp
  refine lL e ae (ag (ab e [.c,.v (nV (x.length-(n/64))),.c] (a7 ?_)));refine bY _ (CG.loop (fun S Γ w_=>∃ (i:Nat)(l:List Nat)(Q:Hp),S=x.length-n/64-i/\Γ=[(0,qS A x.length c),(4,sZ),(5,nV (n/64)),(6,mV (n%64)),(7,qS (sB B) (x.length-(n/64)) (x.length-(n/64))),(24,nV (x.length-(n/64))),(25,nV i)]/\SS w h w_ Q [⟨B,23,(l).flatMap aj⟩] [] [fun Q=>SlO 1 aj 0 Q A x]/\i<=x.length-n/64/\l.length=x.length-n/64/\Wd l/\2^(n%64)*ak 18446744073709551616 l+(x.drop (n/64)).getD 0 0%2^(n%64)=ak 18446744073709551616 ((x.drop (n/64)).take i)+18446744073709551616^i*((x.drop (n/64)).getD i 0%2^(n%64))/\(∀ k,i<=k->l.getD k 0=0)) _ ⟨0,yL (x.length-(n/64)) 0,h4,rfl,rfl,e.to _ _,In _,Z,Wd.rep _,(by rw[fa];simp[ak]),fun k _=>fP⟩ ?_);rintro _ _ w6 ⟨i,l,h7,hm8,rfl,e,hi,J,O,inv,hz⟩;refine aD ?_;cases D:(decide ((i:Int)<(((x.length-(n/64)):Nat):Int)))
  .
   have F:=oF D;refine lB 26 D (ag (cD (CG.exit ?_)))
   show CG _ _ _ _ _ _ _ _
   refine ab e aE (lN (kX ?_));have hix:i=x.length-n/64:=by omega
   have hE:=xE (W:=x.drop (n/64)) (m:=i) (by rw[HT];omega) inv;rw[l5 X oM,B2,<-u6 n] at hE
   obtain ⟨_,e,K,bb,bd⟩:=e.pub 0;replace e:=(e.to [] []).aS (SlO.of_flat (sz:=1) (f:=aj) (d:=0) (b:=B) (o:=0) (l:=l) (fun _=>rfl) K);exact e.ret [] (qS (sB B) (x.length-(n/64)) (x.length-(n/64))) (⟨sB B,_,l,by rw[J],by omega,by omega,O,hE,e.f.1⟩)
  have F:=oT D;refine lB 26 D (ag (bZ (cK (cQ (kZ (ab e aE (aK (lL e Hm (bB 33 ((i:Nat)+(n/64:Nat)) (i+(n/64)) ?_)))))))));refine lX 34 A x.length c 1 (i+(n/64):Nat) (i+(n/64)) ((e.f.1).ok oM) (lH 35 (mV (x.getD (i+(n/64)) 0)) e ((e.f.1).el (i+(n/64)) oM) (lL e ae ?_));have hxi:=X.get (i+n/64);refine lV 37 (mV ((x.getD (i+(n/64)) 0:Nat)/2^(n%64))) ?_ (hr:=fZ (t:=23) (u:=157) (x:=.tmp 35) (y:=.tmp 36) (ky:=.u64) (a:=(x.getD (i+(n/64)) 0:Nat)) (n:=(n%64)) kR kR kR oM _);refine lX 38 (sB B) (x.length-(n/64)) (x.length-(n/64)) 1 (i:Nat) i rfl (lW 0 l aj 1 i ((x.getD (i+(n/64)) 0:Nat)/2^(n%64):Nat) e oM (fun _ e=>?_));have zb:((l).set i ((x.getD (i+(n/64)) 0:Nat)/2^(n%64):Nat)).length=(x.length-(n/64)):=by rw[Ic];exact J
  replace e:=e.to [⟨B,23,((l).set i ((x.getD (i+(n/64)) 0:Nat)/2^(n%64):Nat)).flatMap aj⟩] [];refine aK (lL e aE (bB 41 ((i:Nat)+(n/64:Nat)) (i+(n/64)) ?_));refine bB 42 ((i+(n/64):Nat)+1) ((i+(n/64))+1) (lL e [.c,.v (nV x.length)] ?_);cases L:(decide ((((i+(n/64))+1:Nat):Int)<(x.length:Int)))
  .
   have zc:=oF L;refine lB 45 L (am (cK (kQ (bB 62 ((i:Nat)+1) (i+1) ?_))));refine lL e ae (lD ?_);intro a_ M;refine ⟨_,_,?_,⟨i+1,(l).set i ((x.getD (i+(n/64)) 0:Nat)/2^(n%64):Nat),h7,rfl,rfl,e.to _ _,oM,zb,(O.set _ (by have:=zy (x.getD (i+n/64) 0) (2^(n%64));omega)),(o4 oM inv (hz _ (nR _)) (by rw[br,br,show n/64+i=i+n/64 by omega,ci (show x.length<=n/64+(i+1) by omega),Ie,Ah,yw];exact Hz _ _)),(mA oM hz)⟩,M.to _ kR⟩
   omega
  have zc:=oT L;refine lB 45 L (ar (cR 15 [] mixed e ai ?_));refine eV 0 46 (qS (sB B) (x.length-(n/64)) (x.length-(n/64))) (eV 1 47 (nV i) (eX 2 48 (sB B) (x.length-(n/64)) (x.length-(n/64)) 1 (i:Nat) i rfl (eQ 3 49 0 ((l).set i ((x.getD (i+(n/64)) 0:Nat)/2^(n%64):Nat)) aj 1 0 i (mV (((l).set i ((x.getD (i+(n/64)) 0:Nat)/2^(n%64):Nat)).getD i 0)) e oM (eV 4 50 (qS A x.length c) (eV 5 51 (nV i) (eV 6 52 (nV (n/64)) (lr 7 53 ((i:Nat)+(n/64:Nat)) (i+(n/64)) (lr 8 54 ((i+(n/64):Nat)+1) ((i+(n/64))+1) (eX 9 55 A x.length c 1 ((i+(n/64))+1:Nat) ((i+(n/64))+1:Nat) ((e.f.1).ok oM) (eH 10 56 (mV (x.getD ((i+(n/64))+1:Nat) 0)) e ((e.f.1).el ((i+(n/64))+1:Nat) oM) (eV 11 57 (mV (n%64)) (eV 12 58 (mV (64-(n%64))) ?_ (hv:=fun _=>rU (((64:Int)-((n%64:Nat):Int))) kR (fQ 64 (n%64) oM oM))))))))))))));refine eV 13 59 (mV ((x.getD ((i+(n/64))+1:Nat) 0:Nat)*2^(64-(n%64))%18446744073709551616)) ?_ (hv:=fun _=>gE (t:=23) (u:=157) (x:=.tmp 56) (y:=.tmp 58) (ky:=.u64) (a:=(x.getD ((i+(n/64))+1:Nat) 0:Nat)) (n:=(64-(n%64))) kR kR kR _);obtain ⟨U,V,Y⟩:=og (x:=x.getD (i+n/64) 0) (y:=x.getD (i+n/64+1) 0) (p:=n%64) oM hxi;have hdv:=zy (x.getD (i+n/64) 0) (2^(n%64));have H:=bv (l:=l) (k:=i) (j:=i) (x:=x.getD (i+n/64) 0/2^(n%64)) oM;rw[if_pos rfl] at H
  refine eV 14 60 (mV (x.getD (i+n/64) 0/2^(n%64)+x.getD (i+n/64+1) 0*2^(64-n%64)%18446744073709551616)) ?_ (hv:=fun _=>ay (i9 (t:=23) (u:=23) (x:=.tmp 49) (y:=.tmp 59) (a:=(((l).set i ((x.getD (i+(n/64)) 0:Nat)/2^(n%64):Nat)).getD i 0:Nat)) (b:=((x.getD ((i+(n/64))+1:Nat) 0:Nat)*2^(64-(n%64))%18446744073709551616:Nat)) kR kR kR oM oM _) (by rw[H,U]));refine bA e (fun _ ze e=>tX 15 61 (sB B) (x.length-(n/64)) (x.length-(n/64)) 1 (i:Nat) i rfl (tW 16 0 ((l).set i ((x.getD (i+(n/64)) 0:Nat)/2^(n%64):Nat)) aj 1 i (x.getD (i+n/64) 0/2^(n%64)+x.getD (i+n/64+1) 0*2^(64-n%64)%18446744073709551616) e oM (fun _ e=>?_)));have zd:(((l).set i ((x.getD (i+(n/64)) 0:Nat)/2^(n%64):Nat)).set i (x.getD (i+n/64) 0/2^(n%64)+x.getD (i+n/64+1) 0*2^(64-n%64)%18446744073709551616)).length=(x.length-(n/64)):=by rw[Ic];exact zb
  replace e:=e.to [⟨B,23,(((l).set i ((x.getD (i+(n/64)) 0:Nat)/2^(n%64):Nat)).set i (x.getD (i+n/64) 0/2^(n%64)+x.getD (i+n/64+1) 0*2^(64-n%64)%18446744073709551616)).flatMap aj⟩] [];refine tN (bY [(0,qS A x.length c),(4,sZ),(5,nV (n/64)),(6,mV (n%64)),(7,qS (sB B) (x.length-(n/64)) (x.length-(n/64))),(24,nV (x.length-(n/64))),(25,nV i)] ?_);refine kQ (bB 62 ((i:Nat)+1) (i+1) ?_);refine lL e ae (lD ?_);intro a_ M;refine ⟨_,_,?_,⟨i+1,((l).set i ((x.getD (i+(n/64)) 0:Nat)/2^(n%64):Nat)).set i (x.getD (i+n/64) 0/2^(n%64)+x.getD (i+n/64+1) 0*2^(64-n%64)%18446744073709551616),ze,rfl,rfl,e.to _ _,oM,zd,((O.set _ oM).set _ V),(by rw[Ip];exact o4 oM inv (hz _ (nR _)) (by rw[br,br,show n/64+i=i+n/64 by omega,show n/64+(i+1)=i+n/64+1 by omega];exact Y)),(by rw[Ip];exact mA oM hz)⟩,M.to _ kR⟩
  omega
 have I:=oT C;exact lB 17 C (ar (ab e ae (ah e [] (sZ) (⟨none,0,[],rfl,by simp,by simp;omega,Dg.nil,(by show 0=_;exact (zY (AX X oM)).symm),SlO.nil⟩))))
theorem GU {a b:Nat}(ha:a<18446744073709551616)(d:b<18446744073709551616):a*b<=340282366920938463426481119284349108225:=by
 have h1:a<=18446744073709551615:=by omega
 have c:b<=18446744073709551615:=by omega
 exact H9 h1 c
def w3 (u2 u1 u0:Nat):Nat:=18446744073709551616*(18446744073709551616*u2+u1)+u0
def w2 (v1 v0:Nat):Nat:=18446744073709551616*v1+v0
structure Gss (u2 u1 u0 v1 v0 g r o:Nat):Prop where
  e:g*v1+(r+18446744073709551616*o)=18446744073709551616*u2+u1
  lt:g+1=18446744073709551616\/w3 u2 u1 u0<(g+1)*w2 v1 v0
  gb:g<18446744073709551616
def Bd (u2 u1 u0 v1 v0 g:Nat):Prop:=g*w2 v1 v0<=w3 u2 u1 u0/\(g+1=18446744073709551616\/w3 u2 u1 u0<(g+1)*w2 v1 v0)/\g<18446744073709551616
theorem gv {g b a:Nat}:g*w2 b a=18446744073709551616*(g*b)+g*a:=by unfold w2;rw[z7,Nat.mul_left_comm]
theorem Gss.fin {d u1 b c a g r o:Nat}(h:Gss d u1 b c a g r o)(f:g*a<=18446744073709551616*(r+18446744073709551616*o)+b):Bd d u1 b c a g:=by
 refine ⟨?_,h.lt,h.gb⟩;rw[gv]
 unfold w3
 rw[<-h.e,z7]
 omega
theorem Gss.over {c u1 d b a g r o:Nat}(h:Gss c u1 d b a g r o)(e:0<o)(h0:a<18446744073709551616):Bd c u1 d b a g:=by
 refine h.fin ?_;have h1:=GU h.gb h0
 omega
theorem Gss.dec {d u1 c a b g r f o':Nat}(h:Gss d u1 c a b g r 0)(i:18446744073709551616*r+c<g*b)(e:f+18446744073709551616*o'=r+a):0<g/\Gss d u1 c a b (g-1) f o':=by
 have j:0<g:=dB i;obtain ⟨p,rfl⟩:∃ p,g=p+1:=⟨g-1,by omega⟩;have e1:=h.e;rw[Ah,yw] at e1
 have h1:w3 d u1 c<(p+1)*w2 a b:=by
  rw[gv]
  unfold w3
  rw[<-e1,z7]
  omega
 have e2:(p+1)*a=p*a+a:=by rw[Gx,Hy]
 rw[H4];exact ⟨j,⟨by omega,Or.inr h1,by have:=h.gb;omega⟩⟩
theorem Bk {b u1 c a d r o:Nat}(h:b=a)(e:r+18446744073709551616*o=u1+a):Gss b u1 c a d 18446744073709551615 r o:=by
 subst h;exact ⟨by omega,.inl rfl,by decide⟩
theorem BO {b u1 c a d q r:Nat}(e:b*18446744073709551616+u1=a*q+r)(hr:r<a)(h0:c<18446744073709551616)(f:q<18446744073709551616):Gss b u1 c a d q r 0:=by
 rw[z2 b] at e
 refine ⟨by rw[z2 q];omega,.inr ?_,f⟩;rw[gv,Gx q 1 a,Hy,z2 q a]
 unfold w3
 rw[e]
 have h1:18446744073709551616*(a*q+r)+18446744073709551616<=18446744073709551616*(a*q+a):=by
  rw[<-HX];exact A5 _ oM
 have h:0<=(q+1)*d:=In _
 omega
theorem Ec (p u1 j f i:Nat)(h0:p<18446744073709551616)(h1:u1<18446744073709551616)(h2:j<18446744073709551616)(h3:f<18446744073709551616)(h4:i<18446744073709551616)(hle:p<=f)(hv:0<f)(w:World)(h:Hp)(g:G w h):CR 142 #[mV p,mV u1,mV j,mV f,mV i] w h (fun v _=>∃ g:Nat,v=mV g/\Bd p u1 j f i g):=by
 have d:=sS g;refine go Tryz.func142 [(0,mV p),(1,mV u1),(2,mV j),(3,mV f),(4,mV i)] rfl ?_;refine ab d ae (aK (lL d dG (lN (CG.join (fun Γ W=>∃ (U:Nat)(H:Nat)(J:Nat)(h_:Hp),Γ=[(2,mV j),(3,mV f),(4,mV i),(10,uV 0),(11,mV U),(12,mV H),(13,mV J)]/\SS w h W h_ [] [] []/\Gss p u1 j f i U H J/\H<18446744073709551616/\J<=1) ?_ ?_))))
 .
  refine ab d aE ?_;cases u:((p:Int) == (f:Int))
  .
   have L:=aq u;refine lB 18 u (am (kQ (lL d dG (lC 29 d (wU p u1 f oM wM wM _ _ d.g) ?_))));rintro _ w7 h8 d ⟨q2,r3,rfl,he4,hl5,hm6⟩;refine lL d [.c,.v (mV q2),.v (mV r3),.c,.c] (lD ?_);intro a_ y;exact ⟨_,⟨q2,r3,0,h8,rfl,d.to _ _,(BO oM oM h2 oM),oM,oM⟩,y.to _ kR⟩
  have L:=eq_of_beq u;refine lB 18 u (ar (ab d ae (lN (kQ (lL d aE ?_)))));obtain ⟨z,Y,bb,bz,bf,I⟩:=dM u1 f 0 wM wM oM;refine lV 22 (.tuple #[mV z,mV Y]) ?_ (hr:=du kR (I _));refine lL d [.c,.v (mV z),.v (mV Y),.c,.c] (lD ?_);intro a_ y;exact ⟨_,⟨18446744073709551615,z,Y,h,rfl,d.to _ _,(Bk oM oM),oM,oM⟩,y.to _ kR⟩
 rintro _ _ ⟨U,H,J,zo,rfl,d,hG0,X,F⟩;refine cQ (kZ ?_);refine bY _ (CG.loop (fun μ_ Γ W=>∃ (g:Nat)(r:Nat)(o:Nat)(h_:Hp),μ_=g/\Γ=[(2,mV j),(3,mV f),(4,mV i),(10,uV 0),(11,mV g),(12,mV r),(13,mV o)]/\SS w h W h_ [] [] []/\Gss p u1 j f i g r o/\r<18446744073709551616/\o<=1) _ ⟨U,H,J,zo,rfl,rfl,d.to _ _,hG0,X,F⟩ ?_);rintro _ _ _ ⟨g,r,o,_,b3,rfl,d,e,hr,hov⟩;have hgl:=e.gb;refine cQ (ab d ae ?_);cases V:((o:Int) == (0:Int))
 .
  have zi:=aq V;refine lB 33 V (am (CG.exit ?_))
  show CG _ _ _ _ _ _ _ _
  exact ab d aE (ah d [] (mV g) (⟨g,rfl,(by first|exact e.over oM h4|(rw[show o=0 by omega] at e;exact e.fin oM))⟩))
 have zi:=eq_of_beq V;refine lB 33 V (ar (cK (kZ (ab d aE (lC 37 d (ne g i wM wM _ _ d.g) ?_)))));rintro _ _ zm d ⟨C,zn,rfl,b2,bd,bn,bl⟩;have O:=iI (a:=g) (b:=i) wM wM;refine lL d [.c,.v (mV C),.v (mV zn),.c,.c] (ag (ab d aE ?_));cases Q:(decide ((C:Int)<(r:Int)))
 .
  have zj:=oF Q;refine lB 42 Q (lL d dG ?_);cases M:((C:Int) == (r:Int))
  .
   have zk:=aq M;refine lB 46 M (lL d ae (lG 48 ?_));refine lG 49 (lG 50 (lL d [.v qF,.v qF] (am (cK (aD ?_)))));have l:18446744073709551616*r+j<g*i:=by omega
   rw[show o=0 by omega] at e
   have Z:=dB l;have hgb:=e.gb;refine lL d ae (lV 54 (mV (g-1)) ?_ (hr:=rU (((g:Int)-(1:Int))) kR (fQ g 1 oM oM)));refine lL d ae (lN (kQ (lL d aE ?_)));obtain ⟨B,zf,b0,bk,b4,K⟩:=dM r f 0 wM wM oM;refine lV 58 (.tuple #[mV B,mV zf]) ?_ (hr:=du kR (K _));refine lL d [.c,.v (mV B),.v (mV zf),.c,.c] (lD ?_);intro a_ y;refine ⟨_,_,?_,⟨g-1,B,zf,zm,rfl,rfl,d.to _ _,((e.dec l oM).2),oM,oM⟩,y.to _ kR⟩
   omega
  have zk:=eq_of_beq M;refine lB 46 M (lL d dG ?_);cases S:(decide ((zn:Int)<=(j:Int)))
  .
   have zl:=oF S;refine lB 50 S (lL d [.v qF,.v qF] (am (cK (aD ?_))));have l:18446744073709551616*r+j<g*i:=by omega
   rw[show o=0 by omega] at e
   have Z:=dB l;have hgb:=e.gb;refine lL d ae (lV 54 (mV (g-1)) ?_ (hr:=rU (((g:Int)-(1:Int))) kR (fQ g 1 oM oM)));refine lL d ae (lN (kQ (lL d aE ?_)));obtain ⟨x,zg,bm,bq,b1,D⟩:=dM r f 0 wM wM oM;refine lV 58 (.tuple #[mV x,mV zg]) ?_ (hr:=du kR (D _));refine lL d [.c,.v (mV x),.v (mV zg),.c,.c] (lD ?_);intro a_ y;refine ⟨_,_,?_,⟨g-1,x,zg,zm,rfl,rfl,d.to _ _,((e.dec l oM).2),oM,oM⟩,y.to _ kR⟩
   omega
  have zl:=oT S;refine lB 50 S (lL d [.v qT,.v qT] (ar (CG.exit ?_)))
  show CG _ _ _ _ _ _ _ _
  exact ab d aE (ah d [] (mV g) (⟨g,rfl,(by first|exact e.over oM h4|(rw[show o=0 by omega] at e;exact e.fin oM))⟩))
 have zj:=oT Q;refine lB 42 Q (lL d ae (lG 44 ?_));refine lG 45 (lG 46 (lG 47 (lG 48 (lG 49 (lG 50 (lG 51 (lL d [.v qT] (ar (CG.exit ?_)))))))))
 show CG _ _ _ _ _ _ _ _
 exact ab d aE (ah d [] (mV g) (⟨g,rfl,(by first|exact e.over oM h4|(rw[show o=0 by omega] at e;exact e.fin oM))⟩))
theorem Ed (A:Z9)(c:Nat)(l:List Nat)(n:Nat)(d:l.length=n)(b:l.length<=1099511627776)(e:l.length<=c)(w:World)(h:Hp)(g:G w h)(a:SlO 1 aj 0 h A l):CV 118 #[.slice A n c] w h (.slice A (tl l n) c):=by
 subst d;exact Cm A c l b e w h g a
theorem Fl (rb:Nat)(l:List Nat)(c d:Nat)(X:0<d)(U:d<18446744073709551616)(O:Wd l)(hl:l.length<=1000000000)(hc:l.length<=c)(w:World)(h:Hp)(g:G w h)(S:Own w rb 23 (l.flatMap aj))(hj:h[rb]?=some aY):Calls Tryz.prog 109 #[.slice (sB rb) l.length c,mV d] w (dN rb w h fun v w' _=>∃ z:List Nat,∃ r:Nat,v=.tuple #[.slice (sB rb) (tl z z.length) c,uV r]/\z.length=l.length/\Wd z/\aA l=d*aA z+r/\r<d/\Own w' rb 23 (z.flatMap aj)):=by
 have e:UpM [rb] w h w h:=UpM.refl g;obtain ⟨wz,hz,a⟩:=SS.at_ g S hj;have Z:l.length=l.length:=rfl;refine go Tryz.func109 [(0,qS (sB rb) l.length c),(1,mV d)] rfl (ab a aE (aK (lL a ae (ag (ab a [.c,.v (nV l.length)] (lV 10 (iV ((l.length:Int)-1)) ?_ (hr:=rS (((l.length:Nat)-1)) kR ((fW oM oM).trans oM))))))));refine lL a ae (a7 ?_);refine bY _ (CG.loop (fun D Γ I=>∃ (m:Nat)(z:List Nat)(r:Nat)(h_:Hp),D=m/\Γ=[(0,qS (sB rb) l.length c),(1,mV d),(4,sZ),(5,uV 0),(7,iV ((m:Int)-1)),(6,mV r)]/\SS wz hz I h_ [⟨rb,23,(z).flatMap aj⟩] [] []/\m<=l.length/\z.length=l.length/\Wd z/\aA l=d*(18446744073709551616^m*ak 18446744073709551616 (z.drop m))+(18446744073709551616^m*r+ak 18446744073709551616 (z.take m))/\r<d/\UpM [rb] w h I h_) _ ⟨l.length,l,0,h,rfl,rfl,a.to _ _,nR _,rfl,O,(by show ak _ l=_;simp[ak,Ii]),X,e⟩ ?_);rintro _ _ w1 ⟨m,z,r,h2,hm3,rfl,a,hm,i,B,inv,F,e⟩;refine cQ (ab a ae ?_);cases j:(decide ((0:Int)<=((m:Int)-1:Int)))
 .
  have p:=oF j;refine lB 12 j (am (CG.exit ?_))
  show CG _ _ _ _ _ _ _ _
  refine ab a ae (Bb 29 0 a (fun _ Q f_ C=>Ed (sB rb) c (z) (l.length) i oM oM _ _ Q (SlO.of_flat (sz:=1) (f:=aj) (d:=0) (b:=rb) (o:=0) (l:=z) (fun _=>rfl) C)) ?_);rintro _ w5 h6 Y a rfl;replace e:=e.trans (Y.m _);refine lL a dG (lN (kX ?_));have y:m=0:=by omega
  rw[y] at inv
  exact a.retM e [] (.tuple #[qS (sB rb) (tl (z) l.length) c,mV r]) ⟨z,r,by rw[i],i,B,(by simp only[Il,Hy,yx,Im,ak] at inv;exact inv),F,a.own 0⟩
 have p:=oT j;refine lB 12 j (ar (cK (cQ (kZ (kQ (lL a Hm (lX 21 (sB rb) l.length c 1 ((m:Int)-1) (m-1) rfl ?_)))))));have hzg:=B.get (m-1);refine lQ 22 0 z aj 1 0 (m-1) (mV ((z).getD (m-1) 0)) a oM (lL a ae (jI 24 (wU r ((z).getD (m-1) 0) d oM wM wM _ _ a.g) ?_));rintro _ _ W u ⟨x,K,rfl,L,H,J⟩;replace e:=e.trans (u.m _);replace a:=a.step u;refine lL a [.c,.v (mV x),.v (mV K)] (lX 27 (sB rb) l.length c 1 ((m:Int)-1) (m-1) rfl ?_);refine Gs 0 z aj 1 (m-1) x a oM (fun _ V a=>?_);replace e:=e.put V (vl.2 rfl) a.g;have za:((z).set (m-1) x).length=l.length:=by rw[Ic];exact i
 replace a:=a.to [⟨rb,23,((z).set (m-1) x).flatMap aj⟩] [];refine lL a ae (lN (kQ (lL a ae (lV 14 (iV (((m-1:Nat):Int)-1)) ?_ (hr:=rS ((((m:Int)-1)-1)) kR ((fW oM oM).trans oM))))));refine lL a ae (lD ?_);intro a_ M;refine ⟨_,_,?_,⟨m-1,(z).set (m-1) x,K,W,rfl,rfl,a.to _ _,oM,za,(B.set _ oM),(xW oM (by rw[show m-1+1=m by omega];exact inv) oM),oM,e⟩,M.to _ kR⟩
 omega
theorem C9 {u:List Nat}{k:Nat}(hk:2<=k):w3 (u.getD k 0) (u.getD (k-1) 0) (u.getD (k-2) 0)=u.getD k 0*18446744073709551616*18446744073709551616+u.getD (k-1) 0*18446744073709551616+u.getD (k-2) 0:=by
 unfold w3
 rw[z2 (u.getD k 0) 18446744073709551616,z2 (18446744073709551616*u.getD k 0) 18446744073709551616,z2 (u.getD (k-1) 0),z7]
theorem El {b a:Nat}:w2 b a=b*18446744073709551616+a:=by unfold w2;rw[z2]
section
variable {n j G:Nat}{u v:List Nat}
theorem Et (i:2<=n)(e:v.length=n)(a:Wd v)(d:Wd u)(x:j+n<u.length)(hR:aA u<18446744073709551616^(j+1)*aA v):u.getD (j+n) 0<=v.getD (n-1) 0:=by
 rcases ep (v.getD (n-1) 0) (u.getD (j+n) 0) with h|h
 ·exfalso
  have e1:=aR 18446744073709551616 (l:=v) (k:=n-1) oM;rw[show n-1+1=v.length by omega,yz] at e1
  have h1:=bS (Dg.take a (n-1));rw[Af,Ag oM] at h1
  have e2:=aR 18446744073709551616 (l:=u) (k:=j+n) oM;have c:=bL 18446744073709551616 (l:=u) (k:=j+n+1) oM;have o:18446744073709551616^(j+n)*(v.getD (n-1) 0+1)<=18446744073709551616^(j+n)*u.getD (j+n) 0:=A5 _ h
  have b:18446744073709551616^(j+1)*aA v<18446744073709551616^(j+1)*(18446744073709551616^(n-1)*(v.getD (n-1) 0+1)):=by
   refine Ft ?_ (Bs kD)
   show ak _ v<_
   rw[e1,z7,Nat.mul_one];omega
  rw[<-z8,<-A4,show j+1+(n-1)=j+n by omega] at b
  have f:aA u=ak 18446744073709551616 (u.take (j+n))+18446744073709551616^(j+n)*u.getD (j+n) 0+18446744073709551616^(j+n+1)*ak 18446744073709551616 (u.drop (j+n+1)):=by
   show ak _ u=_
   rw[c,e2]
  have p:=In (18446744073709551616^(j+n+1)*ak 18446744073709551616 (u.drop (j+n+1)))
  omega
 ·exact h
theorem xf (i:2<=n)(e:v.length=n)(b:Wd v)(c:Wd u)(l:j+n<u.length)(a:v.getD (n-1) 0≠0)(hR:aA u<18446744073709551616^(j+1)*aA v)(f:Bd (u.getD (j+n) 0) (u.getD (j+n-1) 0) (u.getD (j+n-2) 0) (v.getD (n-1) 0) (v.getD (n-2) 0) G) :
  aA u/(18446744073709551616^j*aA v)<=G/\G<=aA u/(18446744073709551616^j*aA v)+1:=by
 obtain ⟨h1,d,h⟩:=f;rw[C9 oM,El] at h1 d
 exact sU kD i e b c l a hR h1 d h
theorem uH (f:2<=n)(d:v.length=n)(a:Wd v)(b:v.getD (n-1) 0≠0):18446744073709551616^(n-1)<=aA v/\aA v<18446744073709551616^n:=by
 have c:=bS a;rw[d] at c
 refine ⟨?_,c⟩;have e1:=aR 18446744073709551616 (l:=v) (k:=n-1) oM;rw[show n-1+1=v.length by omega,yz] at e1
 have e:18446744073709551616^(n-1)*1<=18446744073709551616^(n-1)*v.getD (n-1) 0:=A5 _ oM
 show _<=ak _ v
 omega
theorem xo (d:2<=n)(c:v.length=n)(a:Wd v)(hR:aA u<18446744073709551616^(j+1)*aA v):aA u<18446744073709551616^(j+n+1):=by
 have b:=bS a;rw[c] at b
 have h1:18446744073709551616^(j+1)*aA v<18446744073709551616^(j+1)*18446744073709551616^n:=Ft b (Bs kD);rw[<-A4,show j+1+n=j+n+1 by omega] at h1
 omega
theorem BM {u1:List Nat}(h:2<=n)(l:v.length=n)(d:Wd v)(i:Wd u)(f:Wd u1)(z:j+n<u.length)(a:v.getD (n-1) 0≠0)(hR:aA u<18446744073709551616^(j+1)*aA v)
  (p:aA u/(18446744073709551616^j*aA v)<=G/\G<=aA u/(18446744073709551616^j*aA v)+1)(c:Above u1 u (j+n+1))(e:aA u1+18446744073709551616^j*(G*aA v)=aA u+18446744073709551616^(j+n+1)*0) :
  aA u1<18446744073709551616^j*aA v/\aA u1+18446744073709551616^j*(G*aA v)=aA u:=by
 obtain ⟨x,o⟩:=uH h l d a;have y:=i7 (b:=18446744073709551616) kD c f i (by rw[c.1];omega) (xo h l d hR);have:=(jB (b:=18446744073709551616) kD h x o hR y e (In 1) p).1 rfl;rw[Ah,yw] at e
 exact ⟨this.2.2.1,e⟩
theorem E9 {b a W K T c:Nat}(e2:a+T*c=b+W)(f:b+W=K+T)(l:a<T)(e:K<W)(i:W<=T):a=K:=by
 have d:c=1:=by
  rcases Nat.lt_trichotomy c 1 with h|h|h
  ·have:c=0:=by omega
   subst this;omega
  ·exact h
  ·have j:T*2<=T*c:=A5 _ h
   omega
 subst d
 omega
theorem CO {u1 d:List Nat}{c:Nat}(B:2<=n)(F:v.length=n)(i:Wd v)(o:Wd u)(z:Wd u1)(y:Wd d)(Q:j+n<u.length)(h:v.getD (n-1) 0≠0)(hR:aA u<18446744073709551616^(j+1)*aA v)
  (I:aA u/(18446744073709551616^j*aA v)<=G/\G<=aA u/(18446744073709551616^j*aA v)+1)(l:Above u1 u (j+n+1))(a:Above d u (j+n+1))(e:aA u1+18446744073709551616^j*(G*aA v)=aA u+18446744073709551616^(j+n+1)*1)
  (e2:aA d+18446744073709551616^(j+n+1)*c=aA u1+18446744073709551616^j*aA v) :
  aA d<18446744073709551616^j*aA v/\aA d+18446744073709551616^j*((G-1)*aA v)=aA u/\0<G:=by
 obtain ⟨K,D⟩:=uH B F i h;have f:=xo B F i hR;have L:=i7 (b:=18446744073709551616) kD l z o (by rw[l.1];omega) f;have x:=i7 (b:=18446744073709551616) kD a y o (by rw[a.1];omega) f;obtain ⟨M,H,C,O⟩:=(jB (b:=18446744073709551616) kD B K D hR L e oM I).2 rfl
 have p:18446744073709551616^j*aA v<=18446744073709551616^(j+n+1):=by
  have h1:18446744073709551616^j*aA v<=18446744073709551616^j*18446744073709551616^n:=A5 _ (Nat.le_of_lt D);rw[<-A4] at h1
  have J:(18446744073709551616:Nat)^(j+n)<=18446744073709551616^(j+n+1):=Ay kD oM;exact e4 h1 J
 have hk:aA d=aA u-18446744073709551616^j*((G-1)*aA v):=E9 e2 H x C p;exact ⟨by rw[hk];exact C,by rw[hk];exact Nat.sub_add_cancel O,by rw[M];exact Iq _⟩
theorem CI {u1:List Nat}(h:2<=n)(l:v.length=n)(d:Wd v)(i:Wd u)(f:Wd u1)(B:j+n<u.length)(a:v.getD (n-1) 0≠0)(hR:aA u<18446744073709551616^(j+1)*aA v)
  (p:aA u/(18446744073709551616^j*aA v)<=G/\G<=aA u/(18446744073709551616^j*aA v)+1)(c:Above u1 u (j+n+1))(e:aA u1+18446744073709551616^j*(G*aA v)=aA u+18446744073709551616^(j+n+1)*1):0<G:=by
 obtain ⟨x,o⟩:=uH h l d a;have y:=i7 (b:=18446744073709551616) kD c f i (by rw[c.1];omega) (xo h l d hR);obtain ⟨z,_⟩:=(jB (b:=18446744073709551616) kD h x o hR y e (ey 1) p).2 rfl;rw[z];exact Iq _
theorem xH (h:n<=u.length)(d:v.length=n)(a:Wd v)(b:Wd u)(hR:aA u<aA v):aA (u.take n)=aA u:=by
 have c:=bS a;rw[d] at c
 have f:ak 18446744073709551616 u<18446744073709551616^(n+0):=Nat.lt_trans hR c;have hz:=(gn 18446744073709551616 (l:=u) (k:=n) (m:=0) oM kD b f).2;have e:=bL 18446744073709551616 (l:=u) (k:=n) h;have j:ak 18446744073709551616 (u.drop n)=0:=gc _ (fun i=>by rw[br];exact hz _ oM);rw[j,Ah,yw] at e
 exact e.symm
end
theorem vR {q:List Nat}{j Q X V R R':Nat}(b:j<q.length)(h0:q.getD j 0=0)(inv:X=aA q*V+R)(e:R'+18446744073709551616^j*(Q*V)=R):X=aA (q.set j Q)*V+R':=by
 have a:=cG 18446744073709551616 (l:=q) (k:=j) Q b;rw[h0,Ah,yw] at a
 have c:aA (q.set j Q)=aA q+18446744073709551616^j*Q:=a;rw[c,Gx,inv,<-e,z8];omega
theorem Df {X V R q a b s:Nat}(c:V=b*2^s)(f:X=a*2^s)(inv:X=q*V+R)(hR:R<V):q=a/b/\R/2^s=a%b:=by
 have l:=Aw s;have i:0<V:=by omega
 have j:0<b:=by
  rcases yW b with h|h
  ·rw[h,yE] at c;omega
  ·exact h
 have e1:a*2^s=V*q+R:=by rw[<-f,inv,z2]
 obtain ⟨h1,e⟩:=mK (A:=a) (y:=b) (Q:=q) c e1 hR;have d:a=R/2^s+b*q:=by omega
 constructor
 ·rw[d,A9 _ _ j,zY e,yH]
 ·rw[d,Ig,yN e]
theorem wx {a s:Nat}(c:s<=64)(h:a*2^s<18446744073709551616):a*2^s+2^s<=18446744073709551616:=by
 have e:=uq c;rw[e] at h ⊢
 have h1:a<2^(64-s):=H6 h;have b:(a+1)*2^s<=2^(64-s)*2^s:=yI _ h1;rw[Gx,Hy] at b
 exact b
theorem xb {x y:List Nat}{s:Nat}(c:Wd x)(h:Wd y)(j:1<=y.length)(a:y.getD (y.length-1) 0≠0)(e:y.length<=x.length):aA x*2^s<18446744073709551616^(x.length-y.length+1)*(aA y*2^s):=by
 have e1:=aR 18446744073709551616 (l:=y) (k:=y.length-1) oM;rw[show y.length-1+1=y.length by omega,yz] at e1
 have i:18446744073709551616^(y.length-1)*1<=18446744073709551616^(y.length-1)*y.getD (y.length-1) 0:=A5 _ oM;have f:18446744073709551616^(y.length-1)<=aA y:=by show _<=ak _ y;omega
 have b:18446744073709551616^(x.length-y.length+1)*18446744073709551616^(y.length-1)<=18446744073709551616^(x.length-y.length+1)*aA y:=A5 _ f;rw[<-A4,show x.length-y.length+1+(y.length-1)=x.length by omega] at b
 have d:aA x<18446744073709551616^x.length:=bS c;rw[<-z8];exact H7 (e5 d b) (Aw s)
theorem Ee (A:Z9)(c:Nat)(x:List Nat)(m:Nat)(f:x.length=m)(b:Wd x)(a:x.length<=1000000000)(n:Nat)(e:n<=1000000000)(w:World)(h:Hp)(g:G w h)(d:SlO 1 aj 0 h A x):CR 143 #[.slice A m c,nV n] w h (fun v h1=>xA h1 v (x.length-n/64) (fun z=>aA z=aA x/2^n)):=by
 subst f;exact Ge A c x b a n e w h g d
theorem CN {y z:List Nat}{s:Nat}(a:s<=64)(j:Wd y)(hz:Wd z)(h:aA z=aA y*2^s)(B:1<=y.length)(o:y.getD (y.length-1) 0*2^s<18446744073709551616)(f:y.length<=z.length):aA (z.take y.length)=aA y*2^s:=by
 have d:aA z<18446744073709551616^(y.length+0):=by
  rw[h,yw];have e1:=aR 18446744073709551616 (l:=y) (k:=y.length-1) oM;rw[show y.length-1+1=y.length by omega,yz] at e1
  have h1:=bS (Dg.take j (y.length-1));rw[Af,Ag oM] at h1
  have p:aA y<18446744073709551616^(y.length-1)*(y.getD (y.length-1) 0+1):=by
   show ak _ y<_
   rw[e1,z7,Nat.mul_one];omega
  have u:aA y*2^s<18446744073709551616^(y.length-1)*(y.getD (y.length-1) 0+1)*2^s:=H7 p (Aw s)
  have b:18446744073709551616^(y.length-1)*(y.getD (y.length-1) 0+1)*2^s<=18446744073709551616^y.length:=by
   have x:(18446744073709551616:Nat)^y.length=18446744073709551616^(y.length-1)*18446744073709551616:=by rw[<-z1];congr 1;omega
   rw[x,z8];refine A5 _ ?_;rw[Gx,Hy];exact wx a o
  exact e5 u b
 have c:=(gn 18446744073709551616 (l:=z) (k:=y.length) (m:=0) oM kD hz d).2;have e:=bL 18446744073709551616 (l:=z) (k:=y.length) oM;have b:ak 18446744073709551616 (z.drop y.length)=0:=gc _ (fun i=>by rw[br];exact c _ oM);rw[b,Ah,yw] at e
 rw[<-h];exact e.symm
theorem Bh {y v:List Nat}{s:Nat}(d:Wd y)(hv:Wd v)(a:v.length=y.length)(e:aA v=aA y*2^s)(h:1<=y.length)(f:9223372036854775808<=y.getD (y.length-1) 0*2^s):v.getD (v.length-1) 0≠0:=by
 intro h0;have e1:=aR 18446744073709551616 (l:=v) (k:=v.length-1) oM;rw[show v.length-1+1=v.length by omega,yz,h0,Ah,yw] at e1
 have h1:=bS (Dg.take hv (v.length-1));rw[Af,Ag oM] at h1
 have e2:=aR 18446744073709551616 (l:=y) (k:=y.length-1) oM;rw[show y.length-1+1=y.length by omega,yz] at e2
 have c:18446744073709551616^(y.length-1)*y.getD (y.length-1) 0<=aA y:=by show _<=ak _ y;omega
 have b:18446744073709551616^(y.length-1)*y.getD (y.length-1) 0*2^s<=aA y*2^s:=yI _ c;rw[z8] at b
 have i:18446744073709551616^(y.length-1)*1<=18446744073709551616^(y.length-1)*(y.getD (y.length-1) 0*2^s):=A5 _ oM
 have j:aA v<18446744073709551616^(y.length-1):=by
  show ak _ v<_
  rw[e1,<-a];exact h1
 omega
theorem DU (A:Z9)(c:Nat)(x:List Nat)(D:Z9)(d:Nat)(y:List Nat)(hx:Wd x)(hy:Wd y)(hlx:x.length<=1000000000)(hny:2<=y.length)(hxy:y.length<=x.length)(b1:y.getD (y.length-1) 0≠0)(w:World)(h:Hp)(g:G w h)(hA:SlO 1 aj 0 h A x)(hD:SlO 1 aj 0 h D y):CR 110 #[.slice A x.length c,.slice D y.length d] w h (fun v h1=>∃ Aq cq,∃ q:List Nat,∃ Ar cr,∃ r:List Nat,v=.tuple #[.slice Aq q.length cq,.slice Ar r.length cr]/\q.length<=cq/\r.length<=cr/\Wd q/\Wd r/\aA q=aA x/aA y/\aA r=aA x%aA y/\q.length<=x.length/\r.length<=y.length/\SlO 1 aj 0 h1 Aq q/\SlO 1 aj 0 h1 Ar r):=by
 have e:=(((sS g).aS hA).aS hD);refine go Tryz.func110 [(0,qS A x.length c),(1,qS D y.length d)] rfl (ab e aE (aK (lL e [.c,.v (nV y.length),.c] (aK (lL e aE (bB 25 ((y.length:Nat)-1) (y.length-1) ?_))))));refine lX 26 D y.length d 1 (y.length-1:Nat) (y.length-1) ((e.f.1).ok oM) (lH 27 (mV (y.getD (y.length-1) 0)) e ((e.f.1).el (y.length-1) oM) ?_);have hyt:=hy.get (y.length-1);refine au 28 e (Ci (y.getD (y.length-1) 0) wM _ _ e.g) (fun w1 h2 e=>lL e ae (aK (lL e aE (lC 31 e (wI D d y hy oM (64-nb (y.getD (y.length-1) 0)) oM _ _ e.g e.f.1) ?_))));rintro _ w3 h4 e ⟨V,vc,zv,rfl,hvc,dx,hWv,hVv,hFv⟩;replace e:=e.aS hFv;refine lL e ae (lT 33 V zv.length vc 1 (y.length:Nat) y.length ?_);obtain ⟨p,hvl_⟩:∃ p,p=zv.take y.length:=⟨_,rfl⟩;have bn:p.length=y.length:=by rw[hvl_,Af];omega
 have C:Wd p:=by rw[hvl_];exact Dg.take hWv _
 have d1:=(cj (n:=y.getD (y.length-1) 0) oM).2.2;have bd:=qK (y:=y.getD (y.length-1) 0) oM (hy.get _);have bb:aA p=aA y*2^(64-nb (y.getD (y.length-1) 0)):=by rw[hvl_];exact CN oM hy hWv hVv oM bd.2 oM
 have M:p.getD (p.length-1) 0≠0:=Bh hy C bn bb oM bd.1;replace e:=e.aS ((e.f.1).take y.length);rw[<-hvl_] at e
 refine lL e ae (aK (lL e [.c,.v (nV x.length)] (bB 36 ((x.length:Nat)+1) (x.length+1) ?_)));refine lK 37 23 (x.length+1) 1 8 (uV 0) aj 0 e (fun z w6 h7 e=>?_);have hl8:(yL (x.length+1) 0).length=(x.length+1):=by simp
 refine lL e ae (aK (lL e dG (lC 41 e (wI A c x hx hlx (64-nb (y.getD (y.length-1) 0)) oM _ _ e.g e.f.r.2.1) ?_)));rintro _ w9 _ e ⟨Uo,uc,zu,rfl,huc,c9,bq,hVu,hFu⟩;replace e:=e.aS hFu;have b3:zu.length=x.length+1:=by omega
 refine HP 42 0 (.tmp 38) (.tmp 41) 146 23 aj 0 Uo zu (x.length+1) zu.length uc (x.length+1) e e.f.1 rfl oM oM (by show ((yL (x.length+1) 0).flatMap aj).length=_;rw[d9 (sz:=1) (fun _=>rfl)];simp) (fun _ e=>?_);replace e:=e.to [⟨z,23,(zu).flatMap aj⟩] [];refine aK (lL e [.c,.v (nV x.length),.c] (bB 46 ((x.length:Nat)-(y.length:Nat)) (x.length-y.length) ?_));refine bB 47 ((x.length-y.length:Nat)+1) ((x.length-y.length)+1) (lK 48 23 ((x.length-y.length)+1) 1 8 (uV 0) aj 0 e (fun O _ zD e=>?_));have zt:(yL ((x.length-y.length)+1) 0).length=((x.length-y.length)+1):=by simp
 refine lL e ae (ag (ab e [.c,.v (nV x.length),.c] (lV 52 (iV (((x.length-y.length+1:Nat):Int)-1)) ?_ (hr:=rS (((x.length:Nat)-(y.length:Nat))) kR ((fW oM oM).trans oM)))));refine lL e ae (lN (bY [(4,qS (sB O) ((x.length-y.length)+1) ((x.length-y.length)+1)),(5,sZ),(6,nV y.length),(7,nV (64-nb (y.getD (y.length-1) 0))),(8,qS V y.length vc),(9,qS (sB z) (x.length+1) (x.length+1)),(10,iV (((x.length-y.length+1:Nat):Int)-1))] ?_));refine kZ ?_;refine bY _ (CG.loop (fun Z Γ w_=>∃ (m:Nat)(H:List Nat)(K:List Nat)(B:Hp),Z=m/\Γ=[(4,qS (sB O) ((x.length-y.length)+1) ((x.length-y.length)+1)),(5,sZ),(6,nV y.length),(7,nV (64-nb (y.getD (y.length-1) 0))),(8,qS V y.length vc),(9,qS (sB z) (x.length+1) (x.length+1)),(10,iV ((m:Int)-1))]/\SS w h w_ B [⟨O,23,(K).flatMap aj⟩,⟨z,23,(H).flatMap aj⟩] [] [fun B=>SlO 1 aj 0 B Uo zu,fun B=>SlO 1 aj 0 B V p,fun B=>SlO 1 aj 0 B V zv,fun B=>SlO 1 aj 0 B D y,fun B=>SlO 1 aj 0 B A x]/\m<=x.length-y.length+1/\H.length=x.length+1/\Wd H/\K.length=x.length-y.length+1/\Wd K/\aA H<18446744073709551616^m*aA p/\aA zu=aA K*aA p+aA H/\(∀ k,k<m->K.getD k 0=0)) _ ⟨x.length-y.length+1,zu,yL ((x.length-y.length)+1) 0,zD,rfl,rfl,e.to _ _,nR _,b3,bq,zt,Wd.rep _,(by rw[hVu,bb];exact xb hx hy oM b1 oM),(by show _=ak _ _*_+_;rw[fa,yE,yH]),fun k _=>fP⟩ ?_);rintro _ _ _ ⟨m,H,K,_,dn,rfl,e,hm,hul,J,hql,hWq,hR,inv,hq0⟩;refine cQ (ab e ae ?_);cases zd:(decide ((0:Int)<=((m:Int)-1:Int)))
 .
  have zl:=oF zd;refine lB 54 zd (am (CG.exit ?_))
  show CG _ _ _ _ _ _ _ _
  refine aD ?_;have hm0:m=0:=by omega
  obtain ⟨_,e,b2,dz,d3⟩:=e.pub 0;replace e:=(e.to [⟨z,23,(H).flatMap aj⟩] []).aS (SlO.of_flat (sz:=1) (f:=aj) (d:=0) (b:=O) (o:=0) (l:=K) (fun _=>rfl) b2);obtain ⟨_,e,b7,d0,c8⟩:=e.pub 0;replace e:=(e.to [] []).aS (SlO.of_flat (sz:=1) (f:=aj) (d:=0) (b:=z) (o:=0) (l:=H) (fun _=>rfl) b7);refine lL e dG (lT 190 (sB z) (x.length+1) (x.length+1) 1 (y.length:Nat) y.length ?_);refine lL e ae (lC 192 e (Ee (sB z) (x.length+1) (H.take y.length) y.length (by rw[Af];omega) (Dg.take J _) (by rw[Af];omega) (64-nb (y.getD (y.length-1) 0)) oM _ _ e.g ((e.f.1).take y.length)) ?_);rintro _ _ _ e ⟨Ar,cr,zr,rfl,hcr,hlr,hWr,hVr,hFr⟩;replace e:=e.aS hFr;refine lL e aE (lN (kX ?_));rw[hm0,Il,Hy] at hR
  obtain ⟨hQ,hRm⟩:=Df bb hVu inv hR;rw[xH (v:=p) oM oM C J hR] at hVr
  exact e.ret [] (.tuple #[qS (sB O) ((x.length-y.length)+1) ((x.length-y.length)+1),qS Ar zr.length cr]) (⟨_,_,K,Ar,cr,zr,by rw[hql],by omega,hcr,hWq,hWr,hQ,hVr.trans hRm,by omega,(by have:=List.length_take_le y.length H;omega),e.f.r.1,e.f.1⟩)
 have zl:=oT zd;refine lB 54 zd (ar (cK (cQ (kZ (cQ (cR 31 [] mixed e ai ?_))))));have hm1:0<m:=by omega
 have X:2<=p.length:=by omega
 have hjn:m-1+p.length<H.length:=by omega
 have hR1:aA H<18446744073709551616^(m-1+1)*aA p:=by rw[show m-1+1=m by omega];exact hR
 have hle:=Et (n:=p.length) (j:=m-1) X rfl C J hjn hR1;refine eV 0 57 (qS (sB z) (x.length+1) (x.length+1)) (eV 1 58 (iV ((m:Int)-1)) (eV 2 59 (nV y.length) (lr 3 60 (((m:Int)-1)+(y.length:Nat)) (m-1+p.length) (eX 4 61 (sB z) (x.length+1) (x.length+1) 1 (m-1+p.length:Nat) (m-1+p.length) rfl (eQ 5 62 1 H aj 1 0 (m-1+p.length) (mV ((H).getD (m-1+p.length) 0)) e oM (eV 6 63 (qS (sB z) (x.length+1) (x.length+1)) (eV 7 64 (iV ((m:Int)-1)) (eV 8 65 (nV y.length) (lr 9 66 (((m:Int)-1)+(y.length:Nat)) (m-1+p.length) (lr 10 67 ((m-1+p.length:Nat)-1) (m-1+p.length-1) (eX 11 68 (sB z) (x.length+1) (x.length+1) 1 (m-1+p.length-1:Nat) (m-1+p.length-1) rfl (eQ 12 69 1 H aj 1 0 (m-1+p.length-1) (mV ((H).getD (m-1+p.length-1) 0)) e oM (eV 13 70 (qS (sB z) (x.length+1) (x.length+1)) (eV 14 71 (iV ((m:Int)-1)) (eV 15 72 (nV y.length) (lr 16 73 (((m:Int)-1)+(y.length:Nat)) (m-1+p.length) (lr 17 74 ((m-1+p.length:Nat)-2) (m-1+p.length-2) (eX 18 75 (sB z) (x.length+1) (x.length+1) 1 (m-1+p.length-2:Nat) (m-1+p.length-2) rfl (eQ 19 76 1 H aj 1 0 (m-1+p.length-2) (mV ((H).getD (m-1+p.length-2) 0)) e oM (eV 20 77 (qS V y.length vc) (eV 21 78 (nV y.length) (lr 22 79 ((y.length:Nat)-1) (p.length-1) (eX 23 80 V y.length vc 1 (p.length-1:Nat) (p.length-1) ((e.f.2.1).ok oM) (eH 24 81 (mV (p.getD (p.length-1) 0)) e ((e.f.2.1).el (p.length-1) oM) (eV 25 82 (qS V y.length vc) (eV 26 83 (nV y.length) (lr 27 84 ((y.length:Nat)-2) (p.length-2) (eX 28 85 V y.length vc 1 (p.length-2:Nat) (p.length-2) ((e.f.2.1).ok oM) (eH 29 86 (mV (p.getD (p.length-2) 0)) e ((e.f.2.1).el (p.length-2) oM) (eC 30 87 e (fun _ _ e=>Ec (((H).getD (m-1+p.length) 0)) (((H).getD (m-1+p.length-1) 0)) (((H).getD (m-1+p.length-2) 0)) ((p.getD (p.length-1) 0)) ((p.getD (p.length-2) 0)) (J.get _) (J.get _) (J.get _) (C.get _) (C.get _) hle oM _ _ e.g) ?_))))))))))))))))))))))))))))));rintro _ _ _ _ _ e ⟨g,rfl,hG0⟩;have hG:=xf (n:=p.length) (j:=m-1) X rfl C J hjn M hR1 hG0;have hgb:=hG0.2.2;refine bA e (fun _ zE e=>tV 31 11 (mV g) (tN (bY [(4,qS (sB O) ((x.length-y.length)+1) ((x.length-y.length)+1)),(5,sZ),(6,nV y.length),(7,nV (64-nb (y.getD (y.length-1) 0))),(8,qS V y.length vc),(9,qS (sB z) (x.length+1) (x.length+1)),(10,iV ((m:Int)-1)),(11,mV g)] ?_)));refine ab e aE (ag (ab e aE (a7 ?_)));refine bY _ (CG.loop (fun Z Γ w_=>∃ (i:Nat)(u1:List Nat)(cy:Nat)(bo:Nat)(B:Hp),Z=y.length-i/\Γ=[(4,qS (sB O) ((x.length-y.length)+1) ((x.length-y.length)+1)),(5,sZ),(6,nV y.length),(7,nV (64-nb (y.getD (y.length-1) 0))),(8,qS V y.length vc),(9,qS (sB z) (x.length+1) (x.length+1)),(10,iV ((m:Int)-1)),(11,mV g),(88,nV y.length),(89,nV i),(12,mV cy),(13,mV bo)]/\SS w h w_ B [⟨O,23,(K).flatMap aj⟩,⟨z,23,(u1).flatMap aj⟩] [] [fun B=>SlO 1 aj 0 B Uo zu,fun B=>SlO 1 aj 0 B V p,fun B=>SlO 1 aj 0 B V zv,fun B=>SlO 1 aj 0 B D y,fun B=>SlO 1 aj 0 B A x]/\i<=y.length/\u1.length=x.length+1/\Wd u1/\cy<18446744073709551616/\bo<=1/\ak 18446744073709551616 u1+18446744073709551616^(m-1)*(g*ak 18446744073709551616 (p.take i))=aA H+18446744073709551616^(m-1+i)*(cy+bo)/\Above u1 H (m-1+p.length+1)) _ ⟨0,H,0,0,zE,rfl,rfl,e.to _ _,In _,hul,J,oM,oM,(by show ak _ H+_=ak _ H+_;simp[ak]),Above.refl _ _⟩ ?_);rintro _ _ _ ⟨i,u1,cy,bo,zq,dy,rfl,e,hi,hu1,hW1,hcy,hbo,Y,bf⟩;have dp:=hW1.get (m-1+i);have hvk:=C.get i;refine aD ?_;cases ze:(decide ((i:Int)<(y.length:Int)))
 .
  have zm:=oF ze;refine lB 90 ze (ag (cD (CG.exit ?_)))
  show CG _ _ _ _ _ _ _ _
  refine aD ?_;rw[show i=p.length by omega] at Y
  have df:=hW1.get (m-1+p.length);refine lL e dG (bB 132 (((m:Int)-1)+(y.length:Nat)) (m-1+p.length) ?_);refine lL e dG (bB 136 (((m:Int)-1)+(y.length:Nat)) (m-1+p.length) ?_);refine lX 137 (sB z) (x.length+1) (x.length+1) 1 (m-1+p.length:Nat) (m-1+p.length) rfl (lQ 138 1 u1 aj 1 0 (m-1+p.length) (mV ((u1).getD (m-1+p.length) 0)) e oM (lL e aE ?_));obtain ⟨I,zc,fm,c4,c7,b4⟩:=iB ((u1).getD (m-1+p.length) 0) cy bo wM wM oM;refine lV 141 (.tuple #[mV I,mV zc]) ?_ (hr:=du kR (b4 _));refine lL e [.c,.v (mV I),.v (mV zc)] (lX 144 (sB z) (x.length+1) (x.length+1) 1 (m-1+p.length:Nat) (m-1+p.length) rfl ?_);refine lW 1 u1 aj 1 (m-1+p.length) I e oM (fun _ e=>?_);have zk:((u1).set (m-1+p.length) I).length=(x.length+1):=by rw[Ic];exact hu1
  replace e:=e.to [⟨O,23,(K).flatMap aj⟩,⟨z,23,((u1).set (m-1+p.length) I).flatMap aj⟩] [];refine lL e ae (ag (aD ?_));have hE:=D9 oM Y (s:=I) (bo':=zc) oM;have W:Wd ((u1).set (m-1+p.length) I):=hW1.set _ oM;have S:=bf.set (x:=I) (show m-1+p.length<m-1+p.length+1 by omega) oM;refine lL e ae ?_;cases zf:((zc:Int) != (0:Int))
  .
   have zn:=aI zf;refine lB 146 zf (am (cK (kQ ?_)));have hD_:=BM X rfl C J W hjn M hR1 hG S (by rw[show zc=0 by omega] at hE;exact hE);have hDw:=W;have hDg:=hgb;have hDu:=hD_.1;have hDe:=hD_.2;refine lL e dG (lX 186 (sB O) ((x.length-y.length)+1) ((x.length-y.length)+1) 1 ((m:Int)-1) (m-1) rfl ?_);refine lW 0 K aj 1 (m-1) g e oM (fun _ e=>?_);have zw:((K).set (m-1) g).length=((x.length-y.length)+1):=by rw[Ic];exact hql
   replace e:=e.to [⟨O,23,((K).set (m-1) g).flatMap aj⟩,⟨z,23,((u1).set (m-1+p.length) I).flatMap aj⟩] [];refine lN (kQ (lL e ae (lV 56 (iV (((m-1:Nat):Int)-1)) ?_ (hr:=rS ((((m:Int)-1)-1)) kR ((fW oM oM).trans oM)))));refine lL e ae (lD ?_);intro a_ ka;refine ⟨_,_,?_,⟨m-1,(u1).set (m-1+p.length) I,(K).set (m-1) g,zq,rfl,rfl,e.to _ _,oM,zk,hDw,zw,(hWq.set _ hDg),hDu,(vR oM (hq0 _ oM) inv hDe),(fun k hk=>by rw[bv oM,if_neg oM];exact hq0 k oM)⟩,ka.to _ kR⟩
   omega
  have zn:=aU zf;refine lB 146 zf (ar (ab e ae ?_));have hE1:=hE;rw[show zc=1 by omega] at hE1
  have hgp:=CI X rfl C J W hjn M hR1 hG S hE1;refine lV 148 (mV (g-1)) ?_ (hr:=rU (((g:Int)-(1:Int))) kR (fQ g 1 oM oM));refine lL e ae (aK (lL e ae (ag (ab e aE (a7 ?_)))));refine bY _ (CG.loop (fun Z Γ w_=>∃ (u:Nat)(F:List Nat)(c2:Nat)(B:Hp),Z=y.length-u/\Γ=[(4,qS (sB O) ((x.length-y.length)+1) ((x.length-y.length)+1)),(5,sZ),(6,nV y.length),(7,nV (64-nb (y.getD (y.length-1) 0))),(8,qS V y.length vc),(9,qS (sB z) (x.length+1) (x.length+1)),(10,iV ((m:Int)-1)),(11,mV (g-1)),(149,nV y.length),(150,nV u),(19,mV c2)]/\SS w h w_ B [⟨O,23,(K).flatMap aj⟩,⟨z,23,(F).flatMap aj⟩] [] [fun B=>SlO 1 aj 0 B Uo zu,fun B=>SlO 1 aj 0 B V p,fun B=>SlO 1 aj 0 B V zv,fun B=>SlO 1 aj 0 B D y,fun B=>SlO 1 aj 0 B A x]/\u<=y.length/\F.length=x.length+1/\Wd F/\c2<=1/\ak 18446744073709551616 F+18446744073709551616^(m-1+u)*c2=ak 18446744073709551616 ((u1).set (m-1+p.length) I)+18446744073709551616^(m-1)*ak 18446744073709551616 (p.take u)/\Above F H (m-1+p.length+1)) _ ⟨0,(u1).set (m-1+p.length) I,0,zq,rfl,rfl,e.to _ _,In _,zk,W,oM,(by simp[ak]),S⟩ ?_);rintro _ _ _ ⟨u,F,c2,zG,cw,rfl,e,hi2,hu2,hW2,hc2,uY,bk⟩;have bz:=hW2.get (m-1+u);have cz:=C.get u;refine aD ?_;cases zg:(decide ((u:Int)<(y.length:Int)))
  .
   have zo:=oF zg;refine lB 151 zg (ag (cD (CG.exit ?_)))
   show CG _ _ _ _ _ _ _ _
   refine kQ (lL e dG (bB 177 (((m:Int)-1)+(y.length:Nat)) (m-1+p.length) ?_));refine lX 178 (sB z) (x.length+1) (x.length+1) 1 (m-1+p.length:Nat) (m-1+p.length) rfl (lQ 179 1 F aj 1 0 (m-1+p.length) (mV ((F).getD (m-1+p.length) 0)) e oM (lL e ae (lV 181 (mV ((((F).getD (m-1+p.length) 0)+c2)%18446744073709551616)) ?_ (hr:=rU (((((F).getD (m-1+p.length) 0:Nat):Int)+(c2:Int))) kR (xa ((F).getD (m-1+p.length) 0) c2)))));refine lX 182 (sB z) (x.length+1) (x.length+1) 1 (m-1+p.length:Nat) (m-1+p.length) rfl (lW 1 F aj 1 (m-1+p.length) ((((F).getD (m-1+p.length) 0)+c2)%18446744073709551616:Nat) e oM (fun _ e=>?_));have zx:((F).set (m-1+p.length) ((((F).getD (m-1+p.length) 0)+c2)%18446744073709551616:Nat)).length=(x.length+1):=by rw[Ic];exact hu2
   replace e:=e.to [⟨O,23,(K).flatMap aj⟩,⟨z,23,((F).set (m-1+p.length) ((((F).getD (m-1+p.length) 0)+c2)%18446744073709551616:Nat)).flatMap aj⟩] [];refine lN (kQ ?_);have b6:u=p.length:=by omega
   rw[b6] at uY
   have bz:=hW2.get (m-1+p.length);have hE3:=De (s:=(F.getD (m-1+p.length) 0+c2)%18446744073709551616) (c':=(F.getD (m-1+p.length) 0+c2)/18446744073709551616) oM uY (Ib _ _);have hDw:Wd ((F).set (m-1+p.length) ((((F).getD (m-1+p.length) 0)+c2)%18446744073709551616:Nat)):=hW2.set _ (yO _ kD);obtain ⟨hDu,hDe,hDp⟩:=CO X rfl C J W hDw hjn M hR1 hG S (bk.set oM oM) hE1 hE3;have hDg:g-1<18446744073709551616:=by omega
   refine lL e dG (lX 186 (sB O) ((x.length-y.length)+1) ((x.length-y.length)+1) 1 ((m:Int)-1) (m-1) rfl ?_);refine lW 0 K aj 1 (m-1) (g-1) e oM (fun _ e=>?_);have zA:((K).set (m-1) (g-1)).length=((x.length-y.length)+1):=by rw[Ic];exact hql
   replace e:=e.to [⟨O,23,((K).set (m-1) (g-1)).flatMap aj⟩,⟨z,23,((F).set (m-1+p.length) ((((F).getD (m-1+p.length) 0)+c2)%18446744073709551616:Nat)).flatMap aj⟩] [];refine lN (kQ (lL e ae (lV 56 (iV (((m-1:Nat):Int)-1)) ?_ (hr:=rS ((((m:Int)-1)-1)) kR ((fW oM oM).trans oM)))));refine lL e ae (lD ?_);intro a_ ka;refine ⟨_,_,?_,⟨m-1,(F).set (m-1+p.length) ((((F).getD (m-1+p.length) 0)+c2)%18446744073709551616:Nat),(K).set (m-1) (g-1),zG,rfl,rfl,e.to _ _,oM,zx,hDw,zA,(hWq.set _ hDg),hDu,(vR oM (hq0 _ oM) inv hDe),(fun k hk=>by rw[bv oM,if_neg oM];exact hq0 k oM)⟩,ka.to _ kR⟩
   omega
  have zo:=oT zg;refine lB 151 zg (ag (bZ (cK (cQ (kZ (ab e aE (lN (cR 19 [] mixed e ai ?_))))))));refine eV 0 154 (qS (sB z) (x.length+1) (x.length+1)) (eV 1 155 (iV ((m:Int)-1)) (eV 2 156 (nV u) (lr 3 157 (((m:Int)-1)+(u:Nat)) (m-1+u) (eV 4 158 (qS (sB z) (x.length+1) (x.length+1)) (eV 5 159 (iV ((m:Int)-1)) (eV 6 160 (nV u) (lr 7 161 (((m:Int)-1)+(u:Nat)) (m-1+u) (eX 8 162 (sB z) (x.length+1) (x.length+1) 1 (m-1+u:Nat) (m-1+u) rfl (eQ 9 163 1 F aj 1 0 (m-1+u) (mV ((F).getD (m-1+u) 0)) e oM (eV 10 164 (qS V y.length vc) (eV 11 165 (nV u) (eX 12 166 V y.length vc 1 (u:Nat) u ((e.f.2.1).ok oM) (eH 13 167 (mV (p.getD u 0)) e ((e.f.2.1).el u oM) (eV 14 168 (mV c2) ?_))))))))))))));obtain ⟨Q,zj,c3,d2,cx,b0⟩:=dM ((F).getD (m-1+u) 0) (p.getD u 0) c2 wM wM oM;refine eV 15 169 (.tuple #[mV Q,mV zj]) ?_ (hv:=fun _=>du kR (b0 _));refine eV 16 153 (.tuple #[mV Q,mV zj]) (eV 17 170 (mV Q) (eV 18 171 (mV zj) (bA e (fun _ zH e=>tX 19 172 (sB z) (x.length+1) (x.length+1) 1 (m-1+u:Nat) (m-1+u) rfl (tW 20 1 F aj 1 (m-1+u) Q e oM (fun _ e=>?_))))));have zB:((F).set (m-1+u) Q).length=(x.length+1):=by rw[Ic];exact hu2
  replace e:=e.to [⟨O,23,(K).flatMap aj⟩,⟨z,23,((F).set (m-1+u) Q).flatMap aj⟩] [];refine tV 21 19 (mV zj) (tN (kQ (bB 173 ((u:Nat)+1) (u+1) ?_)));refine lL e ae (lD ?_);intro a_ ka;refine ⟨_,_,?_,⟨u+1,(F).set (m-1+u) Q,zj,zH,rfl,rfl,e.to _ _,oM,zB,(hW2.set _ oM),oM,(BC oM uY oM),(bk.set oM oM)⟩,ka.to _ kR⟩
  omega
 have zm:=oT ze;refine lB 90 ze (ag (bZ (cK (cQ (kZ (ab e aE (aK (lL e dG (lX 96 V y.length vc 1 (i:Nat) i ((e.f.2.1).ok oM) ?_)))))))));refine lH 97 (mV (p.getD i 0)) e ((e.f.2.1).el i oM) (lC 98 e (ne g (p.getD i 0) wM wM _ _ e.g) ?_);rintro _ _ zI e ⟨U,zs,rfl,c5,c6,dc,ds⟩;have b9:=iI (a:=g) (b:=(p.getD i 0)) wM wM;refine lL e [.c,.v (mV U),.v (mV zs),.c,.c] (aK (lL e aE ?_));obtain ⟨s99,zb,cb,ch,cp,bm⟩:=dM zs cy 0 wM wM oM;refine lV 104 (.tuple #[mV s99,mV zb]) ?_ (hr:=du kR (bm _));refine lL e [.c,.v (mV s99),.v (mV zb),.c,.c] (aK (lL e aE (lV 109 (mV (U+zb)) ?_ (hr:=rU (((U:Int)+(zb:Int))) kR (hJ U zb oM)))));refine lL e ae (lN (kQ (lL e dG (bB 114 (((m:Int)-1)+(i:Nat)) (m-1+i) ?_))));refine lL e dG (bB 118 (((m:Int)-1)+(i:Nat)) (m-1+i) ?_);refine lX 119 (sB z) (x.length+1) (x.length+1) 1 (m-1+i:Nat) (m-1+i) rfl (lQ 120 1 u1 aj 1 0 (m-1+i) (mV ((u1).getD (m-1+i) 0)) e oM (lL e aE ?_));obtain ⟨L,zi,cm,cd,cf,bl⟩:=iB ((u1).getD (m-1+i) 0) s99 bo wM wM oM;refine lV 123 (.tuple #[mV L,mV zi]) ?_ (hr:=du kR (bl _));refine lL e [.c,.v (mV L),.v (mV zi)] (lX 126 (sB z) (x.length+1) (x.length+1) 1 (m-1+i:Nat) (m-1+i) rfl ?_);refine lW 1 u1 aj 1 (m-1+i) L e oM (fun _ e=>?_);have zp:((u1).set (m-1+i) L).length=(x.length+1):=by rw[Ic];exact hu1
 replace e:=e.to [⟨O,23,(K).flatMap aj⟩,⟨z,23,((u1).set (m-1+i) L).flatMap aj⟩] [];refine lL e ae (lN (bY [(4,qS (sB O) ((x.length-y.length)+1) ((x.length-y.length)+1)),(5,sZ),(6,nV y.length),(7,nV (64-nb (y.getD (y.length-1) 0))),(8,qS V y.length vc),(9,qS (sB z) (x.length+1) (x.length+1)),(10,iV ((m:Int)-1)),(11,mV g),(88,nV y.length),(89,nV i),(12,mV (U+zb)),(13,mV zi)] ?_));refine kQ (bB 127 ((i:Nat)+1) (i+1) ?_);refine lL e ae (lD ?_);intro a_ ka;refine ⟨_,_,?_,⟨i+1,(u1).set (m-1+i) L,(U+zb),zi,zI,rfl,rfl,e.to _ _,oM,zp,(hW1.set _ oM),oM,oM,(AN (t:=s99) oM Y oM oM),(bf.set oM oM)⟩,ka.to _ kR⟩
 omega
theorem cJ (A:Z9)(c:Nat)(l:List Nat)(m x:Nat)(e:l.length=m)(b:Wd l)(hv:aA l=x)(d:l.length<=1099511627776)(f:l.length<=c)(w:World)(h:Hp)(g:G w h)(a:SlO 1 aj 0 h A l):CV 77 #[.slice A m c] w h (nv x):=by
 subst e hv;exact Cs A c l b d f w h g a
theorem Fk (a b:Nat)(M:(wds a).length<=1000000000)(K:(wds b).length<=1000000000)(x:a<18446744073709551616)(p:b<18446744073709551616)(w:World)(h:Hp)(g:G w h):CV 70 #[nv a,nv b] w h (nv (a+b)):=by
 have e:=sS g;have H:=yN x;have L:=yN p;refine go Tryz.func70 [(0,nv a),(1,nv b)] rfl (aD (lA 2 25 (nc a) e (fun F w2 V e=>lA 3 25 (nc b) e (fun B S O e=>lA 4 25 ([uV 0,eS]) e (fun W U Q e=>ag (ab e [.v (qP F 1),.o (.string (hi a)) 2 1 1] (lV 14 qT ?_ (hr:=rb kR (iR (d7 x))))))))));refine lL e [.c,.v (qP B 1),.o (.string (hi b)) 1 1 1] (lV 18 qT ?_ (hr:=rb kR (iR (d7 p))));refine lL e [.v qT] (ar (ab e [.v (pB F),.o (mV (a%18446744073709551616)) 2 0 1,.v (pB B),.o (mV (b%18446744073709551616)) 1 0 1] ?_));obtain ⟨i,j,D,z,C,u⟩:=dM (a%18446744073709551616) (b%18446744073709551616) 0 wM wM oM;refine lV 25 (.tuple #[mV i,mV j]) ?_ (hr:=du kR (u _));refine lL e [.c,.v (mV i),.v (mV j),.c,.c] (ag (ab e ae ?_));cases y:((j:Int) == (0:Int))
 .
  have I:=aq y;refine lB 29 y (am (cK (ab e aE (lR 34 23 2 ([mV i,mV j]) e (fun J _ _ e=>?_)))));replace e:=e.aS (SlO.of_flat (sz:=1) (f:=aj) (d:=0) (l:=[i,j]) (fun _=>rfl) e.f.1);exact au 35 e (cJ (sB J) 2 ([i,j]) 2 ((a+b)) (by first|rfl|assumption|(simp;done)|(simp;omega)|omega) (Dg.cons oM (Dg.one oM)) (by show i+18446744073709551616*(j+18446744073709551616*0)=a+b;omega) sM sM _ _ e.g e.f.1) (fun _ _ e=>lP 0 0 (nc (a+b)) e (fun _ e=>ah e [(0,0,2)] (nv (a+b)) rfl))
 have I:=eq_of_beq y;exact lB 29 y (ar (ab e [.c,.v (.agg #[mV i,eS])] (lP 0 0 ([mV i,eS]) e (fun _ e=>ah e [(0,0,2)] (.agg #[mV i,eS]) (by rw[show i=a+b by omega];exact iq oM)))))
theorem EZ (a b:Nat)(hla:(wds a).length<=1000000000)(hlb:(wds b).length<=1000000000)(has:18446744073709551616<=a)(hb0:0<b)(hle:(wds b).length<=(wds a).length)(w:World)(h:Hp)(g:G w h):CV 70 #[nv a,nv b] w h (nv (a+b)):=by
 have e:=sS g;refine go Tryz.func70 [(0,nv a),(1,nv b)] rfl (aD (lA 2 25 (nc a) e (fun C w2 h3 e=>lA 3 25 (nc b) e (fun F w5 h6 e=>lA 4 25 ([uV 0,eS]) e (fun D w8 h9 e=>ag (ab e [.v (qP C 1),.o (.string (hi a)) 2 1 1] (lV 14 qF ?_ (hr:=rb kR (g8 (em has))))))))));refine lL e ae (lG 16 ?_);refine lG 17 (lG 18 (lL e [.v qF] (am (cK (cQ ?_)))));obtain ⟨K,hK_⟩:∃ K,K=w8.heap.size:=⟨_,rfl⟩;have bf:D<K:=by rw[hK_];exact ej e 0
 have H:F<K:=by rw[hK_];exact ej e 1
 have J:C<K:=by rw[hK_];exact ej e 2
 refine vL ⟨[],some (K,[])⟩ 0 mixed ?_;have b5:=e.g.size;replace e:=e.drew;have B:=Ir hK_;refine zO 0 36 [(2,0,2)] (nv a) rfl B e (fun p hp=>by obtain rfl:=vl.1 hp;exact J) (zO 2 38 [(1,0,2)] (nv b) rfl B e (fun p hp=>by obtain rfl:=vl.1 hp;exact H) (qA 1 37 (fd a oM oM _ _ e.g) rfl B ?_));rintro _ _ _ u12 B ⟨j,rfl,L,W,b0⟩;obtain ⟨_,e,-,-⟩:=e.take u12 L W;replace e:=e.to [⟨j,23,(wds a).flatMap aj⟩,⟨D,25,[uV 0,eS]⟩,⟨F,25,nc b⟩,⟨C,25,nc a⟩] [];refine qA 3 39 (fd b oM oM _ _ e.g) rfl B ?_;rintro _ _ _ u16 B ⟨u,rfl,M,O,b3⟩;obtain ⟨zn,e,-,-⟩:=e.take u16 M O;replace e:=e.to [⟨u,23,(wds b).flatMap aj⟩,⟨j,23,(wds a).flatMap aj⟩,⟨D,25,[uV 0,eS]⟩,⟨F,25,nc b⟩,⟨C,25,nc a⟩] [];refine zV 4 7 (qS (sB j) ((wds a).length) ((wds a).length)) (zV 5 8 (qS (sB u) ((wds b).length) ((wds b).length)) (tN (cQ (ab e [.c,.v (nV ((wds a).length)),.c,.v (nV ((wds b).length))] ?_))));have ⟨zk,bd⟩:=dF (p:=(((wds a).length:Nat):Int)<(((wds b).length:Nat):Int)) oM;refine lB 44 zk (am (cK (ab e ae (ag (ab e [.c,.v (nV ((wds a).length)),.c] (a7 ?_))))));refine bY _ (CG.loop (fun μ_ Γ w_=>∃ (i:Nat)(l:List Nat)(x:Nat)(h_:Hp),μ_=(wds a).length-i/\Γ=[(4,pB D),(7,qS (sB j) ((wds a).length) ((wds a).length)),(8,qS (sB u) ((wds b).length) ((wds b).length)),(48,nV ((wds a).length)),(49,nV i),(9,mV x)]/\SS w h w_ h_ [⟨u,23,(wds b).flatMap aj⟩,⟨j,23,(l).flatMap aj⟩,⟨D,25,[uV 0,eS]⟩,⟨F,25,nc b⟩,⟨C,25,nc a⟩] [] []/\i<=(wds a).length/\l.length=(wds a).length/\Wd l/\x<=1/\ak 18446744073709551616 l+18446744073709551616^i*x=a+ak 18446744073709551616 ((wds b:List Nat).take i)) _ ⟨0,wds a,0,zn,rfl,rfl,e.to _ _,In _,rfl,Wd.wds _,oM,(by have hx_:ak 18446744073709551616 (wds a)=a:=aJ _;rw[hx_];simp[ak])⟩ ?_);rintro _ _ _ ⟨i,l,x,zj,b2,rfl,e,hi,Q,V,hcy,inv⟩;have hlk:=V.get i;have hyk:=(Wd.wds b).get i;refine aD ?_;cases za:(decide ((i:Int)<(((wds a).length:Nat):Int)))
 .
  have zf:=oF za;refine lB 50 za (ag (cD (CG.exit ?_)))
  show CG _ _ _ _ _ _ _ _
  refine cQ (aD ?_);have I:=inv;rw[G1 (show (wds b).length<=i by first|omega|(simp;done)|(simp;omega))] at I
  rw[show i=l.length by omega] at I
  have hE_:ak 18446744073709551616 (wds b)=b:=aJ _;replace I:ak 18446744073709551616 l+18446744073709551616^l.length*x=(a+b):=by rw[I,hE_];first|done|omega
  refine lL e ae ?_;cases Z:((x:Int) != (0:Int))
  .
   have zg:=aI Z;refine lB 75 Z (am (cK (aD ?_)));obtain ⟨_,e,U,bk,bz⟩:=e.pub 1;replace e:=(e.to [⟨u,23,(wds b).flatMap aj⟩,⟨D,25,[uV 0,eS]⟩,⟨F,25,nc b⟩,⟨C,25,nc a⟩] []).aS (SlO.of_flat (sz:=1) (f:=aj) (d:=0) (b:=j) (o:=0) (l:=l) (fun _=>rfl) U);exact lL e ae (au 81 e (cJ (sB j) ((wds a).length) (l) ((wds a).length) ((a+b)) (by first|rfl|assumption|(simp;done)|(simp;omega)|omega) (V) (by rw[show x=0 by omega,Ah,yw] at I;exact I) sM sM _ _ e.g e.f.1) (fun _ _ e=>lP 1 0 (nc (a+b)) e (fun _ e=>ah e [(1,0,2)] (nv (a+b)) rfl)))
  have zg:=aU Z;refine lB 75 Z (ar (kQ (lL e aE (lR 78 23 1 ([mV x]) e (fun zo _ _ e=>Gt 79 1 ((wds a).length) zo l aj 0 x 8 (uV 0) e e.f.1 oM oM (fun zp zq _ _ e bb=>?_))))));replace e:=e.to [⟨u,23,(wds b).flatMap aj⟩,⟨D,25,[uV 0,eS]⟩,⟨F,25,nc b⟩,⟨C,25,nc a⟩] [];exact lL e ae (aK (lL e ae (au 81 e (cJ zp zq (l++[x]) ((wds a).length+1) ((a+b)) (by first|rfl|assumption|(simp;done)|(simp;omega)|omega) (Dg.append V (Dg.one oM)) (by show ak _ (l++[x])=_;rw[dH];show _+_*(x+_*0)=_;rw[Ah,yw];exact I) sM sM _ _ e.g e.f.1) (fun _ _ e=>lP 1 0 (nc (a+b)) e (fun _ e=>ah e [(1,0,2)] (nv (a+b)) rfl)))))
 have zf:=oT za;refine lB 50 za (ag (bZ (cK (cQ (kZ (ab e aE (aK (lL e ae (ag (ab e [.c,.c,.v (nV ((wds b).length))] ?_))))))))));cases Y:(decide ((i:Int)<(((wds b).length:Nat):Int)))
 .
  have zi:=oF Y;refine lB 55 Y (am (cK (kQ (lL e ll (lX 65 (sB j) ((wds a).length) ((wds a).length) 1 (i:Nat) i rfl ?_)))));refine lQ 66 1 l aj 1 0 i (mV ((l).getD i 0)) e oM (lL e aE ?_);obtain ⟨z,zd,b6,bn,bm,X⟩:=dM ((l).getD i 0) 0 x wM wM oM;refine lV 69 (.tuple #[mV z,mV zd]) ?_ (hr:=du kR (X _));refine lL e [.c,.v (mV z),.v (mV zd)] (lX 72 (sB j) ((wds a).length) ((wds a).length) 1 (i:Nat) i rfl ?_);refine lW 1 l aj 1 i z e oM (fun _ e=>?_);have zl:((l).set i z).length=(wds a).length:=by rw[Ic];exact Q
  replace e:=e.to [⟨u,23,(wds b).flatMap aj⟩,⟨j,23,((l).set i z).flatMap aj⟩,⟨D,25,[uV 0,eS]⟩,⟨F,25,nc b⟩,⟨C,25,nc a⟩] [];refine lL e ae (lN (kQ (bB 73 ((i:Nat)+1) (i+1) ?_)));refine lL e ae (lD ?_);intro a_ ka;refine ⟨_,_,?_,⟨i+1,(l).set i z,zd,zj,rfl,rfl,e.to _ _,oM,zl,(V.set _ oM),oM,(fJ oM inv (by first|omega|(have hy0:=ci (l:=(wds b:List Nat)) (k:=i) (by first|omega|(simp;done));omega)))⟩,ka.to _ kR⟩
  omega
 have zi:=oT Y;refine lB 55 Y (ar (kQ (lL e aE (lX 58 (sB u) ((wds b).length) ((wds b).length) 1 (i:Nat) i rfl ?_))));refine lQ 59 0 (wds b) aj 1 0 i (mV ((wds b).getD i 0)) e oM (lL e ae (lN (kQ (lL e ll (lX 65 (sB j) ((wds a).length) ((wds a).length) 1 (i:Nat) i rfl ?_)))));refine lQ 66 1 l aj 1 0 i (mV ((l).getD i 0)) e oM (lL e aE ?_);obtain ⟨y,ze,bq,b9,bl,S⟩:=dM ((l).getD i 0) ((wds b).getD i 0) x wM wM oM;refine lV 69 (.tuple #[mV y,mV ze]) ?_ (hr:=du kR (S _));refine lL e [.c,.v (mV y),.v (mV ze)] (lX 72 (sB j) ((wds a).length) ((wds a).length) 1 (i:Nat) i rfl ?_);refine lW 1 l aj 1 i y e oM (fun _ e=>?_);have zm:((l).set i y).length=(wds a).length:=by rw[Ic];exact Q
 replace e:=e.to [⟨u,23,(wds b).flatMap aj⟩,⟨j,23,((l).set i y).flatMap aj⟩,⟨D,25,[uV 0,eS]⟩,⟨F,25,nc b⟩,⟨C,25,nc a⟩] [];refine lL e ae (lN (kQ (bB 73 ((i:Nat)+1) (i+1) ?_)));refine lL e ae (lD ?_);intro a_ ka;refine ⟨_,_,?_,⟨i+1,(l).set i y,ze,zj,rfl,rfl,e.to _ _,oM,zm,(V.set _ oM),oM,(fJ oM inv (by first|omega|(have hy0:=ci (l:=(wds b:List Nat)) (k:=i) (by first|omega|(simp;done));omega)))⟩,ka.to _ kR⟩
 omega
theorem B8 (a b:Nat)(hla:(wds a).length<=1000000000)(hlb:(wds b).length<=1000000000)(ha0:0<a)(hbs:18446744073709551616<=b)(hlt:(wds a).length<(wds b).length)(w:World)(h:Hp)(g:G w h):CV 70 #[nv a,nv b] w h (nv (a+b)):=by
 have e:=sS g;refine go Tryz.func70 [(0,nv a),(1,nv b)] rfl (aD (lA 2 25 (nc a) e (fun D w2 h3 e=>lA 3 25 (nc b) e (fun C w5 h6 e=>lA 4 25 ([uV 0,eS]) e (fun F w8 h9 e=>?_)))));refine lN (CG.join (fun Γ w_=>∃  (h_:Hp),Γ=[(2,pB D),(3,pB C),(4,pB F)]/\SS w h w_ h_ [⟨F,25,[uV 0,eS]⟩,⟨C,25,nc b⟩,⟨D,25,nc a⟩] [] []) ?_ ?_)
 .
  refine ab e [.v (qP D 1),.o (.string (hi a)) 2 1 1] ?_;cases za:(tf (hi a) (⟨#[]⟩))
  .
   have zg:=tS za;refine lB 14 za (lL e ae (lG 16 ?_));refine lG 17 (lG 18 (lL e [.v qF] (am (CG.skip ?_))));intro a_ I;exact ⟨_,⟨h9,rfl,e.to _ _⟩,I.to _ kR⟩
  have zg:=xh za;refine lB 14 za (lL e [.c,.v (qP C 1),.o (.string (hi b)) 1 1 1] (lV 18 qF ?_ (hr:=rb kR (g8 (em hbs)))));refine lL e [.v qF] (am (CG.skip ?_));intro a_ I;exact ⟨_,⟨h9,rfl,e.to _ _⟩,I.to _ kR⟩
 rintro _ zp ⟨_,rfl,e⟩;refine cQ ?_;obtain ⟨L,hK_⟩:∃ L,L=zp.heap.size:=⟨_,rfl⟩;have bf:F<L:=by rw[hK_];exact ej e 0
 have H:C<L:=by rw[hK_];exact ej e 1
 have K:D<L:=by rw[hK_];exact ej e 2
 refine vL ⟨[],some (L,[])⟩ 0 mixed ?_;have b3:=e.g.size;replace e:=e.drew;have B:=Ir hK_;refine zO 0 36 [(2,0,2)] (nv a) rfl B e (fun p hp=>by obtain rfl:=vl.1 hp;exact K) (zO 2 38 [(1,0,2)] (nv b) rfl B e (fun p hp=>by obtain rfl:=vl.1 hp;exact H) (qA 1 37 (fd a oM oM _ _ e.g) rfl B ?_));rintro _ _ _ u15 B ⟨u,rfl,M,Y,bz⟩;obtain ⟨_,e,-,-⟩:=e.take u15 M Y;replace e:=e.to [⟨u,23,(wds a).flatMap aj⟩,⟨F,25,[uV 0,eS]⟩,⟨C,25,nc b⟩,⟨D,25,nc a⟩] [];refine qA 3 39 (fd b oM oM _ _ e.g) rfl B ?_;rintro _ _ _ u19 B ⟨j,rfl,O,Q,b2⟩;obtain ⟨zq,e,-,-⟩:=e.take u19 O Q;replace e:=e.to [⟨j,23,(wds b).flatMap aj⟩,⟨u,23,(wds a).flatMap aj⟩,⟨F,25,[uV 0,eS]⟩,⟨C,25,nc b⟩,⟨D,25,nc a⟩] [];refine zV 4 7 (qS (sB u) ((wds a).length) ((wds a).length)) (zV 5 8 (qS (sB j) ((wds b).length) ((wds b).length)) (tN (cQ (ab e [.c,.v (nV ((wds a).length)),.c,.v (nV ((wds b).length))] ?_))));have ⟨zm,bb⟩:=dT (p:=(((wds a).length:Nat):Int)<(((wds b).length:Nat):Int)) oM;refine lB 44 zm (ar (kQ (lL e ll (aK (lL e ae (ag (ab e [.c,.v (nV ((wds b).length)),.c] (a7 ?_))))))));refine bY _ (CG.loop (fun μ_ Γ w_=>∃ (i:Nat)(l:List Nat)(x:Nat)(h_:Hp),μ_=(wds b).length-i/\Γ=[(4,pB F),(7,qS (sB j) ((wds b).length) ((wds b).length)),(8,qS (sB u) ((wds a).length) ((wds a).length)),(48,nV ((wds b).length)),(49,nV i),(9,mV x)]/\SS w h w_ h_ [⟨j,23,(l).flatMap aj⟩,⟨u,23,(wds a).flatMap aj⟩,⟨F,25,[uV 0,eS]⟩,⟨C,25,nc b⟩,⟨D,25,nc a⟩] [] []/\i<=(wds b).length/\l.length=(wds b).length/\Wd l/\x<=1/\ak 18446744073709551616 l+18446744073709551616^i*x=b+ak 18446744073709551616 ((wds a:List Nat).take i)) _ ⟨0,wds b,0,zq,rfl,rfl,e.to _ _,In _,rfl,Wd.wds _,oM,(by have hx_:ak 18446744073709551616 (wds b)=b:=aJ _;rw[hx_];simp[ak])⟩ ?_);rintro _ _ _ ⟨i,l,x,zl,bk,rfl,e,hi,U,X,hcy,inv⟩;have hlk:=X.get i;have hyk:=(Wd.wds a).get i;refine aD ?_;cases zb:(decide ((i:Int)<(((wds b).length:Nat):Int)))
 .
  have zi:=oF zb;refine lB 50 zb (ag (cD (CG.exit ?_)))
  show CG _ _ _ _ _ _ _ _
  refine cQ (aD ?_);have J:=inv;rw[G1 (show (wds a).length<=i by first|omega|(simp;done)|(simp;omega))] at J
  rw[show i=l.length by omega] at J
  have hE_:ak 18446744073709551616 (wds a)=a:=aJ _;replace J:ak 18446744073709551616 l+18446744073709551616^l.length*x=(a+b):=by rw[J,hE_];first|done|omega
  refine lL e ae ?_;cases Z:((x:Int) != (0:Int))
  .
   have zj:=aI Z;refine lB 75 Z (am (cK (aD ?_)));obtain ⟨_,e,W,b6,bn⟩:=e.pub 0;replace e:=(e.to [⟨u,23,(wds a).flatMap aj⟩,⟨F,25,[uV 0,eS]⟩,⟨C,25,nc b⟩,⟨D,25,nc a⟩] []).aS (SlO.of_flat (sz:=1) (f:=aj) (d:=0) (b:=j) (o:=0) (l:=l) (fun _=>rfl) W);exact lL e ae (au 81 e (cJ (sB j) ((wds b).length) (l) ((wds b).length) ((a+b)) (by first|rfl|assumption|(simp;done)|(simp;omega)|omega) (X) (by rw[show x=0 by omega,Ah,yw] at J;exact J) sM sM _ _ e.g e.f.1) (fun _ _ e=>lP 1 0 (nc (a+b)) e (fun _ e=>ah e [(1,0,2)] (nv (a+b)) rfl)))
  have zj:=aU Z;refine lB 75 Z (ar (kQ (lL e aE (lR 78 23 1 ([mV x]) e (fun zr _ _ e=>Gt 79 0 ((wds b).length) zr l aj 0 x 8 (uV 0) e e.f.1 oM oM (fun zs zt _ _ e bd=>?_))))));replace e:=e.to [⟨u,23,(wds a).flatMap aj⟩,⟨F,25,[uV 0,eS]⟩,⟨C,25,nc b⟩,⟨D,25,nc a⟩] [];exact lL e ae (aK (lL e ae (au 81 e (cJ zs zt (l++[x]) ((wds b).length+1) ((a+b)) (by first|rfl|assumption|(simp;done)|(simp;omega)|omega) (Dg.append X (Dg.one oM)) (by show ak _ (l++[x])=_;rw[dH];show _+_*(x+_*0)=_;rw[Ah,yw];exact J) sM sM _ _ e.g e.f.1) (fun _ _ e=>lP 1 0 (nc (a+b)) e (fun _ e=>ah e [(1,0,2)] (nv (a+b)) rfl)))))
 have zi:=oT zb;refine lB 50 zb (ag (bZ (cK (cQ (kZ (ab e aE (aK (lL e ae (ag (ab e [.c,.c,.v (nV ((wds a).length))] ?_))))))))));cases zd:(decide ((i:Int)<(((wds a).length:Nat):Int)))
 .
  have zk:=oF zd;refine lB 55 zd (am (cK (kQ (lL e ll (lX 65 (sB j) ((wds b).length) ((wds b).length) 1 (i:Nat) i rfl ?_)))));refine lQ 66 0 l aj 1 0 i (mV ((l).getD i 0)) e oM (lL e aE ?_);obtain ⟨z,ze,b0,b5,bq,V⟩:=dM ((l).getD i 0) 0 x wM wM oM;refine lV 69 (.tuple #[mV z,mV ze]) ?_ (hr:=du kR (V _));refine lL e [.c,.v (mV z),.v (mV ze)] (lX 72 (sB j) ((wds b).length) ((wds b).length) 1 (i:Nat) i rfl ?_);refine lW 0 l aj 1 i z e oM (fun _ e=>?_);have zn:((l).set i z).length=(wds b).length:=by rw[Ic];exact U
  replace e:=e.to [⟨j,23,((l).set i z).flatMap aj⟩,⟨u,23,(wds a).flatMap aj⟩,⟨F,25,[uV 0,eS]⟩,⟨C,25,nc b⟩,⟨D,25,nc a⟩] [];refine lL e ae (lN (kQ (bB 73 ((i:Nat)+1) (i+1) ?_)));refine lL e ae (lD ?_);intro a_ I;refine ⟨_,_,?_,⟨i+1,(l).set i z,ze,zl,rfl,rfl,e.to _ _,oM,zn,(X.set _ oM),oM,(fJ oM inv (by first|omega|(have hy0:=ci (l:=(wds a:List Nat)) (k:=i) (by first|omega|(simp;done));omega)))⟩,I.to _ kR⟩
  omega
 have zk:=oT zd;refine lB 55 zd (ar (kQ (lL e aE (lX 58 (sB u) ((wds a).length) ((wds a).length) 1 (i:Nat) i rfl ?_))));refine lQ 59 1 (wds a) aj 1 0 i (mV ((wds a).getD i 0)) e oM (lL e ae (lN (kQ (lL e ll (lX 65 (sB j) ((wds b).length) ((wds b).length) 1 (i:Nat) i rfl ?_)))));refine lQ 66 0 l aj 1 0 i (mV ((l).getD i 0)) e oM (lL e aE ?_);obtain ⟨y,zf,b9,bl,bm,S⟩:=dM ((l).getD i 0) ((wds a).getD i 0) x wM wM oM;refine lV 69 (.tuple #[mV y,mV zf]) ?_ (hr:=du kR (S _));refine lL e [.c,.v (mV y),.v (mV zf)] (lX 72 (sB j) ((wds b).length) ((wds b).length) 1 (i:Nat) i rfl ?_);refine lW 0 l aj 1 i y e oM (fun _ e=>?_);have zo:((l).set i y).length=(wds b).length:=by rw[Ic];exact U
 replace e:=e.to [⟨j,23,((l).set i y).flatMap aj⟩,⟨u,23,(wds a).flatMap aj⟩,⟨F,25,[uV 0,eS]⟩,⟨C,25,nc b⟩,⟨D,25,nc a⟩] [];refine lL e ae (lN (kQ (bB 73 ((i:Nat)+1) (i+1) ?_)));refine lL e ae (lD ?_);intro a_ I;refine ⟨_,_,?_,⟨i+1,(l).set i y,zf,zl,rfl,rfl,e.to _ _,oM,zo,(X.set _ oM),oM,(fJ oM inv (by first|omega|(have hy0:=ci (l:=(wds a:List Nat)) (k:=i) (by first|omega|(simp;done));omega)))⟩,I.to _ kR⟩
 omega
end Go.Proofs.YtcbgbcghmndlmaaGreatDoor
