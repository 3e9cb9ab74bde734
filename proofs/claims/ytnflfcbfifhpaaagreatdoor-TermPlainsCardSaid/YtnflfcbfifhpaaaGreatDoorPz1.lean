/- Laws and contracts that the card of this claim stands on, part 2. No condition of ours. -/
import Derived.Test.YtnflfcbfifhpaaaGreatDoorPz0
set_option maxRecDepth 100000
set_option maxHeartbeats 4000000
open Array renaming getElem?_append_left → ua, getElem?_append_right → A9, getElem?_eq_none → et, getElem?_push_size → fo, getElem?_replicate → Bs, getElem?_setIfInBounds_ne → i0, getElem?_setIfInBounds_self_of_lt → DS, replicate → sA
open Bool renaming and_eq_true → i1, true_and → K6
open Go.IntKind renaming wrap_i64 → JK, wrap_u64 → JP
open Go.Region renaming binds → g1, free → hN, free_spec → K4, noSelect → g9, noSelect_spec → hO, ready → ga
open Go.Result renaming andThen_ok → K1
open Go.Value renaming agg → KD, ownBlock → A8, slice → Dx
open Int renaming fdiv → K5, toNat_natCast → A5
open List renaming all_eq_true → i4, drop_eq_getElem_cons → J7, drop_eq_nil_of_le → KY, eq_nil_of_length_eq_zero → z1, flatMap_cons → y7, getD_cons_succ → zz, getD_eq_getElem?_getD → Kl, getElem?_append_left → yY, getElem?_append_right → y3, getElem?_drop → y2, getElem?_eq_none → tu, getElem?_eq_some_iff → KU, getElem?_map → Ky, getElem?_range → Kz, getElem?_take_of_lt → yZ, getElem_mem → gs, getElem_set_ne → JH, getElem_set_self → JI, length → K0, length_append → zY, length_cons → un, length_drop → Kx, length_set → KP, length_take → J4, map_cons → B1, map_nil → K3, map_toArray → K2, mem_cons → g7, mem_flatMap → KV, mem_iff_getElem → xf, mem_map → g5, mem_of_mem_eraseIdx → Jz, pairwise_cons → KW, pairwise_iff_getElem → JG, replicate → Am, set_cons_zero → KZ, take_length → zy, take_of_length_le → Ks
open Nat renaming add_assoc → y6, add_mul → Kr, add_mul_div_left → Ki, add_mul_mod_self_left → KS, add_sub_cancel → KH, add_zero → y8, ble → KX, div_add_mod → Ku, div_div_eq_div_mul → Kk, div_eq_of_lt → JW, div_eq_of_lt_le → KI, div_lt_iff_lt_mul → KG, div_mul_le_self → KE, eq_zero_or_pos → HA, gcd → La, gcd_comm → Lb, le_of_ble_eq_true → JM, le_refl → ey, le_trans → ez, lt_div_mul_add → KF, lt_of_le_of_lt → JS, lt_of_lt_of_le → e6, lt_of_mul_lt_mul_left → KT, lt_or_ge → ep, min_eq_left → J5, mod_add_div → KO, mod_eq_of_lt → AS, mod_lt → A4, mul_add → J1, mul_add_div → KR, mul_assoc → J2, mul_comm → JZ, mul_div_mul_right → KL, mul_le_mul → KM, mul_le_mul_left → Ke, mul_le_mul_right → z7, mul_lt_mul_of_pos_left → Ko, mul_lt_mul_of_pos_right → KK, mul_mod_mul_right → KN, mul_pos → KJ, mul_succ → KB, mul_zero → J6, one_mul → Kt, pos_of_ne_zero → KC, pow_add → Kd, pow_le_pow_right → Kb, pow_mul → Kg, pow_pos → Kj, pow_succ → JY, pow_zero → K8, succ_pos → K9, two_pow_add_eq_or_of_lt → KA, two_pow_pos → Ka, zero_add → z6, zero_le → K7, zero_mod → KQ, zero_mul → zZ
open Option renaming map_some → um
namespace Go.Proofs.YtnflfcbfifhpaaaGreatDoor
open Go.RowKit
theorem uY:∀ (f m:Nat),m≤f→wb f m=(f6 18446744073709551616 m).flatMap b8
  | 0,m,h=>by
    have:m=0:=by omega
    subst this;rfl
  | f+1,m,h=>by
    unfold wb
    split
    · rename_i h0;subst h0;rfl
    · rw[dY kD oM,y7,FK,uY f _ oM];rfl
theorem Bn (n:Nat):f6 18446744073709551616 (n/18446744073709551616)=(f6 18446744073709551616 n).drop 1:=by
 rcases HA n with h|h
 ·subst h;rfl
 ·conv=>rhs;rw[dY kD h]
  rfl
theorem nL (n:Nat):(hi n).data.toList=((wds n).drop 1).flatMap b8:=by
 unfold hi wds
 rw[uY _ _ oM,Bn]
theorem mK (l:List Nat):(l.flatMap b8).length=8*l.length:=by
 induction l with
 | nil=>rfl
 | cons x l ih=>rw[y7,zY,ih,jX,un];omega
theorem iu (n:Nat):(hi n).size=8*((wds n).length-1):=by
 have:(hi n).size=(hi n).data.toList.length:=by rw[Array.length_toList];rfl
 rw[this,nL,mK,Kx]
theorem m9:∀ (l:List Nat) (j k:Nat),j<l.length→k<8→(l.flatMap b8).getD (8*j+k) 0=(b8 (l.getD j 0)).getD k 0
  | [],j,k,hj,_=>by simp at hj
  | x::l,0,k,hj,hk=>by
    rw[y7]
    simp only[Kl]
    rw[yY (by rw[jX];omega)]
    simp
  | x::l,j+1,k,hj,hk=>by
    rw[y7,zz,←m9 l j k (by simpa using hj) hk]
    simp only[Kl]
    rw[y3 (by rw[jX];omega),jX]
    congr 2
    omega
theorem EO (x k:Nat)(a:k<8):((b8 x).getD k 0).toNat=x/256^k%256:=by
 unfold b8
 simp only[Kl,Ky,Kz a]
 rfl
theorem EM (n j k:Nat)(b:j+1<(wds n).length)(a:k<8):aG (hi n) (8*j+k)=(wds n).getD (j+1) 0/256^k%256:=by
 unfold aG
 rw[nL,m9 _ _ _ (by rw[Kx];omega) a,EO _ _ a,bG,Nat.add_comm 1 j]
theorem Gs {s:ByteArray}{x:Nat}(a:x<18446744073709551616)(h:∀ k,k<8→aG s k=x/256^k%256):wv s=x:=by
 unfold wv
 rw[h 0 oM,h 1 oM,h 2 oM,h 3 oM,h 4 oM,h 5 oM,h 6 oM,h 7 oM]
 simp only[Nat.reducePow,Nat.div_one]
 omega
theorem iz (n j:Nat)(a:j+1<(wds n).length):wv ((hi n).extract (8*j) (hi n).size)=(wds n).getD (j+1) 0 :=
 Gs (oa n _) (fun k b=>by rw[pf,EM n j k a b])
theorem dX {n:Nat}(h:n<18446744073709551616):hi n=⟨#[]⟩:=lm h
theorem du {n:Nat}(h:18446744073709551616≤n):2≤(wds n).length:=by
 rcases ep (wds n).length 2 with h1|h1
 ·have a:=iS (b:=18446744073709551616) kD n
  have:(18446744073709551616:Nat)^(f6 18446744073709551616 n).length≤18446744073709551616^1:=Kb kD (by show (wds n).length≤1;omega)
  omega
 ·exact h1
theorem eM {n:Nat}(h:18446744073709551616≤n):(hi n).size≠0:=by rw[iu];have:=du h;omega
theorem jO {n:Nat}(h0:0<n)(h:n<18446744073709551616):wds n=[n]:=by
 unfold wds
 rw[dY kD h0,AS h,JW h,jF]
theorem o6:wds 0=[]:=rfl
theorem kw {n:Nat}:0<(wds n).length↔0<n:=nK kD
theorem qD (n:Nat):lo n=(((wds n).getD 0 0:Nat):Int):=by
 unfold lo wds
 rcases HA n with h|h
 ·subst h;rfl
 ·rw[dY kD h];rfl
theorem nC {l:List Nat}(h:Wd l):wds (aD l)=l.take (tl l l.length):=E6 kD h
theorem lc {n:Nat}(h:0<n):(wds n).getD ((wds n).length-1) 0≠0:=lZ kD n h
theorem Gq {n:Nat}{l:List UInt8}(h:l=((wds n).drop 1).flatMap b8):(⟨l.toArray⟩:ByteArray)=hi n:=by
 have:(hi n).data.toList=l:=by rw[nL,h]
 cases e:hi n with
 | mk d=>rw[e] at this;rw[←this]
theorem cZ (n:Nat):n<18446744073709551616^(wds n).length:=iS kD n
theorem cF {a b:Nat}(h:a≤b):(wds a).length≤(wds b).length:=fE kD (JS h (cZ b))
theorem f5 {a b:Nat}(k:Nat)(h:a<2^k):a ||| b*2^k=a+b*2^k:=by
 have:=KA h b;rw[Nat.or_comm,JZ b,←this];omega
def cD (a b:Nat):Int:=if a<b then -1 else if b<a then 1 else 0
theorem dB {a b:Nat}(h:a<b):cD a b = -1:=by simp[cD,h]
theorem fe {a b:Nat}(h:b<a):cD a b=1:=by unfold cD;rw[MM oM,MN h]
theorem ij {a b:Nat}(h:a=b):cD a b=0:=by unfold cD;rw[MM oM,MM oM]
theorem eP {a b:Nat}(h:b≤a):cD a b=0∨cD a b=1:=by
 unfold cD
 rw[MM oM]
 split<;>simp
theorem fS {a b:Nat}(h:(wds a).length<(wds b).length):a<b:=by
 rcases ep a b with hl|hl
 ·exact hl
 ·have:=cF hl;omega
theorem mj {a b k:Nat}(d:(wds a).length=(wds b).length)(i:k<(wds a).length)(f:(wds a).drop (k+1)=(wds b).drop (k+1))(c:(wds a).getD k 0<(wds b).getD k 0):a<b:=by
 have e:=bQ 18446744073709551616 (l:=wds a) (k:=k+1) oM;have p:=bQ 18446744073709551616 (l:=wds b) (k:=k+1) oM;have e1:aj 18446744073709551616 (wds a)=a:=ay a;have e2:aj 18446744073709551616 (wds b)=b:=ay b;have j:=aU 18446744073709551616 (l:=wds a) (k:=k) i;have o:=aU 18446744073709551616 (l:=wds b) (k:=k) oM;have h:=bP (Dg.take (Wd.wds a) k);rw[J4,J5 oM] at h
 have u:18446744073709551616^k*(wds a).getD k 0+18446744073709551616^k≤18446744073709551616^k*(wds b).getD k 0:=by
  rw[←KB];exact Ke _ c
 rw[f] at e
 omega
theorem kK {a b k:Nat}(c:(wds a).length=(wds b).length)(f:k<(wds a).length)(d:(wds a).drop (k+1)=(wds b).drop (k+1))(e:(wds a).getD k 0≠(wds b).getD k 0):cD ((wds a).getD k 0) ((wds b).getD k 0)=cD a b:=by
 rcases ep ((wds a).getD k 0) ((wds b).getD k 0) with h|h
 ·rw[dB h,dB (mj c f d h)]
 ·rw[fe oM,fe (mj c.symm oM d.symm oM)]
theorem eZ {l m:List Nat}{k:Nat}(d:l.length=m.length)(b:k<l.length)(c:l.drop (k+1)=m.drop (k+1))(a:l.getD k 0=m.getD k 0):l.drop k=m.drop k:=by
 rw[J7 b,J7 (l:=m) (i:=k) oM,c]
 simp[b,show k<m.length by omega] at a
 rw[a]
theorem q6 (n:Nat):n%18446744073709551616=(wds n).getD 0 0:=Int.ofNat.inj (qD n)
theorem nP {a b:Nat}(c:(wds a).length=(wds b).length)(d:(wds a).drop 1=(wds b).drop 1):cD (a%18446744073709551616) (b%18446744073709551616)=cD a b:=by
  rw[q6,q6]
  by_cases h:(wds a).getD 0 0=(wds b).getD 0 0
  · have:a=b:=by
      rcases HA (wds a).length with h0|h0
      · have e1:=ay a
        have e2:=ay b;have f:wds a=[]:=z1 h0;have e:wds b=[]:=z1 oM;rw[f] at e1
        rw[e] at e2
        exact e1.symm.trans e2
      · have:=eZ c h0 d h
        simp only[List.drop_zero] at this
        rw[←ay a,←ay b,this]
    rw[h,ij rfl,ij this]
  · refine kK c ?_ d h
    rcases HA (wds a).length with h0|h0
    · exfalso;apply h
      have e1:wds a=[]:=z1 h0;have e2:wds b=[]:=z1 oM;rw[e1,e2]
    · exact h0
theorem rz {n:Nat}(h:(wds n).length≤1):n<18446744073709551616:=by
 rcases ep n 18446744073709551616 with h1|h1
 ·exact h1
 ·have:=du h1;omega
theorem oY {a b:Nat}(c:(wds a).length-1=(wds b).length-1)(d:(wds a).drop 1=(wds b).drop 1):cD (a%18446744073709551616) (b%18446744073709551616)=cD a b:=by
 rcases ep 1 (wds a).length with h|h
 ·exact nP oM d
 ·rw[AS (rz h),AS (rz oM)]
theorem wP {n:Nat}(h:0<n):nb n=64*((wds n).length-1)+nb ((wds n).getD ((wds n).length-1) 0):=by
 have b:=kw.2 h;have e:=aU 18446744073709551616 (l:=wds n) (k:=(wds n).length-1) oM;rw[show (wds n).length-1+1=(wds n).length by omega,zy] at e
 have e1:aj 18446744073709551616 (wds n)=n:=ay n;have a:=bP (Dg.take (Wd.wds n) ((wds n).length-1));rw[J4,J5 oM] at a
 have e2:(18446744073709551616:Nat)^((wds n).length-1)=2^(64*((wds n).length-1)):=by rw[Kg]
 rw[e1,e2] at e
 rw[e2] at a
 have:=uy a (KC (lc h));rw[←e] at this
 exact this
theorem iR {n:Nat}(h:n<18446744073709551616):KD #[.int .u64 (n:Int),.string ⟨#[]⟩]=nv n:=by unfold nv;rw[jo h,lm h]
theorem fU {n:Nat}:(wds n).length≤1↔n<18446744073709551616:=by
 constructor
 ·intro h
  rcases ep n 18446744073709551616 with h1|h1
  ·exact h1
  ·have:=du h1;omega
 ·intro h
  rcases HA n with h0|h0
  ·subst h0;simp[o6]
  ·rw[jO h0 h];simp
structure HalfQ (Y y1 y0 u u1 q r:Nat):Prop where
  e:q*y1+r=u
  lt:u*4294967296+u1<(q+1)*Y
  qb:q≤4294967297
theorem lJ {Y y1 y0 u u1:Nat}(d:Y=y1*4294967296+y0)(h1:u1<4294967296)(e:2147483648≤y1)(h0:y0<4294967296)(f:u<Y):HalfQ Y y1 y0 u u1 (u/y1) (u-u/y1*y1):=by
 have i:u/y1*y1≤u:=KE u y1
 have c:u<(u/y1+1)*y1:=by
  have:=KF (a:=u) (b:=y1) oM;rw[Kr,Kt];exact this
 refine ⟨by omega,?_,?_⟩
 ·have:(u/y1+1)*Y=(u/y1+1)*y1*4294967296+(u/y1+1)*y0:=by rw[d,J1,J2]
  omega
 ·have h:u/y1<4294967298:=by
   rw[KG oM]
   omega
  omega
theorem mI {u y1:Nat}(h:0<y1):u-u/y1*y1<y1:=by
 have:=KF (a:=u) (b:=y1) h;have c:u/y1*y1≤u:=KE u y1
 omega
theorem HalfQ.dec {Y y1 y0 u u1 q r:Nat}(h:HalfQ Y y1 y0 u u1 q r)(b:Y=y1*4294967296+y0)(h1:u1<4294967296)(c:u<Y)(a:4294967296≤q∨4294967296*r+u1<q*y0):HalfQ Y y1 y0 u u1 (q-1) (r+y1):=by
 have d:0<q:=by
  rcases a with h2|h2
  ·omega
  ·rcases HA q with h3|h3
   ·subst h3;omega
   ·exact h3
 obtain ⟨p,rfl⟩:∃ p,q=p+1:=⟨q-1,by omega⟩;have e:=h.e;rw[Kr,Kt] at e
 refine ⟨by rw[KH];omega,?_,by have:=h.qb;omega⟩;rw[KH]
 rcases a with h2|h2
 ·have:4294967296*Y≤(p+1)*Y:=z7 _ h2
  omega
 ·have:(p+1)*Y=(p+1)*y1*4294967296+(p+1)*y0:=by rw[b,J1,J2]
  rw[Kr p 1 y1,Kt] at this
  omega
theorem HalfQ.fin {Y y1 y0 u u1 q r:Nat}(h:HalfQ Y y1 y0 u u1 q r)(d:Y=y1*4294967296+y0)(f:¬4294967296*r+u1<q*y0):q=(u*4294967296+u1)/Y∧(u*4294967296+u1)-q*Y=(u*4294967296+u1)%Y∧q*Y≤u*4294967296+u1:=by
 have a:q*Y≤u*4294967296+u1:=by
  have:q*Y=q*y1*4294967296+q*y0:=by rw[d,J1,J2]
  have:=h.e
  omega
 have b:q=(u*4294967296+u1)/Y:=(KI a h.lt).symm;have c:=Ku (u*4294967296+u1) Y;rw[←b,JZ] at c
 exact ⟨b,by omega,a⟩
theorem HalfQ.brk {Y y1 y0 u u1 q r:Nat}(h:HalfQ Y y1 y0 u u1 q r)(a:Y=y1*4294967296+y0)(h0:y0<4294967296)(hr:4294967296≤r)(b:q≤4294967296):q=(u*4294967296+u1)/Y∧(u*4294967296+u1)-q*Y=(u*4294967296+u1)%Y∧q*Y≤u*4294967296+u1 :=
 h.fin a (by
  have:q*y0≤4294967296*y0:=z7 _ b
  omega)
theorem jQ {A y s Y Q R:Nat}(b:Y=y*2^s)(d:A*2^s=Y*Q+R)(h:R<Y):A=y*Q+R/2^s∧R/2^s<y:=by
 have c:0<2^s:=Ka s;have e:y*Q*2^s=Y*Q:=by rw[b];ac_rfl
 have f:y*Q≤A:=by
  have:y*Q*2^s≤A*2^s:=by rw[d,e];omega
  exact Nat.le_of_mul_le_mul_right this c
 have a:R=(A-y*Q)*2^s:=by rw[Nat.sub_mul,d,e];omega
 rw[a,Nat.mul_div_cancel _ c];refine ⟨by omega,?_⟩;have:(A-y*Q)*2^s<y*2^s:=by rw[←a,←b];exact h
 exact Nat.lt_of_mul_lt_mul_right this
theorem tK {A y s a e Y u1 h p f j R:Nat}(b:Y=y*2^s)(u:A*2^s=a*18446744073709551616+e)(d:e=u1*4294967296+h)(k:0<y)
  (e1:p=(a*4294967296+u1)/Y)(e2:f=(a*4294967296+u1)%Y)(o:j=(f*4294967296+h)/Y)(i:R=(f*4294967296+h)%Y) :
  A=y*(p*4294967296+j)+R/2^s∧R/2^s<y:=by
 have c:0<Y:=by rw[b];exact KJ k (Ka s)
 have x:=Ku (a*4294967296+u1) Y;have z:=Ku (f*4294967296+h) Y;rw[←e1,←e2] at x
 rw[←o,←i] at z
 have l:R<Y:=by rw[i];exact A4 _ c
 refine jQ b ?_ l;rw[u,d,J1,←J2]
 clear e1 e2 o i u d l b c k
 omega
theorem sq {y:Nat}(h0:0<y)(h:y<18446744073709551616):9223372036854775808≤y*2^(64-nb y)∧y*2^(64-nb y)<18446744073709551616:=by
 obtain ⟨c,b,d⟩:=ci h0;have a:nb y≤64:=kh (k:=64) h
 have e1:(2:Nat)^(nb y-1)*2^(64-nb y)=9223372036854775808:=by
  rw[←Kd,show nb y-1+(64-nb y)=63 by omega]
 have e2:(2:Nat)^nb y*2^(64-nb y)=18446744073709551616:=by
  rw[←Kd,show nb y+(64-nb y)=64 by omega]
 have f:=z7 (2^(64-nb y)) c;have e:=KK b (Ka (64-nb y))
 omega
theorem C1 {hi lo s:Nat}(c:s≤64)(b:lo<18446744073709551616):(hi*18446744073709551616+lo)*2^s=(hi*2^s+lo/2^(64-s))*18446744073709551616+lo*2^s%18446744073709551616∧lo/2^(64-s)<2^s:=by
 have e:(18446744073709551616:Nat)=2^(64-s)*2^s:=by rw[←Kd,show 64-s+s=64 by omega]
 have h1:lo*2^s/18446744073709551616=lo/2^(64-s):=by
  rw[e,KL _ _ (Ka s)]
 have a:=Ku (lo*2^s) 18446744073709551616;rw[h1] at a
 constructor
 ·rw[Kr,Kr]
  have:hi*18446744073709551616*2^s=hi*2^s*18446744073709551616:=by ac_rfl
  omega
 ·rw[KG (Ka _),JZ,←e];exact b
theorem mS {a b q Y r:Nat}(h:q*Y≤a*4294967296+b)(hr:a*4294967296+b-q*Y=r)(c:r<18446744073709551616):((a*4294967296%18446744073709551616+b)%18446744073709551616+(18446744073709551616-q*Y%18446744073709551616))%18446744073709551616=r:=by
 generalize q*Y=m at *
 omega
theorem DH {a b:Nat}(ha:a<4294967296)(c:b<4294967296):a*b<18446744073709551616:=by
 have:a*b≤4294967295*4294967295:=KM oM oM
 omega
theorem cI {a b c:Nat}(h:c<a*b):0<a:=by
 rcases HA a with h0|h0
 ·rw[h0,zZ] at h;omega
 ·exact h0
theorem ot {u u1 Y:Nat}(h:u<Y)(h1:u1<4294967296):(u*4294967296+u1)/Y<4294967296:=by
 rw[KG oM];have:(u+1)*4294967296≤Y*4294967296:=z7 _ h
 omega
theorem wl {p:Nat}(h:p≤64):(18446744073709551616:Nat)=2^(64-p)*2^p:=by rw[←Kd,show 64-p+p=64 by omega]
theorem uI {x p o:Nat}(f:p≤64)(d:x<18446744073709551616)(c:o<2^p) :
  o ||| (x*2^p%18446744073709551616)=o+x*2^p%18446744073709551616∧o+x*2^p%18446744073709551616<18446744073709551616∧x*2^p%18446744073709551616+18446744073709551616*(x/2^(64-p))=x*2^p∧x/2^(64-p)<2^p:=by
 have e:=wl f
 have b:x*2^p%18446744073709551616=x%2^(64-p)*2^p:=by
  conv=>lhs;rw[e]
  exact KN _ _ _
 have a:x%2^(64-p)<2^(64-p):=A4 _ (Ka _);refine ⟨by rw[b];exact f5 p c,?_,?_,?_⟩
 ·rw[b]
  have:(x%2^(64-p)+1)*2^p≤2^(64-p)*2^p:=z7 _ a;rw[←e,Kr] at this
  omega
 ·have h1:x*2^p/18446744073709551616=x/2^(64-p):=by
   conv=>lhs;rw[e]
   exact KL _ _ (Ka _)
  rw[←h1];exact KO _ _
 ·rw[KG (Ka _),JZ,←e];exact d
theorem xx {l w:List Nat}{i q p x o a c:Nat}(u:i+q+1<l.length)(hv:aD l=2^p*(18446744073709551616^q*aj 18446744073709551616 (w.take i)))(h0:l.getD (i+q+1) 0=0)(j:a+18446744073709551616*c=x*2^p)(e:x=w.getD i 0)(f:o=l.getD (i+q) 0) :
  aD ((l.set (i+q) (o+a)).set (i+q+1) c)=2^p*(18446744073709551616^q*aj 18446744073709551616 (w.take (i+1))):=by
 have d:=cn 18446744073709551616 (l:=l) (k:=i+q) (o+a) oM;have b:=cn 18446744073709551616 (l:=l.set (i+q) (o+a)) (k:=i+q+1) c (by rw[KP];omega);rw[bF oM,MM oM,h0] at b
 rw[←f] at d
 have h:2^p*(18446744073709551616^q*aj 18446744073709551616 (w.take (i+1)))=aD l+18446744073709551616^(i+q)*(x*2^p):=by
  rw[aR,hv,←e,J1,J1,Kd]
  congr 1
  ac_rfl
 rw[h,←j];rw[JY] at b
 show aj 18446744073709551616 _=aj 18446744073709551616 l+_
 simp only[J1,←J2] at d b ⊢
 omega
theorem wY (n:Nat):(2:Nat)^n=18446744073709551616^(n/64)*2^(n%64):=by
 have:n=64*(n/64)+n%64:=by omega
 conv=>lhs;rw[this,Kd,Kg]
theorem pL {x y p:Nat}(h:p≤64)(f:x<18446744073709551616) :
  (x/2^p) ||| (y*2^(64-p)%18446744073709551616)=x/2^p+y*2^(64-p)%18446744073709551616∧x/2^p+y*2^(64-p)%18446744073709551616<18446744073709551616∧2^p*(x/2^p+y*2^(64-p)%18446744073709551616)+x%2^p=x+18446744073709551616*(y%2^p):=by
 have e:=wl h;have a:(18446744073709551616:Nat)=2^p*2^(64-p):=by rw[JZ];exact e
 have c:y*2^(64-p)%18446744073709551616=y%2^p*2^(64-p):=by
  conv=>lhs;rw[a]
  exact KN _ _ _
 have d:x/2^p<2^(64-p):=by rw[KG (Ka _),←e];exact f
 have b:y%2^p<2^p:=A4 _ (Ka _);refine ⟨by rw[c];exact f5 (64-p) d,?_,?_⟩
 ·rw[c]
  have:(y%2^p+1)*2^(64-p)≤2^p*2^(64-p):=z7 _ b;rw[←a,Kr] at this
  omega
 ·rw[c,J1]
  have h1:=Ku x (2^p);have i:2^p*(y%2^p*2^(64-p))=18446744073709551616*(y%2^p):=by rw[a];ac_rfl
  omega
theorem oo {l W:List Nat}{i p d a:Nat}(b:i<l.length)(inv:2^p*aj 18446744073709551616 l+a=aj 18446744073709551616 (W.take i)+18446744073709551616^i*(W.getD i 0%2^p))(h0:l.getD i 0=0)(e:2^p*d+W.getD i 0%2^p=W.getD i 0+18446744073709551616*(W.getD (i+1) 0%2^p)) :
  2^p*aj 18446744073709551616 (l.set i d)+a=aj 18446744073709551616 (W.take (i+1))+18446744073709551616^(i+1)*(W.getD (i+1) 0%2^p):=by
 have f:=cn 18446744073709551616 (l:=l) (k:=i) d b;rw[h0] at f
 rw[aR,JY];have e1:18446744073709551616^i*(2^p*d+W.getD i 0%2^p)=18446744073709551616^i*(W.getD i 0+18446744073709551616*(W.getD (i+1) 0%2^p)):=by rw[e]
 have e2:aj 18446744073709551616 (l.set i d)=aj 18446744073709551616 l+18446744073709551616^i*d:=by omega
 rw[e2,J1];have c:2^p*(18446744073709551616^i*d)=18446744073709551616^i*(2^p*d):=by ac_rfl
 rw[c]
 simp only[J1,←J2] at e1 ⊢
 simp only[J2] at e1 inv ⊢
 omega
theorem Ak {l W:List Nat}{p m:Nat}(b:W.length≤m)(inv:2^p*aj 18446744073709551616 l+W.getD 0 0%2^p=aj 18446744073709551616 (W.take m)+18446744073709551616^m*(W.getD m 0%2^p)):aD l=aD W/2^p:=by
 rw[Ks b] at inv
 have h0:W.getD m 0=0:=by simp[tu b]
 rw[h0,KQ,J6,y8] at inv
 have a:=Ka p;have c:=A4 (W.getD 0 0) a
 show aj _ l=aj _ W/_
 rw[←inv,KR a,JW c,y8]
theorem m6 {w:List Nat}(b:Wd w){q:Nat}(a:q≤w.length):aD (w.drop q)=aD w/18446744073709551616^q:=by
 have e:=bQ 18446744073709551616 a;have h1:=bP (Dg.take b q);rw[J4,J5 a] at h1
 show aj _ _=aj _ w/_
 rw[e,Ki _ _ (Kj kD),JW h1,z6]
def mq (x:Nat):List Value:=[.int .u8 (x:Nat)]
theorem qL {b:Nat}(a:0<b){l:List Nat}(h:Dg b l)(j:Nat):l.getD j 0=aj b l/b^j%b:=by
 rcases ep j l.length with hj|hj
 ·have h1:=bQ b (l:=l) (k:=j) oM
  have e:=fk b (l:=l) (k:=j) hj;have c:=bP (Dg.take h j);rw[J4,J5 oM] at c
  have d:0<b^j:=Kj a;rw[h1,Ki _ _ d,JW c,z6,e,KS,AS (h.getD a j)]
 ·rw[bM hj,JW,KQ]
  exact e6 (bP h) (Kb a hj)
theorem uN {b:Nat}{l:List Nat}{k P:Nat}(e:k<l.length)(c:0<b)(h:aj b l<b^k*P):l.getD k 0<P:=by
 have h1:=bQ b (l:=l) (k:=k) oM;have d:=fk b (l:=l) (k:=k) e;have f:0<b^k:=Kj c;refine KT (a:=b^k) ?_;have i:b^k*l.getD k 0≤b^k*aj b (l.drop k):=Ke _ (by rw[d];omega)
 omega
theorem qA (k:Nat):(256:Nat)^k=18446744073709551616^(k/8)*2^(8*(k%8)):=by
 have:k=8*(k/8)+k%8:=by omega
 conv=>lhs;rw[this,Kd,Kg]
 rw[Kg 2 8]
theorem oX {l:List Nat}(a:Wd l)(k:Nat):l.getD (k/8) 0/2^(8*(k%8))%256=aD l/256^k%256:=by
 rw[qL kD a (k/8),qA,←Kk]
 show _=aj 18446744073709551616 l/_/_%256
 generalize aj 18446744073709551616 l/18446744073709551616^(k/8)=y
 have:k%8=0∨k%8=1∨k%8=2∨k%8=3∨k%8=4∨k%8=5∨k%8=6∨k%8=7:=by omega
 rcases this with h|h|h|h|h|h|h|h<;>rw[h]<;>omega
theorem vA (n k:Nat):(wds n).getD (k/8) 0/2^(8*(k%8))%256=n/256^k%256:=by
 rw[oX (Wd.wds n),ay]
theorem uJ {b k:Nat}(a:b<256):b*2^(8*(k%8))<18446744073709551616:=by
 have:k%8=0∨k%8=1∨k%8=2∨k%8=3∨k%8=4∨k%8=5∨k%8=6∨k%8=7:=by omega
 rcases this with h|h|h|h|h|h|h|h<;>rw[h]<;>omega
theorem tI {a b k:Nat}(ha:a<2^(8*(k%8)))(c:b<256):a+b*2^(8*(k%8))<18446744073709551616:=by
 have:k%8=0∨k%8=1∨k%8=2∨k%8=3∨k%8=4∨k%8=5∨k%8=6∨k%8=7:=by omega
 rcases this with h|h|h|h|h|h|h|h<;>rw[h] at ha ⊢ <;> omega
theorem sK {l:List Nat}{n k x:Nat}(h:k/8<l.length)(inv:aD l=n%256^k)(d:x=n/256^k%256) :
  (l.getD (k/8) 0 ||| x*2^(8*(k%8))%18446744073709551616)=l.getD (k/8) 0+x*2^(8*(k%8))∧l.getD (k/8) 0+x*2^(8*(k%8))<18446744073709551616 ∧
  aD (l.set (k/8) (l.getD (k/8) 0+x*2^(8*(k%8))))=n%256^(k+1):=by
 have c:x<256:=by rw[d];exact A4 _ oM
 have a:aD l<256^k:=by rw[inv];exact A4 _ (Kj oM)
 have f:l.getD (k/8) 0<2^(8*(k%8)):=uN (b:=18446744073709551616) h kD (by rw[←qA];exact a);refine ⟨?_,tI f c,?_⟩
 ·rw[AS (uJ c)];exact f5 _ f
 ·have e:=cn 18446744073709551616 (l:=l) (k:=k/8) (l.getD (k/8) 0+x*2^(8*(k%8))) h
  rw[uQ,←d,←inv]
  show aj _ _=aj _ l+_
  have e2:256^k*x=18446744073709551616^(k/8)*(x*2^(8*(k%8))):=by rw[qA k];ac_rfl
  rw[J1] at e
  rw[e2]
  omega
theorem vk (n:Nat):n<256^((nb n+7)/8):=by
 have h:=Hv n;have e:(256:Nat)^((nb n+7)/8)=2^(8*((nb n+7)/8)):=by rw[Kg]
 rw[e];exact e6 h (Kb oM oM)
theorem ma (n:Nat):nb n≤64*(wds n).length:=by
 apply kh
 have:=cZ n
 rwa [show (18446744073709551616:Nat)=2^64 by rfl,←Kg] at this
theorem kU (n:Nat):(wds n).length=(nb n+63)/64:=by
 rcases HA n with h|h
 ·subst h;rfl
 ·have h1:=wP h
  have b:=lc h;have a:=oa n ((wds n).length-1);have e:=kw.2 h
  generalize (wds n).getD ((wds n).length-1) 0=t at *
  have d:=(ci (KC b)).2.2;have c:nb t≤64:=kh (k:=64) a
  omega
section ss
variable {w0:World} {h0:Hp} {w:World} {h:Hp} {B:List Bx} {R:List Rw} {F:List (Hp→Prop)}
end ss
theorem mG {vs cs:List Value}{o:Nat}(h:(vs.drop o).take cs.length=cs)(i:Nat)(v:Value)(hv:cs[i]?=some v):vs[o+i]?=some v:=by
 have hi:i<cs.length:=(KU.1 hv).1;rw[←h,yZ hi,y2] at hv
 exact hv
section laws
variable {M:Ms} {P:Program} {n:Nat} {N R:Po} {X:Nat→Po} {ops:Array Oper} {k k0:Nat} {hr:Hp} {AL:List Al} {L:Array Bool} {Γ:bz} {w:World} {h:Hp} {w0:World} {h0:Hp} {B:List Bx} {Rs:List Rw} {F:List (Hp→Prop)}
theorem jM:∀ (cs vs:List Value) (o:Nat),(cb vs o cs).length=vs.length
 | [],_,_=>rfl
 | c::cs,vs,o=>by show (cb (vs.set o c) (o+1) cs).length=_;rw[jM,KP]
theorem SlO.flat {α:Type}{sz:Nat}{f:α→List Value}{d:α}{A:Option Addr}:∀ {l:List α},(∀ x,(f x).length=sz)→SlO sz f d h A l→Seg h (aB A) (aO A) (l.flatMap f)
  | l,hf,s=>fun i v hv=>by
    have hi:i<(l.flatMap f).length:=(KU.1 hv).1;rw[cw hf] at hi
    rcases HA sz with h0'|hp
    · subst h0';simp at hi
    · have a:i/sz<l.length:=(KG hp).2 hi
      have hr:i%sz<sz:=A4 _ hp;have e:=s.el (i/sz) a (i%sz) v;have c:=fq hf d l (i/sz) a;have b:i/sz*sz+i%sz=i:=by rw[JZ];exact Ku i sz
      have:=e (by rw[←c,yZ hr,y2,b];exact hv)
      rwa [y6,b] at this
theorem j0 {b o:Nat}{news:List Value}(g:G w h)(c:Seg h b o news):∀ j u,news[j]?=some u→w.cell? ((⟨b,o,none⟩:Addr).add j)=some u:=by
 intro j u a;have:=kI g (c j u a)
 unfold Addr.add
 split
 ·rename_i h0;subst h0;exact this
 ·exact this
theorem vJ {α:Type}{f:α→List Value}{l m:List α}:l.flatMap f++m.flatMap f=(l++m).flatMap f:=by simp
theorem I7 {α:Type}(t j:Nat)(ty:TypeId)(sz c:Nat)(A:Option Addr)(l:List α)(f:α→List Value)(d:α)(y:Option Addr)(m:List α)(c2 D:Nat)(z:Value)(s:SS w0 h0 w h B Rs F)(so:SlO sz f d h y m)(o:0<m.length)
  (H:∀ e c' w' h',SS w0 h0 w' h' B (Rs.set j ⟨ty,sz,e,c',(l++m).length,(l++m).flatMap f⟩) F→LG P n N R X ops (k+1) ((t,.slice e (l++m).length c')::Γ) w')
  (J:cL ops Γ k t n=true:=by kernel_rfl)(C:xE P (ev Γ) (ao ops k)=some (.slice A l.length c,.slice y m.length c2,ty,z,sz,D):=by kernel_rfl)(hf:∀ x,(f x).length=sz:=by intro _;rfl)(h1:∀ x,(f x).all (·.oneCell')=true:=by intro _;kernel_rfl)(i:z.cells.size=sz:=by kernel_rfl)(a:0<sz:=by decide)
  (hr:Rs.getD j default=⟨ty,sz,A,c,l.length,l.flatMap f⟩:=by kernel_rfl)(I:decide (j<Rs.length)=true:=by kernel_rfl)(L:l.length+m.length≤1099511627776:=by omega)(M:(l.length+m.length)*D≤140737488355328:=by omega):LG P n N R X ops k Γ w:=by
 have b:=oT I;have K:=so.ok o;rw[K] at C
 refine Ir t j (m.flatMap f) s (j0 s.g (so.flat hf)) (cw hf m) (fun u Q=>?_) b (fG hr b) J C i a L M (fun e c' w' h' p=>?_)
 ·obtain ⟨x,_,O⟩:=KV.1 Q
  exact (i4.1 (h1 x)) u O
 ·have e1:l.length+m.length=(l++m).length:=by simp
  rw[vJ,e1] at p
  rw[e1];exact H e c' w' h' p
theorem SS.newr {α:Type}{f:α→List Value}{l:List α}{sz:Nat}(s:SS w0 h0 w h B Rs F)(ty:TypeId)(hf:∀ x,(f x).length=sz)(i:l.length≤maxLen):SS w0 h0 (w.alloc (.cells (l.flatMap f).toArray ty (0,0))) (h.push junk) B (⟨ty,sz,some ⟨w.heap.size,0,none⟩,l.length,l.length,l.flatMap f⟩::Rs) F:=by
  have u:Up w h (w.alloc (.cells (l.flatMap f).toArray ty (0,0))) (h.push junk):=Up.allocAny s.g _ _ (.inr rfl);have a:=s.step u;refine ⟨a.g0,a.st,fun r hr=>?_,KW.2 ⟨fun r hr=>?_,a.ap⟩,a.mo,a.f⟩
  · rcases g7.1 hr with rfl|hr
    · refine ⟨⟨cw hf l,.inr ⟨w.heap.size,l.length,(l.flatMap f).toArray,rfl,by rw[s.g.size];exact s.st.sz,?_,ey _,i,?_,?_⟩⟩,fun b c=>?_,fun b c i=>?_⟩
      · rw[de];exact fo
      · simp[←cw hf l]
      · show List.take (l.length*sz) (l.flatMap f)=_
        rw[←cw hf l];exact zy
      · simp[Rw.v,A8] at c
        subst c;rw[s.g.size];exact fo
      · simp[Rw.v,A8] at c
        obtain ⟨x,j,e⟩:=g5.1 i;have:=(s.st.own x j).lt;have k:x.b=b:=e
        omega
    · exact a.ro r hr
  · intro b c d
    have:=jV (s.ro r hr).own d
    simp[Rw.v,A8] at c
    omega
theorem HZ {α:Type}(t:Nat)(ty:TypeId)(sz:Nat)(f:α→List Value)(l:List α)(s:SS w0 h0 w h B Rs F)(H:∀ b w' h',SS w0 h0 w' h' B (⟨ty,sz,some ⟨b,0,none⟩,l.length,l.length,l.flatMap f⟩::Rs) F→LG P n N R X ops (k+1) ((t,.slice (some ⟨b,0,none⟩) l.length l.length)::Γ) w')(a:cL ops Γ k t n=true:=by kernel_rfl)
  (hr:(execOp (ev Γ) (ao ops k)).run P w=.ok (.value (.slice (some ⟨w.heap.size,0,none⟩) l.length l.length)) (w.alloc (.cells (l.flatMap f).toArray ty (0,0))):=by kernel_rfl)(hf:∀ x,(f x).length=sz:=by intro _;rfl)(c:KX l.length 1000=true:=by kernel_rfl):LG P n N R X ops k Γ w :=
 LG.val t _ _ (bK a).1 (bK a).2 hr (H _ _ _ (s.newr ty hf (by have:=JM c;unfold maxLen;omega)))
theorem jv (j o:Nat)(cs:List Value)(s:SS w0 h0 w h B Rs F)(H:∀ w',Put (aA B j).b w w'→SS w0 h0 w' h (fY B j o cs) Rs F→LG P n N R X ops (k+1) Γ w')(c:cS ops Γ k=true:=by kernel_rfl)
  (a:(decide (j<B.length) && decide (o+cs.length≤(aA B j).vs.length))=true:=by kernel_rfl)(e:dj P (execOp (ev Γ) (ao ops k))=some (.skip,mm (aA B j).b o cs):=by kernel_rfl):LG P n N R X ops k Γ w :=
 LG.put j o cs s.st s.g0 (ko c).1 (ko c).2 a e (fun w' p d=>H w' p (s.put0 (oT (i1 _ _▸a).1) p d (kN (oT (i1 _ _▸a).1))))
theorem tX (i t:Nat)(A:Option Addr)(len a sz:Nat)(x:Int)(j:Nat)(d:A=some ⟨aB A,aO A,none⟩)(H:AG M P n N R X ops k0 (L.setIfInBounds i true) ((t,.pointer (some ⟨aB A,aO A+j*sz,none⟩))::Γ) w)(c:cT n ops k0 L Γ i t=true:=by kernel_rfl)(e:Cn P (ev Γ) (ao ops i)=some (.slice A len a,.int .i64 x,sz):=by kernel_rfl)(f:x=j:=by omega)(b:j<len:=by omega):AG M P n N R X ops k0 L Γ w :=
 T.val i t _ w (oV c).1 (oV c).2 (gl e d f b w) H
theorem SS.blkp {F1:List (Hp→Prop)}{wr:World}{x:Al}{b:Nat}(a:List Bx)(j:SS w0 h0 wr hr B Rs F1)(s:SS w0 h0 w h (a++B) Rs F)(k:Blk hr w h (x,b))(t:TypeId)(vs:List Value)(p:x.o=.cells vs.toArray t (0,0))(z:a.all (fun y=>y.t != t)=true):SS w0 h0 w h (⟨b,t,vs⟩::(a++B)) Rs F :=
 ⟨s.g0,St.new j.st s.st (fun y d=>by
  rcases List.mem_append.1 d with d|d
  ·right
   intro e;have h1:=s.st.own y (List.mem_append_left _ d);have l:w.heap[b]?=some x.o:=k.1
   unfold Own at h1
   rw[e,l,p] at h1
   injection h1 with h1
   injection h1 with _ h3
   have:=(i4.1 z) y d
   simp only[bne_iff_ne,ne_eq] at this
   exact this h3.symm
  ·exact .inl (a7 (j.st.jk y d))) k t vs p,fun r i=>(s.ro r i).new b (fun c u e=>by
  have h1:=(j.ro r i).lt u;have l:hr.size≤b:=k.2.2
  omega),s.ap,s.mo,s.f⟩
theorem iL {F1:List (Hp→Prop)}{wr:World}{x:Al}(a:List Bx)(c:SS w0 h0 wr hr B Rs F1)(s:SS w0 h0 w h (a++B) Rs F)(t:TypeId)(vs:List Value)(H:∀ w' h' b,SS w0 h0 w' h' (⟨b,t,vs⟩::(a++B)) Rs F→AG M P n N R X ops k0 (L.setIfInBounds x.i true) ((x.t,.pointer (some ⟨b,0,none⟩))::Γ) w')(f:(fv ops [x] L && decide (x.t<n))=true:=by kernel_rfl)(d:x.o=.cells vs.toArray t (0,0):=by kernel_rfl)(e:a.all (fun y=>y.t != t)=true:=by kernel_rfl):EG M P n N R X ops k0 hr [x] L Γ w h :=
 Rg.fin1 f (fun w' h' b u k=>H w' h' b (SS.blkp a c (s.step u) k t vs d e))
end laws
theorem SS.at_ {w:World}{h:Hp}{rb:Nat}{t:TypeId}{vs:List Value}(g:G w h)(o:Own w rb t vs)(j:h[rb]?=some junk):∃ w0 h0,SS w0 h0 w h [⟨rb,t,vs⟩] [] []:=by
 obtain ⟨w0,h0,b,c⟩:=St.at_ g o j;exact ⟨w0,h0,b,c,fun _ a=>(by cases a),.nil,fun _ a=>(by cases a),trivial⟩
theorem SlO.take {α:Type}{sz:Nat}{f:α→List Value}{d:α}{h:Hp}{A:Option Addr}{l:List α}(s:SlO sz f d h A l)(k:Nat):SlO sz f d h A (l.take k) :=
 ⟨fun a=>s.ok (by rw[J4] at a;omega),fun i hi=>by
  rw[J4] at hi
  have:=s.el i oM
  rwa [Kl,yZ oM,←Kl]⟩
theorem SlO.drop {α:Type}{sz:Nat}{f:α→List Value}{d:α}{h:Hp}{A:Option Addr}{l:List α}(s:SlO sz f d h A l)(k c:Nat)(j:l.length≤c):SlO sz f d h (if c=k then A else A.map (·.add (k*sz))) (l.drop k):=by
 rcases ep k l.length with hk|hk
 ·rw[MM oM]
  have b:=s.ok oM
  have a:(⟨aB A,aO A,none⟩:Addr).add (k*sz)=⟨aB A,aO A+k*sz,none⟩:=by
   unfold Addr.add
   split
   ·rename_i h0;rw[h0];rfl
   ·rfl
  have e:A.map (·.add (k*sz))=some ⟨aB A,aO A+k*sz,none⟩:=by rw[b];simp only[um,aB,aO] at a ⊢;rw[←a]
  refine ⟨fun _=>by rw[e];rfl,fun i hi=>?_⟩;rw[e]
  show Seg h (aB A) (aO A+k*sz+i*sz) _
  rw[Kx] at hi
  have:=s.el (k+i) oM;rw[Kr,←y6] at this
  rwa [Kl,y2,←Kl]
 ·rw[KY hk];exact SlO.nil
section ss
variable {w0:World} {h0:Hp} {w:World} {h:Hp} {B:List Bx} {R:List Rw} {F:List (Hp→Prop)}
theorem SS.rowA (s:SS w0 h0 w h B R F)(j:Nat){ty:TypeId}{sz c m:Nat}{A:Option Addr}{cs:List Value}(d:0<m)(hr:R.getD j default=⟨ty,sz,A,c,m,cs⟩:=by kernel_rfl)(f:decide (j<R.length)=true:=by kernel_rfl):∃ b,A=some ⟨b,0,none⟩:=by
 have a:=oT f;have r:=s.ro _ (gs a);rw[fG hr a] at r
 rcases r.own with ⟨_,⟨_,e⟩|⟨b,cap,cur,e,_⟩⟩
 ·simp only[] at e;omega
 ·simp only[Rw.v] at e
  injection e with e
  exact ⟨b,e⟩
theorem SS.rowO (s:SS w0 h0 w h B R F)(j:Nat){ty:TypeId}{sz c m b:Nat}{cs:List Value}(hr:R.getD j default=⟨ty,sz,some ⟨b,0,none⟩,c,m,cs⟩)(a:j<R.length):∃ vs:List Value,Own w b ty vs∧vs.take (m*sz)=cs∧cs.length=m*sz∧h0.size≤b∧m≤c∧c≤maxLen∧vs.length=c*sz:=by
 have r:=s.ro _ (gs a);rw[fG hr a] at r
 rcases r.own with ⟨h1,⟨e,_⟩|⟨g,cap,cur,e,hb,hg,hn,hm,hs,ht⟩⟩
 ·simp[Rw.v] at e
 ·simp only[Rw.v] at e
  injection e with e1 e2 e3
  injection e1 with e1
  injection e1 with e1
  subst e1 e3;exact ⟨cur.toList,by simpa [Own] using hg,ht,h1,hb,hn,hm,by simpa using hs⟩
theorem xg {vs cs:List Value}{k i:Nat}{v:Value}(h:vs.take k=cs)(hv:cs[i]?=some v):vs[i]?=some v:=by
 have hi:i<cs.length:=(KU.1 hv).1;rw[←h] at hi
 rw[J4] at hi
 rw[←h,yZ oM] at hv
 exact hv
theorem lp:∀ (cs vs:List Value) (o k:Nat),o+cs.length≤k→(cb vs o cs).take k=cb (vs.take k) o cs
  | [],_,_,_,_=>rfl
  | c::cs,vs,o,k,h=>by
    show (cb (vs.set o c) (o+1) cs).take k=cb ((vs.take k).set o c) (o+1) cs
    rw[lp cs _ _ _ (by simp only[un] at h;omega),List.take_set]
theorem SS.rowput (s:SS w0 h0 w h B R F)(j:Nat){ty:TypeId}{sz c m b o:Nat}{cs l:List Value}{w':World}{vs:List Value}(hr:R.getD j default=⟨ty,sz,some ⟨b,0,none⟩,c,m,cs⟩)(z:j<R.length)(p:Put b w w')(W:Own w' b ty (cb vs o l))(hv:vs.take (m*sz)=cs)(L:vs.length=c*sz)(Z:o+l.length≤cs.length):SS w0 h0 w' h B (R.set j ⟨ty,sz,some ⟨b,0,none⟩,c,m,cb cs o l⟩) F:=by
  have e0:=fG hr z;have r:=s.ro _ (gs z);rw[e0] at r
  have H:=r.jk b rfl;obtain ⟨_,_,_,O,C,M,I,_⟩:=s.rowO j hr z;have J:∀ x∈B,x.b≠b:=fun x u e=>r.ap b rfl (g5.2 ⟨x,u,e⟩)
  have U:=JG.1 s.ap;refine ⟨s.g0,⟨s.st.up.put p H C s.g0.size,?_,s.st.jk,s.st.lo,s.st.nd⟩,?_,?_,s.mo,s.f⟩
  · intro x u
    show w'.heap[x.b]?=_
    rw[p.blk _ (J x u)];exact s.st.own x u
  · intro x u
    obtain ⟨i,hi,D⟩:=xf.1 u;have a:i<R.length:=by simpa using hi
    by_cases e:j=i
    · subst e
      simp only[JI] at D
      rw[←D];refine ⟨⟨?_,.inr ⟨b,c,(cb vs o l).toArray,rfl,C,W,M,I,by simp[jM,L],?_⟩⟩,r.jk,r.ap⟩
      · show (cb cs o l).length=m*sz;rw[jM];exact O
      · show (cb vs o l).take (m*sz)=cb cs o l
        rw[lp _ _ _ _ oM,hv]
    · rw[JH e] at D
      rw[←D]
      have y:Apart R[i].v R[j].v:=by
        rcases Nat.lt_or_gt_of_ne e with hl'|hl'
        · exact (U j i z a hl').symm
        · exact U i j a z hl'
      rw[e0] at y
      have K:=s.ro _ (gs a);exact ⟨fr K.own (fun d X=>p.blk d (fun V=>y d X (by rw[V];rfl))),K.jk,K.ap⟩
  · refine JG.2 (fun i k hi Y S=>?_)
    have a:i<R.length:=by simpa using hi
    have Q:k<R.length:=by simpa using Y
    have:=U i k a Q S
    by_cases e:j=i
    · subst e
      rw[JI,JH oM];rw[e0] at this
      exact this
    · by_cases e2:j=k
      · subst e2
        rw[JI,JH oM];rw[e0] at this
        exact this
      · rw[JH e,JH e2]
        exact this
theorem SS.rown (s:SS w0 h0 w h B R F)(R':List Rw)(e:R=R'):SS w0 h0 w h B R' F:=e▸s
end ss
theorem iW {α:Type}{f:α→List Value}{sz:Nat}(hf:∀ x,(f x).length=sz)(d:α){o:Nat}{cs:List Value}:∀ (l:List α) (k:Nat) (x:α),k<l.length→o+cs.length≤sz→cb (f (l.getD k d)) o cs=f x→cb (l.flatMap f) (k*sz+o) cs=(l.set k x).flatMap f
  | [],k,x,h,_,_=>by simp at h
  | y::l,0,x,h,ho,e=>by
    simp only[y7,zZ,z6,KZ,List.getD_cons_zero] at e ⊢
    rw[←e];exact putAt_left _ _ _ _ (by rw[hf];exact ho)
  | y::l,k+1,x,h,ho,e=>by
    simp only[y7,List.set_cons_succ,zz] at e ⊢
    rw[Nat.succ_mul,show k*sz+sz+o=(f y).length+(k*sz+o) by rw[hf];omega,ge,iW hf d l k x (by simpa using h) ho e]
where
  putAt_left:∀ (cs a b:List Value) (o:Nat),o+cs.length≤a.length→cb (a++b) o cs=cb a o cs++b
    | [],_,_,_,_=>rfl
    | c::cs,a,b,o,h=>by
      show cb ((a++b).set o c) (o+1) cs=cb (a.set o c) (o+1) cs++b
      simp only[un] at h
      rw[List.set_append_left _ _ oM,putAt_left cs _ b _ (by rw[KP];omega)]
section laws
variable {M:Ms} {P:Program} {n:Nat} {N R:Po} {X:Nat→Po} {ops:Array Oper} {k k0:Nat} {hr:Hp} {AL:List Al} {L:Array Bool} {Γ:bz} {w:World} {h:Hp} {w0:World} {h0:Hp} {B:List Bx} {Rs:List Rw} {F:List (Hp→Prop)}
theorem SS.rowrun {α:Type}{w':World}{d:Sem α}{r:α}(s:SS w0 h0 w h B Rs F)(j:Nat){ty:TypeId}{sz c m b o:Nat}{cs e:List Value}(l:Rs.getD j default=⟨ty,sz,some ⟨b,0,none⟩,c,m,cs⟩)(p:j<Rs.length)(k:(cs.drop o).take e.length=e)(x:Ext w w')(y:bS P d e=some (r,kB b o e.length)):d.run P w'=.ok r w':=by
 obtain ⟨vs,u,hv,_⟩:=s.rowO j l p;exact bL _ _ _ _ y (fun i a v ha f=>by rw[ei _ _ _ _ _ ha,(u.ext x).cell];exact xg hv (mG k i v f))
theorem Hy (t j:Nat)(v:Value)(a:List Value){ty:TypeId}{sz c m b o:Nat}{cs:List Value}(s:SS w0 h0 w h B Rs F)(e:(cs.drop o).take a.length=a)(H:LG P n N R X ops (k+1) ((t,v)::Γ) w)(d:Rs.getD j default=⟨ty,sz,some ⟨b,0,none⟩,c,m,cs⟩:=by kernel_rfl)(i:decide (j<Rs.length)=true:=by kernel_rfl)(f:cL ops Γ k t n=true:=by kernel_rfl)(l:bS P (execOp (ev Γ) (ao ops k)) a=some (.value v,kB b o a.length):=by kernel_rfl):LG P n N R X ops k Γ w :=
 LG.val t v w (bK f).1 (bK f).2 (s.rowrun j d (oT i) e (Ext.refl _) l) H
theorem Jw (j o:Nat)(a:List Value){ty:TypeId}{sz c m b:Nat}{cs:List Value}(s:SS w0 h0 w h B Rs F)(J:o+a.length≤cs.length)(H:∀ w',SS w0 h0 w' h B (Rs.set j ⟨ty,sz,some ⟨b,0,none⟩,c,m,cb cs o a⟩) F→LG P n N R X ops (k+1) Γ w')(e:Rs.getD j default=⟨ty,sz,some ⟨b,0,none⟩,c,m,cs⟩:=by kernel_rfl)(x:decide (j<Rs.length)=true:=by kernel_rfl)(u:cS ops Γ k=true:=by kernel_rfl)
  (D:dj P (execOp (ev Γ) (ao ops k))=some (.skip,mm b o a):=by kernel_rfl):LG P n N R X ops k Γ w:=by
 have f:=oT x;obtain ⟨vs,C,hv,z,_,y,_,i⟩:=s.rowO j e f
 have p:o+a.length≤vs.length:=by
  have:=congrArg K0 hv;rw[J4] at this
  omega
 obtain ⟨w',d,I,l⟩:=eh _ _ o a vs w D C p;exact LG.store w' (ko u).1 (ko u).2 d (H w' (s.rowput j e f I l hv i J))
theorem Jx (i j o:Nat)(a:List Value){ty:TypeId}{sz c m b:Nat}{cs:List Value}(s:SS w0 h0 w h B Rs F)(S:o+a.length≤cs.length)(H:∀ w',SS w0 h0 w' h B (Rs.set j ⟨ty,sz,some ⟨b,0,none⟩,c,m,cb cs o a⟩) F→AG M P n N R X ops k0 (L.setIfInBounds i true) Γ w')(f:Rs.getD j default=⟨ty,sz,some ⟨b,0,none⟩,c,m,cs⟩:=by kernel_rfl)(C:decide (j<Rs.length)=true:=by kernel_rfl)
  (O:(gm ops k0 L i && bj Γ (ao ops i) && ((ao ops i).dst == none))=true:=by kernel_rfl)(y:bA ops Γ (ao ops i)=some true:=by kernel_rfl)
  (Q:dj P (execOp (ev Γ) (ao ops i))=some (.skip,mm b o a):=by kernel_rfl)(hz:∀ K bs,M.z=some (K,bs)→K≤b∨b∈bs:=by intro _ _ e;cases e):AG M P n N R X ops k0 L Γ w:=by
 have k:=oT C;obtain ⟨vs,J,hv,I,_,D,_,l⟩:=s.rowO j f k
 have u:o+a.length≤vs.length:=by
  have:=congrArg K0 hv;rw[J4] at this
  omega
 obtain ⟨w',d,x,p⟩:=eh _ _ o a vs w Q J u;exact T.store i w' O y d (x.tl hz) (H w' (s.rowput j f k x p hv l S))
theorem FM (i t j:Nat)(v:Value)(a:List Value){ty:TypeId}{sz c m b o:Nat}{cs:List Value}(s:SS w0 h0 w h B Rs F)(d:(cs.drop o).take a.length=a)(H:EG ⟨[],none⟩ P n N R X ops k0 hr AL (L.setIfInBounds i true) ((t,v)::Γ) w h)(e:Rs.getD j default=⟨ty,sz,some ⟨b,0,none⟩,c,m,cs⟩:=by kernel_rfl)(k:decide (j<Rs.length)=true:=by kernel_rfl)(f:x5 n ops k0 AL L Γ i t=true:=by kernel_rfl)(l:bS P (execOp (ev Γ) (ao ops i)) a=some (.value v,kB b o a.length):=by kernel_rfl):EG ⟨[],none⟩ P n N R X ops k0 hr AL L Γ w h :=
 Rg.load i t v (gY f).1 (gY f).2 (fun _ p=>s.rowrun j e (oT k) d p.ext l) H
end laws
theorem qU (x y:Int):(if y>x then y else x)=max x y:=by omega
theorem em (x y:Int):(if y<x then y else x)=min x y:=by omega
section z
variable {bs:List Nat} {P:Program} {n:Nat} {N R:Po} {X:Nat→Po} {ops:Array Oper} {k0:Nat} {hr:Hp} {AL:List Al} {L:Array Bool} {Γ:bz} {w wr:World} {h:Hp} {w0:World} {h0:Hp} {B:List Bx} {Rs:List Rw} {F F1:List (Hp→Prop)}
abbrev Mz (hr:Hp)(bs:List Nat):Ms:=⟨[],some (hr.size,bs)⟩
theorem BR {id:Nat}{d:Bool}(k0:Nat)(AL:List Al)(bs:List Nat)(e:P.follows .mixedOrders=true)(s:SS w0 h0 w h B Rs F)(b:∀ x∈AL,AlOk P ops k0 x)(H:EG (Mz h bs) P n N R X ops k0 h AL (sA ops.size false) Γ w h)(a:kG ops=true:=by kernel_rfl):CG P n N R X (.region id ops d) Γ w :=
 CG.region (Mz h bs) k0 AL e a s.g b (fun _ c=>by cases c) H
theorem GJ (c:SS w0 h0 wr hr B Rs F1)(s:SS w0 h0 w h B Rs F){w':World}(e:∀ b,b<hr.size→b ∉ bs→b ∉ ([]:List Nat)→w'.heap[b]?=w.heap[b]?):∀ x∈B,x.b ∉ bs→Own w' x.b x.t x.vs:=fun x a d =>
 (e x.b (a7 (c.st.jk x a)) d List.not_mem_nil).trans (s.st.own x a)
theorem ut (i t:Nat)(ps:List (Nat × Nat × Nat))(v:Value)(c:SS w0 h0 wr hr B Rs F1)(s:SS w0 h0 w h B Rs F)(H:EG (Mz hr bs) P n N R X ops k0 hr AL (L.setIfInBounds i true) ((t,v)::Γ) w h)(hM:∀ p∈ps,(aA B p.1).b ∉ bs:=by intro _ _;exact List.not_mem_nil)(a:cE n ops k0 AL L Γ i t=true:=by kernel_rfl)(d:bY B ps=true:=by kernel_rfl)(f:bS P (execOp (ev Γ) (ao ops i)) (cA B ps)=some (.value v,bT B ps):=by kernel_rfl):EG (Mz hr bs) P n N R X ops k0 hr AL L Γ w h :=
 Rg.loadZ i t v rfl (jW a).1 (jW a).2 (fun w' e=>bL _ _ _ _ f (eW hM (GJ c s e) ps (fun _ h=>h) d)) H
theorem DV {x y:Al}(z:SS w0 h0 wr hr B Rs F)(s:SS w0 h0 w h B Rs F)(t:TypeId)(vs:List Value)(p:TypeId)(j:List Value)(H:∀ w' h' b c,hr.size≤b→hr.size≤c→SS w0 h0 w' h' (⟨b,t,vs⟩::⟨c,p,j⟩::B) Rs F→AG (Mz hr bs) P n N R X ops k0 ((L.setIfInBounds y.i true).setIfInBounds x.i true) ((x.t,.pointer (some ⟨b,0,none⟩))::(y.t,.pointer (some ⟨c,0,none⟩))::Γ) w')(K:(fv ops [x,y] L && decide (x.t<n) && decide (y.t<n) && (x.t != y.t) && (x.i != y.i))=true:=by kernel_rfl)(J:x.o=.cells vs.toArray t (0,0):=by kernel_rfl)(C:y.o=.cells j.toArray p (0,0):=by kernel_rfl):EG (Mz hr bs) P n N R X ops k0 hr [x,y] L Γ w h :=
 Rg.fin2 K (fun w' h' b c u k k2 l=>H w' h' b c k.2.2 k2.2.2 ⟨s.g0,St.new2 z.st (s.st.step u) k k2 l t vs J p j C,fun r a=>(((s.step u).ro r a).new c (fun d D e=>by
  have h1:=(z.ro r a).lt D;have I:hr.size≤c:=k2.2.2
  omega)).new b (fun d D e=>by
  have h1:=(z.ro r a).lt D;have I:hr.size≤b:=k.2.2
  omega),s.ap,s.mo,(s.step u).f⟩)
theorem ik {b:Nat}(c:hr.size≤b):∀ K a,(Mz hr bs).z=some (K,a)→K≤b∨b∈a:=fun K a e=>by
 injection e with e
 injection e with e1 e2
 subst e1;exact .inl c
theorem ej {b:Nat}(c:b∈bs):∀ K a,(Mz hr bs).z=some (K,a)→K≤b∨b∈a:=fun K a e=>by
 injection e with e
 injection e with e1 e2
 subst e2;exact .inr c
end z
theorem fC {α:Type}{f:α→List Value}{sz:Nat}(hf:∀ x,(f x).length=sz)(d:α)(l:List α)(k:Nat)(a:k<l.length):((l.flatMap f).drop (0+k*sz)).take (f (l.getD k d)).length=f (l.getD k d):=by
 rw[z6,hf];exact fq hf d l k a
section row
variable {P:Program} {n:Nat} {N R:Po} {X:Nat→Po} {ops:Array Oper} {k:Nat} {Γ:bz} {w:World} {h:Hp} {w0:World} {h0:Hp} {B:List Bx} {Rs:List Rw} {F:List (Hp→Prop)}
theorem EZ {α:Type}(j e i:Nat)(a:List Value)(l:List α)(f:α→List Value)(sz:Nat)(d x:α){ty:TypeId}{c b:Nat}(s:SS w0 h0 w h B Rs F)(y:e<l.length)(H:∀ w',SS w0 h0 w' h B (Rs.set j ⟨ty,sz,some ⟨b,0,none⟩,c,l.length,(l.set e x).flatMap f⟩) F→LG P n N R X ops (k+1) Γ w')
  (J:cb (f (l.getD e d)) i a=f x:=by rfl)(hf:∀ x,(f x).length=sz:=by intro _;rfl)(C:KX (i+a.length) sz=true:=by kernel_rfl)(o:Rs.getD j default=⟨ty,sz,some ⟨b,0,none⟩,c,l.length,l.flatMap f⟩:=by kernel_rfl)(z:decide (j<Rs.length)=true:=by kernel_rfl)(D:cS ops Γ k=true:=by kernel_rfl)
  (I:dj P (execOp (ev Γ) (ao ops k))=some (.skip,mm b (0+e*sz+i) a):=by kernel_rfl):LG P n N R X ops k Γ w:=by
 have p:=JM C;refine Jw j (0+e*sz+i) a s ?_ (fun w' u=>H w' ?_) o z D I
 ·rw[cw hf,z6]
  have:(e+1)*sz≤l.length*sz:=z7 _ y;rw[Kr,Kt] at this
  omega
 ·rw[z6,iW hf d l e x y p J] at u
  exact u
end row
section rb
variable {w0:World} {h0:Hp} {w:World} {h:Hp} {B:List Bx} {R:List Rw} {F:List (Hp→Prop)}
end rb
theorem oO {P:Program}(w:World)(t ty e:TypeId)(i:TypeInfo)(z:Value)(d:P.underlying t=some (.slice e))(hi:P.info? e=some i)(hz:i.zero=some z)(f a:Addr)(m c:Nat)(news:List Value)(h:news.length=m*i.size)(b:∀ j u,news[j]?=some u→w.cell? (a.add j)=some u)(o:0<m)(k:m≤1099511627776)(l:m*i.bytes≤140737488355328) :
  (Builtin.append_ #[t,t] ty #[.slice (some f) 0 0,.slice (some a) m c]).run P w=(Builtin.append_ #[t,t] ty #[.slice none 0 0,.slice (some a) m c]).run P w:=by
 rw[run_append_grow (P:=P) w t ty e i z d hi hz f 0 0 [] (by simp) (by simp) a m c news h b oM oM (growslice_fits oM (by simpa using l)),
  run_append_nil (P:=P) w t ty e i z d hi hz a m c news h b oM oM oM]
 simp
section app
variable {M:Ms} {P:Program} {n:Nat} {N R:Po} {X:Nat→Po} {ops:Array Oper} {k k0:Nat} {hr:Hp} {AL:List Al} {L:Array Bool} {Γ:bz} {w:World} {h:Hp} {w0:World} {h0:Hp} {B:List Bx} {Rs:List Rw} {F:List (Hp→Prop)}
theorem xq {o:Oper}{x y:Operand}{t e:TypeId}{z:Value}{sz C m2 c:Nat}{news:List Value}{F a:Addr}(S:o.op=.call { callee:=.builtin .append,args:=#[x,y],argTypes:=#[t,t] })
    (W:ev Γ x=.slice (some F) 0 0)(Q:ev Γ y=.slice (some a) m2 c)(K:P.underlying t=some (.slice e))(hi:(P.info? e).map (fun i=>(i.zero,i.size,i.bytes))=some (some z,sz,C))(l:z.cells.size=sz)(k:0<sz)
    (s:St w0 h0 w h B)(L:news.length=m2*sz)(d:∀ j u,news[j]?=some u→w.cell? (a.add j)=some u)(h1:∀ u∈news,u.oneCell'=true)(p:0<m2)
    (V:m2≤1099511627776)(J:m2*C≤140737488355328) :
    ∃ v' w',(execOp (ev Γ) o).run P w=.ok (.value v') w'∧w'.ownsRow h0.size e sz v' (0+m2) ([]++news)∧w.grownBy w' (Dx none 0 0).ownBlock∧(v'.ownBlock=(Dx none 0 0).ownBlock∨v'.ownBlock=some w.heap.size):=by
  cases b:P.info? e with
  | none=>rw[b] at hi;cases hi
  | some inf =>
    rw[b] at hi
    simp only[um,Option.some.injEq,Prod.mk.injEq] at hi
    obtain ⟨H,I,D⟩:=hi;obtain ⟨v',w',f,O,U,X,M⟩:=run_append_own_at (P:=P) w h0.size t o.type e inf z sz C K b H I D l k (.slice none 0 0) 0 [] (World.ownsRow_nil _ _ _ _) a m2 c news L d h1 (by unfold maxLen;omega) (by rw[z6];exact J) (by rw[s.g.size];exact s.sz);refine ⟨v',w',?_,O,U,M⟩;rw[←oO (P:=P) w t o.type e inf z K b H F a m2 c news (by rw[I];exact L) d p V (by rw[D];exact J)] at f
    unfold execOp
    simp only[S,resolve,invoke,builtin,Sem.run_bind,Sem.run_pure,K1,K2,B1,K3,W,Q,f]
theorem SS.appE (s:SS w0 h0 w h B Rs F){o:Oper}{ty:TypeId}{sz L c2 W:Nat}{z:Value}{α:Type}{f:α→List Value}{d:α}{J:Option Addr}{m:List α}(K:xE P (ev Γ) o=some (.slice (some ⟨W,0,none⟩) 0 0,.slice J m.length c2,ty,z,sz,L))(so:SlO sz f d h J m)(b:0<m.length)(h1:∀ x∈m,(f x).all (·.oneCell')=true)(hf:∀ x,(f x).length=sz)(p:z.cells.size=sz)(i:0<sz)(U:m.length≤1099511627776)(V:m.length*L≤140737488355328) :
  ∃ l c' w' h',(execOp (ev Γ) o).run P w=.ok (.value (.slice l m.length c')) w'∧Up w h w' h'∧SS w0 h0 w' h' B (⟨ty,sz,l,c',m.length,m.flatMap f⟩::Rs) F:=by
 rw[so.ok b] at K
 obtain ⟨Y,y,X,Q,C,O,D,hi⟩:=n8 K
 obtain ⟨v',w',e,M,a,k⟩:=xq (P:=P) Q C O D hi p i s.st (cw hf m) (j0 s.g (so.flat hf)) (fun u D=>by
  obtain ⟨x,H,C⟩:=KV.1 D;exact (i4.1 (h1 x H)) u C) b U V
 obtain ⟨h',l,c',rfl,e2,I⟩:=(s.nil ty sz).grown (j:=0) (by simp) (w':=w') (v':=v') (m2:=m.length) (news:=m.flatMap f) M a k;refine ⟨l,c',w',h',?_,⟨⟨a.os,a.tape,a.output,a.size,fun c S=>a.block c S (by simp[A8])⟩,e2,I.g⟩,?_⟩
 ·rw[e];simp
 ·simpa using I
theorem Jr {α:Type}(t:Nat)(ty:TypeId)(sz:Nat)(f:α→List Value)(d:α)(D:Nat)(j:Option Addr)(m:List α)(c2 o:Nat)(z:Value)(s:SS w0 h0 w h B Rs F)(so:SlO sz f d h j m)(i:0<m.length)(h1:∀ x∈m,(f x).all (·.oneCell')=true)
  (H:∀ c c' w' h',SS w0 h0 w' h' B (⟨ty,sz,c,c',m.length,m.flatMap f⟩::Rs) F→LG P n N R X ops (k+1) ((t,.slice c m.length c')::Γ) w')
  (l:cL ops Γ k t n=true:=by kernel_rfl)(u:xE P (ev Γ) (ao ops k)=some (.slice (some ⟨D,0,none⟩) 0 0,.slice j m.length c2,ty,z,sz,o):=by kernel_rfl)(hf:∀ x,(f x).length=sz:=by intro _;rfl)(e:z.cells.size=sz:=by kernel_rfl)(b:0<sz:=by decide)(y:m.length≤1099511627776:=by omega)(C:m.length*o≤140737488355328:=by omega):LG P n N R X ops k Γ w:=by
 obtain ⟨c,c',w',h',a,_,p⟩:=s.appE (P:=P) u so i h1 hf e b y C;exact LG.val t _ w' (bK l).1 (bK l).2 a (H c c' w' h' p)
end app
section fin
variable {M:Ms} {P:Program} {n:Nat} {N R:Po} {X:Nat→Po} {ops:Array Oper} {k0:Nat} {hr:Hp} {AL:List Al} {L:Array Bool} {Γ:bz} {w:World} {h:Hp} {w0:World} {h0:Hp} {B:List Bx} {Rs:List Rw} {F:List (Hp→Prop)}
end fin
def aZ (x:Nat):List Value:=[.int .u32 (x:Nat)]
abbrev S3 (A:Option Addr)(l:List Nat):Hp→Prop:=fun h_=>SlO 1 aZ 0 h_ A l
theorem m7:∀ f n:Nat,oz f n=oh 4294967296 f n
  | 0,_=>rfl
  | f+1,n=>by
    unfold oz oh
    split
    · rfl
    · rw[m7 f]
theorem r5 (n:Nat):lim n=f6 4294967296 n:=m7 n n
def Ld (l:List Nat):Prop:=Dg 4294967296 l
theorem Ld.lim (n:Nat):Ld (lim n):=fun x a=>jT n x a
theorem Ld.get {l:List Nat}(h:Ld l)(k:Nat):l.getD k 0<4294967296:=Dg.getD h kD k
theorem Ld.set {l:List Nat}(h:Ld l)(k:Nat){x:Nat}(a:x<4294967296):Ld (l.set k x):=Dg.set h k a
theorem Ld.rep (n:Nat):Ld (Am n 0):=Dg.rep kD
theorem cG (n:Nat):aj 4294967296 (lim n)=n:=by rw[←jY];exact fI n
theorem qM {l:List Nat}(h:Ld l){n:Nat}(e:aj 4294967296 l=n):lim n=l.take (tl l l.length):=by
 rw[←e,←jY];exact wL h
theorem k6 {l:List Nat}(h:Ld l){n:Nat}(e:aj 4294967296 l=n):(lim n).length=tl l l.length:=by
 rw[qM h e,J4];have:=gu l l.length;omega
theorem cj (n:Nat):n<4294967296^(lim n).length:=by rw[r5];exact iS kD n
theorem dg {a b:Nat}(h:a≤b):(lim a).length≤(lim b).length:=dQ (JS h (cj b))
theorem fR {a b k:Nat}(h:a≤b)(c:(lim b).length≤k):(lim a).length≤k:=ez (dg h) c
theorem gK {a b k:Nat}(ha:(lim a).length≤k)(c:(lim b).length≤k):(lim (a+b)).length≤k+1:=by
 refine dQ ?_;have h1:=cj a;have e:=cj b;have d:4294967296^(lim a).length≤4294967296^k:=Kb kD ha;have f:4294967296^(lim b).length≤4294967296^k:=Kb kD c;rw[JY]
 omega
theorem fO {a b:Nat}:(lim (a*b)).length≤(lim a).length+(lim b).length:=by
 refine dQ ?_;rw[Kd];exact Nat.mul_lt_mul'' (cj a) (cj b)
theorem rm (n:Nat):(lim n).length≤2*(wds n).length:=by
 refine dQ ?_;have:=cZ n
 rwa [show (18446744073709551616:Nat)=4294967296^2 by rfl,←Kg] at this
theorem BW (n:Nat):(wds n).length≤(lim n).length:=by
 refine fE kD ?_;have:=cj n;exact e6 this (Nat.pow_le_pow_left kD _)
theorem fM {a b:Nat}(h:(lim a).length<(lim b).length):a<b:=by
 rcases ep a b with hl|hl
 ·exact hl
 ·have:=dg hl;omega
theorem C0 {a b:Nat}(h:lim a=lim b):a=b:=by rw[←fI a,←fI b,h]
theorem gh {a b k:Nat}(d:(lim a).length=(lim b).length)(j:k<(lim a).length)(f:(lim a).drop (k+1)=(lim b).drop (k+1))(c:(lim a).getD k 0<(lim b).getD k 0):a<b:=by
 have e:=bQ 4294967296 (l:=lim a) (k:=k+1) oM;have i:=bQ 4294967296 (l:=lim b) (k:=k+1) oM;rw[cG] at e i
 rw[f] at e
 have o:=aU 4294967296 (l:=lim a) (k:=k) j;have p:=aU 4294967296 (l:=lim b) (k:=k) oM;have h:=bP (Dg.take (Ld.lim a) k);rw[J4,J5 oM] at h
 have u:4294967296^k*(lim a).getD k 0+4294967296^k≤4294967296^k*(lim b).getD k 0:=by
  rw[←KB];exact Ke _ c
 omega
def RN (h:Hp)(v:Value)(n:Nat):Prop:=Ij 1 aZ 0 h v (lim n)
def RI (h:Hp)(v:Value)(z:Int):Prop:=∃ A c,v=.agg #[.bool (ai z),.slice A (lim (ab z)).length c]∧(lim (ab z)).length≤c∧SlO 1 aZ 0 h A (lim (ab z))
def RP (h:Hp)(v:Value)(z:Int)(n:Nat):Prop:=∃ A c B d,v=.agg #[.bool (ai z),.slice A (lim (ab z)).length c,.slice B (lim n).length d]∧(lim (ab z)).length≤c∧(lim n).length≤d∧SlO 1 aZ 0 h A (lim (ab z))∧SlO 1 aZ 0 h B (lim n)
def RQ (h:Hp)(v:Value)(q:Rat):Prop:=RP h v q.num q.den
theorem RP.gw {h h':Hp}{v:Value}{z:Int}{n:Nat}(r:RP h v z n)(u:Gw h h'):RP h' v z n:=by
 obtain ⟨A,c,B,d,h1,e,a,f,b⟩:=r;exact ⟨A,c,B,d,h1,e,a,f.gw u,b.gw u⟩
theorem RQ.gw {h h':Hp}{v:Value}{q:Rat}(r:RQ h v q)(u:Gw h h'):RQ h' v q:=RP.gw r u
theorem RN.trim {h:Hp}{A:Option Addr}{l:List Nat}{n m a:Nat}(b:Ld l)(e:aj 4294967296 l=n)(c:l.length=m)(d:m≤a)(s:SlO 1 aZ 0 h A l):RN h (.slice A (tl l m) a) n:=by
 subst c;have e1:=k6 b e;have:=gu l l.length;refine ⟨A,a,by rw[e1],by omega,?_⟩;rw[qM b e];exact s.take _
theorem qR {h:Hp}{p b:Bool}{n a:Nat}{A:Option Addr}(c:b=(p && decide (0<n)))(d:(lim n).length≤a)(e:SlO 1 aZ 0 h A (lim n)):RI h (.agg #[.bool b,.slice A (lim n).length a]) (bC p n):=by
 subst c;refine ⟨A,a,?_,?_,?_⟩
 ·rw[i8,eD]
 ·rw[eD];exact d
 ·rw[eD];exact e
theorem Cr {l:List Nat}{m:Nat}(h:0<m)(h0:l.getD (m-1) 0=0):tl l m=tl l (m-1):=by
 obtain ⟨k,rfl⟩:∃ k,m=k+1:=⟨m-1,by omega⟩;rw[kA,MN (by simpa using h0)];rfl
theorem vd {b:Nat}{z:List Nat}{i c c' s t X:Nat}(hi:i<z.length)(h0:z.getD i 0=0)(inv:aj b z+b^i*c=X)(e:s+b*c'=c+t):aj b (z.set i s)+b^(i+1)*c'=X+b^i*t:=by
 have h1:=cn b s hi;rw[h0,J6,y8] at h1
 have e2:=congrArg (b^i * ·) e
 simp only[J1] at e2
 rw[JY,J2,h1]
 omega
theorem rB {b:Nat}{z:List Nat}{c v:Nat}(inv:aj b z+b^z.length*c=v)(h:v<b^z.length):aj b z=v:=by
 rcases HA c with hc|hc
 ·subst hc;rw[J6,y8] at inv;exact inv
 ·have:b^z.length*1≤b^z.length*c:=Ke _ hc
  omega
theorem oD {l:List Nat}{k x:Nat}(a:k<l.length)(h:∀ i,k≤i→l.getD i 0=0):∀ i,k+1≤i→(l.set k x).getD i 0=0:=fun i hi=>by rw[bF a,MM oM];exact h i oM
theorem vw {b:Nat}{z:List Nat}{x y c:Nat}(d:Dg b z)(inv:aj b z+y=x+b^z.length*c)(a:y≤x):aj b z=x-y:=by
 have h1:=bP d
 rcases HA c with hc|hc
 ·subst hc;rw[J6,y8] at inv;omega
 ·have:b^z.length*1≤b^z.length*c:=Ke _ hc
  omega
theorem Cq {b:Nat}{z y x:List Nat}{i c c' s:Nat}(hi:i<z.length)(h0:z.getD i 0=0)(inv:aj b z+aj b (y.take i)=aj b (x.take i)+b^i*c)(e:s+y.getD i 0+c=x.getD i 0+b*c') :
  aj b (z.set i s)+aj b (y.take (i+1))=aj b (x.take (i+1))+b^(i+1)*c':=by
 have h1:=cn b s hi;rw[h0,J6,y8] at h1
 have e2:=congrArg (b^i * ·) e
 simp only[J1] at e2
 rw[aR,aR,JY,J2,h1]
 omega
theorem vi {x y c t:Nat}(b:x<4294967296)(e:y<4294967296)(d:c≤1)(a:t=((x+(18446744073709551616-y))%18446744073709551616+(18446744073709551616-c))%18446744073709551616):t%4294967296+y+c=x+4294967296*(t/9223372036854775808)∧t/9223372036854775808≤1:=by
 subst a
 omega
theorem qN {r x:Nat}(a:x<4294967296):r*4294967296 ||| x=r*4294967296+x:=by
 have:=KA (i:=32) (b:=x) oM r;rw[JZ];exact this.symm
theorem tH {r x d:Nat}(a:0<d)(hr:r<d)(b:x<4294967296)(c:d<4294967296) :
  (r*4294967296+x)/d%4294967296=(r*4294967296+x)/d∧r*4294967296+x=d*((r*4294967296+x)/d)+(r*4294967296+x)%d∧(r*4294967296+x)%d<d:=by
 refine ⟨AS ?_,(Ku _ _).symm,A4 _ a⟩;rw[KG a];have h1:(r+1)*4294967296≤d*4294967296:=z7 _ hr;rw[JZ]
 omega
theorem uP {b:Nat}{l z:List Nat}{m d r a q X:Nat}(i:0<m)(h:m-1<z.length)(h0:z.getD (m-1) 0=0)(inv:X=d*aj b z+(b^m*r+aj b (l.take m)))(e:r*b+l.getD (m-1) 0=d*q+a) :
  X=d*aj b (z.set (m-1) q)+(b^(m-1)*a+aj b (l.take (m-1))):=by
 obtain ⟨k,rfl⟩:∃ k,m=k+1:=⟨m-1,by omega⟩;rw[KH] at *
 have h1:=cn b q h;rw[h0,J6,y8] at h1
 have e2:=congrArg (b^k * ·) e
 simp only[J1] at e2
 rw[inv,h1,aR,JY,J1];have f:b^k*(r*b)=b^k*b*r:=by rw[JZ r b,J2]
 have c:b^k*(d*q)=d*(b^k*q):=by ac_rfl
 rw[f,c] at e2
 omega
theorem wQ (k:Nat):(2:Nat)^k=4294967296^(k/32)*2^(k%32):=by
 have:k=32*(k/32)+k%32:=by omega
 conv=>lhs;rw[this,Kd,Kg]
theorem GG {x p c:Nat}(e:p<32)(d:x<4294967296)(a:c<2^p) :
  (c ||| x*2^p%18446744073709551616)=c+x*2^p∧c+x*2^p<18446744073709551616∧(c+x*2^p)/4294967296<2^p:=by
 have h0:2^p≤2^31:=Kb kD oM;have h1:x*2^p≤4294967295*2^p:=z7 _ oM;have b:x*2^p<18446744073709551616:=by omega
 refine ⟨?_,by omega,?_⟩
 ·rw[AS b];exact f5 p a
 ·rw[KG kD];omega
theorem ux {b:Nat}{l:List Nat}{i c P Q s x:Nat}{a:List Nat}(h:0<b)(inv:aj b l+b^l.length*c=b^Q*(P*aj b (a.take i)))(d:l.length=Q+i)(f:s=c+x*P)(e:x=a.getD i 0) :
  aj b (l++[s%b])+b^(l++[s%b]).length*(s/b)=b^Q*(P*aj b (a.take (i+1))):=by
 have e1:b^l.length*s=b^l.length*(s%b)+b^l.length*(b*(s/b)):=by rw[←J1,KO]
 have e2:b^l.length*s=b^l.length*c+b^Q*(P*(b^i*x)):=by
  rw[f,J1,d,Kd]
  congr 1
  ac_rfl
 rw[bX,zY,aR,←e,J1 P,J1 (b^Q),←inv]
 show _+b^l.length*(s%b+b*0)+b^(l.length+1)*_=_
 rw[J6,y8,JY,J2]
 omega
theorem Ld.app {l:List Nat}(h:Ld l){x:Nat}(a:x<4294967296):Ld (l++[x]):=Dg.append h (Dg.one a)
theorem ui {a n q m p:Nat}(h:a<4294967296^n)(b:p≤32)(d:m=q+(n+1)):a*(4294967296^q*2^p)<4294967296^m:=by
 have h1:(2:Nat)^p≤4294967296:=ez (Kb kD b) (ey (2^32));subst d;rw[Kd,JY];have c:a*2^p<4294967296^n*4294967296:=e6 (KK h (Ka p)) (Ke _ h1);have e:a*(4294967296^q*2^p)=4294967296^q*(a*2^p):=by ac_rfl
 rw[e];exact Ko c (Kj kD)
theorem F7 {x y p:Nat}(k:p<32)(j:x<4294967296)(o:y<4294967296) :
  (x ||| y*4294967296%18446744073709551616)=x+y*4294967296∧x+y*4294967296<18446744073709551616 ∧
  2^p*((x+y*4294967296)/2^p%4294967296)+x%2^p=x+4294967296*(y%2^p):=by
 have h0:2^p*2^(32-p)=4294967296:=by rw[←Kd,show p+(32-p)=32 by omega]
 have b:=Ka p;refine ⟨?_,by omega,?_⟩
 ·rw[AS oM]
  exact f5 32 oM
 ·-- y=2^p*y1+y0
  have h:=Ku y (2^p);have f:=Ku x (2^p)
  generalize y/2^p=y1 at *
  generalize hy0:y%2^p=y0 at *
  generalize hxq:x/2^p=x1 at *
  generalize hx0:x%2^p=x0 at *
  have d:x0<2^p:=by rw[←hx0];exact A4 _ b
  have c:y0<2^p:=by rw[←hy0];exact A4 _ b
  have i:x1<2^(32-p):=by
   refine KT (a:=2^p) ?_
   omega
  have e:x+y*4294967296=2^p*(x1+2^(32-p)*(2^p*y1+y0))+x0:=by
   rw[←f,←h,J1,←J2 (2^p) (2^(32-p)),h0]
   generalize 2^p*y1+y0=Y
   omega
  rw[e,KR b,JW d,y8]
  have e2:x1+2^(32-p)*(2^p*y1+y0)=(x1+2^(32-p)*y0)+4294967296*y1:=by
   rw[J1,←J2,JZ (2^(32-p)) (2^p),h0];omega
  have l:2^(32-p)*y0+2^(32-p)≤4294967296:=by
   have:2^(32-p)*(y0+1)≤2^(32-p)*2^p:=Ke _ c;rw[JZ (2^(32-p)) (2^p),h0,J1] at this
   omega
  rw[e2,KS,AS oM,J1,←J2,h0]
  omega
theorem FJ {b:Nat}{l X:List Nat}{j P d a:Nat}(c:l.length=j)(inv:P*aj b l+a=aj b (X.take j)+b^j*(X.getD j 0%P))(i:P*d+X.getD j 0%P=X.getD j 0+b*(X.getD (j+1) 0%P)) :
  P*aj b (l++[d])+a=aj b (X.take (j+1))+b^(j+1)*(X.getD (j+1) 0%P):=by
 have e1:aj b (l++[d])=aj b l+b^j*d:=by
  rw[bX,c];show _+b^j*(d+b*0)=_;rw[J6,y8]
 have f:=congrArg (b^j * ·) i
 simp only[J1] at f
 rw[e1,aR,JY,J1];have e:P*(b^j*d)=b^j*(P*d):=by ac_rfl
 have h:b^j*b*(X.getD (j+1) 0%P)=b^j*(b*(X.getD (j+1) 0%P)):=by ac_rfl
 rw[e,h]
 omega
theorem FX {a k:Nat}{l:List Nat}(f:(lim a).length≤k/32+l.length)(inv:2^(k%32)*aj 4294967296 l+((lim a).drop (k/32)).getD 0 0%2^(k%32)=aj 4294967296 (((lim a).drop (k/32)).take l.length)+4294967296^l.length*(((lim a).drop (k/32)).getD l.length 0%2^(k%32))):aj 4294967296 l=a/2^k:=by
 have b:((lim a).drop (k/32)).length≤l.length:=by rw[Kx];omega
 rw[Ks b,bM b,KQ,J6,y8] at inv
 have c:aj 4294967296 ((lim a).drop (k/32))=a/4294967296^(k/32):=by
  rcases ep (lim a).length (k/32) with h|h
  ·rw[KY oM,JW]
   ·rfl
   ·exact e6 (cj a) (Kb kD oM)
  ·have e:=bQ 4294967296 (l:=lim a) (k:=k/32) h
   rw[cG] at e
   have h1:=bP (Dg.take (Ld.lim a) (k/32));rw[J4,J5 h] at h1
   have d:a/4294967296^(k/32)=(aj 4294967296 ((lim a).take (k/32))+4294967296^(k/32)*aj 4294967296 ((lim a).drop (k/32)))/4294967296^(k/32):=by rw[←e]
   rw[d,Ki _ _ (Kj kD),JW h1,z6]
 rw[wQ k,←Kk,←c,←inv,KR (Ka _),JW (A4 _ (Ka _)),y8]
section bld
variable {P:Program} {n:Nat} {N R:Po} {X:Nat→Po} {ops:Array Oper} {k:Nat} {Γ:bz} {w0:World} {h0:Hp} {B:List Bx} {Rs:List Rw} {F:List (Hp→Prop)} {wB:World} {hB:Hp}
theorem SS.liftJ (s:SS w0 h0 wB hB B Rs F){w:World}(x:Ext wB w):∃ h',SS w0 h0 w h' B Rs F∧∀ b,wB.heap.size≤b→b<w.heap.size→h'[b]?=some junk:=by
 have d:=x.size;have e0:=s.g.size;refine ⟨hB++sA (w.heap.size-wB.heap.size) junk,s.step ⟨x,⟨by simp,fun b a=>ua a⟩,⟨by simp;omega,fun b=>?_⟩⟩,fun b h1 c=>?_⟩
 ·rcases ep b hB.size with a|a
  ·rw[ua a]
   have e:=Below.block x b oM
   rcases s.g.blk b with h1|h1
   ·exact .inl (h1.trans e.symm)
   ·exact .inr h1
  ·rw[A9 a,Bs]
   by_cases hl:b<w.heap.size
   ·right;rw[MN oM]
   ·left;rw[MM oM,et oM]
 ·rw[A9 oM,Bs,MN oM]
theorem Je (t:Nat)(ty:TypeId)(vs:List Value){w:World}{h:Hp}(s:SS w0 h0 w h B Rs F)(H:∀ w',Ext w w'→w.heap.size≤w'.heap.size→w'.heap[w.heap.size]?=some (.cells vs.toArray ty (0,0))→LG P n N R X ops (k+1) ((t,.pointer (some ⟨w.heap.size,0,none⟩))::Γ) w')(a:cL ops Γ k t n=true:=by kernel_rfl)
  (hr:(execOp (ev Γ) (ao ops k)).run P w=.ok (.value (.pointer (some ⟨w.heap.size,0,none⟩))) (w.alloc (.cells vs.toArray ty (0,0))):=by kernel_rfl):LG P n N R X ops k Γ w :=
 LG.val t _ (w.alloc (.cells vs.toArray ty (0,0))) (bK a).1 (bK a).2 hr (H _ ((Ext.refl _).alloc _) (by rw[de];simp) (by rw[de];simp))
theorem H4 (t:Nat){f:FuncId}{args:Array Value}{V:Value}{Q:World→Prop}{w:World}(s:SS w0 h0 wB hB B Rs F)(x:Ext wB w)(c:Calls P f args w fun e w'=>e=.returned V∧(Q w'∧Below wB.heap.size w w'))(H:∀ w' h',SS w0 h0 w' h' B Rs F→Ext wB w'→Q w'→LG P n N R X ops (k+1) ((t,V)::Γ) w')(d:cL ops Γ k t n=true:=by kernel_rfl)
  (hr:(execOp (ev Γ) (ao ops k)).run P w=.ok (.enter f args) w:=by kernel_rfl):LG P n N R X ops k Γ w :=
 LG.call t f args (bK d).1 (bK d).2 hr (c.mono fun e w' ⟨i,q,b⟩=>by
  have a:Ext wB w':=Below.trans x b;obtain ⟨h',h,_⟩:=s.liftJ a;exact ⟨V,i,H w' h' h a q⟩)
def Cs (a b:Nat):List Nat:=(List.range b).filter (fun c=>decide (a≤c))
theorem lf {a b c:Nat}:c∈Cs a b↔a≤c∧c<b:=by
 unfold Cs;rw[List.mem_filter,List.mem_range];simp;omega
theorem A.takeK {M:Ms}{Q:Exit→Act→World→Prop}{k0:Nat}{L:Array Bool}{a:Act}{w:World}{i:Nat}{o:Oper}{v:Value}{S:World→Prop}
  (hi:ops[i]?=some o)(C:i<k0)(d:g9 ops=true)(hf:hN .any ops L i=true)(hr:i∈ga .any ops L)(u:∀ c a w,¬Q (.panic c) a w)
  (p:∀ w w',S w→Mo M.l w w'→S w')(x:S w)(z:YieldsIf P ops S o v a)
  (b:(∀ w,S w)∨(∀ w w',S w→Tl M w w'→S w')∨∀ j f,ops[j]?=some f→k0≤j→j≠i→∃ e∈f.after,g1 .any e=true∧e.on=i)
  (H:A M P ops Q k0 (L.setIfInBounds i true) (a.put o.dst v) w):A M P ops Q k0 L a w:=by
 unfold A at *
 rw[ee hr]
 exact lj hi (hO d) (fun c a w B=>MO B (u _ _ _)) p _ _ _ _
  (fun j f y h k=>K4 hi hf j f y h k) b hr z x H C
variable {M:Ms} {k0:Nat} {L:Array Bool} {w:World}
theorem aV (i t:Nat)(v:Value)(H:AG M P n N R X ops k0 (L.setIfInBounds i true) ((t,v)::Γ) w)(e:cE n ops k0 [] L Γ i t=true:=by kernel_rfl)(hv:∀ w,(execOp (ev Γ) (ao ops i)).run P w=.ok (.value v) w:=by intro _;kernel_rfl):AG M P n N R X ops k0 L Γ w:=by
 obtain ⟨b,f⟩:=jW e;rw[i1] at b
 have c:=dd b.1;intro a d;have e1:=d.exec (hO c.sel i _ · · c.get) b.2;refine A.takeK (v:=v) (S:=fun _=>True) c.get c.lt c.sel c.free c.ready (fun _ _ _ h=>h) (fun _ _ _ _=>trivial) trivial (.inl ⟨d.want f,fun w _=>by rw[e1];exact hv w⟩) (.inl fun _=>trivial) ?_;rw[c.dst];exact H _ (d.put c.tn v)
theorem aL (i t:Nat)(v:Value)(hr:∀ w',Mo M.l w w'→(execOp (ev Γ) (ao ops i)).run P w'=.ok (.value v) w')(H:AG M P n N R X ops k0 (L.setIfInBounds i true) ((t,v)::Γ) w)(p:x5 n ops k0 [] L Γ i t=true:=by kernel_rfl):AG M P n N R X ops k0 L Γ w:=by
 obtain ⟨b,j⟩:=gY p;rw[i1,i1] at b
 obtain ⟨⟨d,e⟩,h⟩:=b;have c:=dd d;intro a f;have e1:=f.exec (hO c.sel i _ · · c.get) e;refine A.takeK (v:=v) (S:=fun w'=>Mo M.l w w') c.get c.lt c.sel c.free c.ready (fun _ _ _ o=>o) (fun _ _ h1 k=>h1.trans k) (Mo.refl _ _) (.inl ⟨f.want j,fun w' u=>by rw[e1];exact hr w' u⟩) (.inr (.inr (js h))) ?_;rw[c.dst];exact H _ (f.put c.tn v)
theorem aH (i t:Nat)(v:Value){h:Hp}{b o:Nat}{cs:List Value}(s:SS w0 h0 w h B Rs F)(d:Seg h b o cs)(H:AG M P n N R X ops k0 (L.setIfInBounds i true) ((t,v)::Γ) w)(hM:∀ b∈M.l,h[b]?=some junk)(c:x5 n ops k0 [] L Γ i t=true:=by kernel_rfl)(e:bS P (execOp (ev Γ) (ao ops i)) cs=some (.value v,kB b o cs.length):=by kernel_rfl):AG M P n N R X ops k0 L Γ w :=
 aL i t v (fun _ a=>Seg.runM d s.g hM a e) H c
def HR (ops:Array Oper)(k0:Nat)(L:Array Bool)(i:Nat):Bool:=decide (i<ops.size) && decide (i<k0) && g9 ops && (ga .any ops L == [i])
theorem aC (i t:Nat){f:FuncId}{args:Array Value}(c:Calls P f args w fun e w'=>∃ v,e=.returned v∧Mo M.l w w'∧AG M P n N R X ops k0 (L.setIfInBounds i true) ((t,v)::Γ) w')(o:(HR ops k0 L i && bj Γ (ao ops i) && ((ao ops i).dst == some t) && decide (t<n))=true:=by kernel_rfl)(p:bA ops Γ (ao ops i)=some true:=by kernel_rfl)
  (hr:(execOp (ev Γ) (ao ops i)).run P w=.ok (.enter f args) w:=by kernel_rfl):AG M P n N R X ops k0 L Γ w:=by
 simp only[i1,decide_eq_true_eq,beq_iff_eq] at o
 obtain ⟨⟨⟨h1,u⟩,y⟩,x⟩:=o
 unfold HR at h1
 simp only[i1,decide_eq_true_eq,beq_iff_eq] at h1
 have h:=bR (ops:=ops) h1.1.1.1;intro a b;refine A.intro (fun h0=>by rw[h1.2] at h0;cases h0) (fun j d=>?_);rw[h1.2,List.mem_singleton] at d
 subst d;refine OpR.wpOp (R:=fun v w'=>Mo M.l w w'∧AG M P n N R X ops k0 (L.setIfInBounds j true) ((t,v)::Γ) w') h ⟨b.want p,.inr (.inr ⟨f,args,?_,c⟩)⟩ (fun v w' k=>⟨Rl.mo h1.1.1.2 k.1,?_⟩)
 ·rw[b.exec (hO h1.1.2 j _ · · h) u];exact hr
 ·rw[y];exact k.2 _ (b.put x v)
theorem xD {id:Nat}(M:Ms)(k0:Nat)(c:P.follows .mixedOrders=true)(H:AG M P n N R X ops k0 (sA ops.size false) Γ w.drew):CG P n N R X (.region id ops true) Γ w:=by
 intro a b;refine wp_region_any c ?_;have h1:=H a b
 unfold A at h1
 rw[iI] at h1
 exact kY _ _ _ _ _ _ _ _ _ h1
theorem SS.drew {h:Hp}(s:SS w0 h0 w h B Rs F):SS w0 h0 w.drew h B Rs F:=s.step (Up.drew (Up.refl s.g))
theorem vS {K:Nat}{w w':World}(x:Below K w w'):Mo (Cs K w.heap.size) w w':=⟨x.os,x.tape,x.output,x.size,fun c b a=>by
 rcases ep c K with h|h
 ·exact Below.block x c h
 ·exact MO (lf.2 ⟨h,b⟩) a⟩
theorem qp {K:Nat}{T e:TypeId}{b:Nat}{bs:List Value}{w w1:World}(h:Lib.IsBuilder T e K b bs w)(x:Ext w w1):Lib.IsBuilder T e K b bs w1:=by
 have key:∀ p,Lib.BuilderAt T e K b p bs w→Lib.BuilderAt T e K b p bs w1:=by
  rintro p ⟨h1,v,d,f,i⟩
  have a:b<w.heap.size:=by
   rcases ep b w.heap.size with h'|h'
   ·exact h'
   ·rw[et h'] at d;cases d
  exact ⟨h1,v,(Below.block x b a).trans d,fr f (fun c j=>Below.block x c (jV f j)),i⟩
 rcases h with h|h
 ·exact .inl (key _ h)
 ·exact .inr (key _ h)
theorem aX (i t:Nat)(A:Option Addr)(len a sz:Nat)(x:Int)(j:Nat)(d:A=some ⟨aB A,aO A,none⟩)(H:AG M P n N R X ops k0 (L.setIfInBounds i true) ((t,.pointer (some ⟨aB A,aO A+j*sz,none⟩))::Γ) w)(c:cE n ops k0 [] L Γ i t=true:=by kernel_rfl)(e:Cn P (ev Γ) (ao ops i)=some (.slice A len a,.int .i64 x,sz):=by kernel_rfl)(f:x=j:=by omega)(b:j<len:=by omega):AG M P n N R X ops k0 L Γ w :=
 aV i t _ H c (fun w=>gl e d f b w)
theorem qE {P:List UInt8}{x m:Nat}(a:m<8):Lib.byteCells (P++(b8 x).take m)++[.int .u8 ((x/2^(8*m)%256:Nat):Int)]=Lib.byteCells (P++(b8 x).take (m+1)):=by
 have e:(b8 x).take (m+1)=(b8 x).take m++[UInt8.ofNat (x/256^m)]:=by
  rw[List.take_add_one]
  congr 1
  unfold b8
  rw[Ky,Kz a];rfl
 rw[e,←List.append_assoc]
 unfold Lib.byteCells
 rw[List.map_append (l₁:=P++_)]
 congr 1
 show _=[Value.int .u8 ((x/256^m%256:Nat):Int)]
 rw[Kg]
theorem sR {l:List Nat}{k:Nat}(a:k<l.length):((l.take k).flatMap b8)++(b8 (l.getD k 0)).take 8=(l.take (k+1)).flatMap b8:=by
 have e:(b8 (l.getD k 0)).take 8=b8 (l.getD k 0):=Ks (by rw[jX];omega);rw[gU a,List.flatMap_append,e];simp
theorem ug {l:List Nat}{k m x:Nat}(a:k≤l.length)(b:m≤8)(c:l.length≤1099511627776):(Lib.byteCells ((l.take k).flatMap b8++(b8 x).take m)).length+1≤140737488355328:=by
 rw[Lib.byteCells_length,zY,mK,J4,J4,jX];omega
theorem Ai {l:List Nat}(h:tl l l.length=0):KD #[.int .u64 0,.string ⟨#[]⟩]=nv (aD l):=by
 have e:=ju 18446744073709551616 l l.length (ey _);rw[h,zy] at e
 have:aD l=0:=e.symm;rw[this];rfl
theorem Fl {l:List Nat}(b:Wd l)(h:tl l l.length=1):KD #[.int .u64 (l.getD 0 0:Nat),.string ⟨#[]⟩]=nv (aD l):=by
 have e:=ju 18446744073709551616 l l.length (ey _);have a:=gu l l.length;rw[h,zy,aR] at e
 have e2:aD l=l.getD 0 0:=by show aj _ l=_;rw[←e];simp[aj]
 rw[e2];have:=b.get 0
 unfold nv
 rw[jo this,lm this]
theorem Bu {l:List Nat}(a:Wd l)(h:0<tl l l.length):KD #[.int .u64 (l.getD 0 0:Nat),.string ⟨(((l.drop 1).take (tl l l.length-1)).flatMap b8).toArray⟩]=nv (aD l):=by
 have e:=nC a;have e1:((l.drop 1).take (tl l l.length-1))=(wds (aD l)).drop 1:=by rw[e,List.drop_take]
 unfold nv
 rw[Gq (n:=aD l) (by rw[e1]),qD,e,iy h]
end bld
section
variable {P:Program} {Γ:bz} {o:Oper}
theorem cJ {f:FuncId}{args:Array Value}{v:Value}{w:World}(h:(execOp (ev Γ) o).run P w=(callFunc f args).run P w)(k:(callFunc f args).run P w=.ok (.value v) w):(execOp (ev Γ) o).run P w=.ok (.value v) w:=h.trans k
end
theorem cP (x y c:Nat)(a:x<18446744073709551616)(d:y<18446744073709551616)(b:c≤1):∃ s c':Nat,s+18446744073709551616*c'=x+y+c∧s<18446744073709551616∧c'≤1∧∀ w,(callFunc 189 #[.int .u64 x,.int .u64 y,.int .u64 c]).run Tryz.prog w=.ok (.value (.tuple #[.int .u64 s,.int .u64 c'])) w:=by
 refine ⟨(x+y+c)%18446744073709551616,(x+y+c)/18446744073709551616,by omega,by omega,by omega,fun w=>?_⟩;rw[run_callFunc_extern Tryz.func189 kR kR kR (e:=add64Entry) kR,run_add64 x y c oM oM oM oM]
 simp only[Result.andThen]
 congr 5<;>omega
theorem iN (x y b:Nat)(d:x<18446744073709551616)(f:y<18446744073709551616)(c:b≤1):∃ s a:Nat,s+y+b=x+18446744073709551616*a∧s<18446744073709551616∧a≤1∧∀ w,(callFunc 220 #[.int .u64 x,.int .u64 y,.int .u64 b]).run Tryz.prog w=.ok (.value (.tuple #[.int .u64 s,.int .u64 a])) w:=by
 refine ⟨(x+18446744073709551616-y-b)%18446744073709551616,if x<y+b then 1 else 0,by split<;>omega,by omega,by split<;>omega,fun w=>?_⟩;rw[run_callFunc_extern Tryz.func220 kR kR kR (e:=sub64Entry) kR,run_sub64 x y b c]
 rfl
theorem Ret.of_same {f:FuncId}{args:Array Value}{V:Value}{P:Program}{w:World}{h:Hp}(g:G w h)(c:Calls P f args w fun e w'=>e=.returned V∧w'=w):Calls P f args w (Ret w h fun v _=>v=V) :=
 c.mono fun e w' ⟨a,b⟩=>by subst b;exact ⟨V,h,a,Up.refl g,rfl⟩
theorem kP (x y:Nat)(a:x<18446744073709551616)(b:y<18446744073709551616)(w:World)(h:Hp)(g:G w h):CR 166 #[uV x,uV y] w h (fun v _=>∃ hi lo:Nat,v=.tuple #[uV hi,uV lo]∧lo+18446744073709551616*hi=x*y∧lo<18446744073709551616∧hi<18446744073709551616∧hi≤18446744073709551614):=by
 refine (Ret.of_same g (Tryz.bits_Mul64 x y a b w)).mono ?_;rintro e w' ⟨v,h',c,u,rfl⟩;have h1:x*y≤18446744073709551615*18446744073709551615:=KM oM oM;exact ⟨_,h',c,u,x*y/18446744073709551616,x*y%18446744073709551616,rfl,by omega,by omega,by omega,by omega⟩
theorem mL {n:Nat}(h:n<18446744073709551616):Lib.bitLen n=nb n:=by
 rcases HA n with h0|h0
 ·subst h0;rfl
 ·obtain ⟨b,d,c⟩:=ci h0
  have a:nb n≤64:=kh (k:=64) h;have:=Lib.bitLen_shift (nb n-1) n b h
  have h1:n/2^(nb n-1)=1:=by
   have:n<2^(nb n-1)*2:=by rw[←JY];rwa [show (nb n-1).succ=nb n by omega]
   refine KI oM oM
  rw[h1] at this
  have e1:Lib.bitLen 1=1:=by decide
  omega
theorem xw (x:Nat)(a:x<18446744073709551616)(w:World)(h:Hp)(g:G w h):CV 127 #[uV x] w h (nV (nb x)):=by
 have:=Ret.of_same g (Tryz.bits_Len64 x w oM oM);rw[A5,mL a] at this
 exact this
theorem DJ (x:Nat)(a:x<18446744073709551616)(w:World)(h:Hp)(g:G w h):CV 222 #[uV x] w h (nV (64-nb x)):=by
 have:=Ret.of_same g (Tryz.bits_LeadingZeros64 x w oM oM);have b:nb x≤64:=kh (k:=64) a;rw[A5,mL a,show (64:Int)-(nb x:Nat)=((64-nb x:Nat):Int) by omega] at this
 exact this
theorem gM {a b:Nat}(ha:a<18446744073709551616)(d:b<18446744073709551616):a*b≤340282366920938463426481119284349108225:=by
 have h1:a≤18446744073709551615:=by omega
 have c:b≤18446744073709551615:=by omega
 exact KM h1 c
theorem iG (A:Option Addr)(c:Nat)(l:List Nat)(m:Nat)(D:l.length=m)(F:l.length≤1099511627776)(C:l.length≤c)(w:World)(h:Hp)(g:G w h)(u:S3 A l h):CV 76 #[.slice A m c] w h (.slice A (tl l m) c):=by
 have a:=((sS g).aS u);refine go Tryz.func76 [(0,qS A m c)] rfl (aa a [.v 2 (sZ)] (aI (lL a [.m 4 0,.v 5 (nV m),.m 3 5] (ah (kZ ?_)))));refine bH _ (CG.loop (fun k Γ x=>∃ (n:Nat) (h_:Hp),k=n∧Γ=[(0,qS A m c),(2,sZ),(3,nV n)]∧SS w h x h_ [] [] [S3 A l]∧n≤m∧tl l m=tl l n) _ ⟨m,h,rfl,rfl,a.to _ _,nR _,rfl⟩ ?_);rintro _ _ w1 ⟨n,o,y,rfl,a,B,j⟩;refine cQ (aa a [.m 6 3] ?_);cases b:(decide ((0:Int)<(n:Int)))
 ·
  have e:=oF b;refine lB 7 b (lL a [.m 8 7] (lG 9 ?_));refine lG 10 (lG 11 (lG 12 (lG 13 (lG 14 (lL a [.v 15 qF] (af (CG.exit ?_)))))))
  show CG _ _ _ _ _ _ _ _
  refine aa a [.m 18 0,.m 19 3] (lT 20 A m c 1 (n:Nat) n ?_);exact lL a [.m 2 20] (ac a [] (qS A n c) (by rw[j,mQ oM]))
 have e:=oT b;refine lB 7 b (lL a [.m 8 7,.m 9 0,.m 10 3] (bD 11 ((n:Nat)-1) (n-1) ?_));refine lX 12 A m c 1 (n-1:Nat) (n-1) ((a.f.1).ok oM) (lH 13 (mW (l.getD (n-1) 0)) a ((a.f.1).el (n-1) oM) ?_);cases d:(((l.getD (n-1) 0:Nat):Int) == (0:Int))
 ·
  have i:=ae d;refine lB 14 d (lL a [.v 15 qF] (af (CG.exit ?_)))
  show CG _ _ _ _ _ _ _ _
  refine aa a [.m 18 0,.m 19 3] (lT 20 A m c 1 (n:Nat) n ?_);exact lL a [.m 2 20] (ac a [] (qS A n c) (by rw[j,mQ oM]))
 have i:=ML d;refine lB 14 d (lL a [.v 15 qT] (ak (cK (kZ (kQ (lL a [.m 16 3] (bD 17 ((n:Nat)-1) (n-1) ?_)))))));refine lL a [.m 3 17] (lD ?_);intro z p;refine ⟨_,_,?_,⟨n-1,o,rfl,rfl,a.to _ _,oM,(by rw[j];exact Cr oM oM)⟩,p.to _ kR⟩
 omega
theorem sQ {h:Hp}{A:Option Addr}{n a:Nat}(c:n<18446744073709551616)(b:2≤a)(s:SlO 1 aZ 0 h A [n%4294967296,n/4294967296]):RN h (.slice A (tl [n%4294967296,n/4294967296] 2) a) n :=
 RN.trim (Dg.cons oM (Dg.one oM)) (by simp only[aj];omega) rfl b s
theorem nY (n:Nat)(c:n<18446744073709551616)(w:World)(h:Hp)(g:G w h):CR 41 #[mV n] w h (fun v h=>RN h v n):=by
 have a:=sS g;refine go Tryz.func41 [(0,mV n)] rfl (aa a [.v 2 (sZ)] (aI (lL a [.m 3 0] (lV 4 (mW (n%4294967296)) ?_ (hr:=rT ((n:Int)) kR (f4 _))))));refine lL a [.m 5 0] (lV 6 (mV (n/4294967296)) ?_ (hr:=aK (n:=K5 (n:Int) 4294967296) kR (dN _ 4294967296)));refine lV 7 (mW (n/4294967296)) ?_ (hr:=rT (((n/4294967296:Nat):Int)) kR (nG oM oM));refine lR 8 139 2 ([mW (n%4294967296),mW (n/4294967296)]) a (fun b w2 i a=>?_);replace a:=a.aS (SlO.of_flat (sz:=1) (f:=aZ) (d:=0) (l:=[(n%4294967296),(n/4294967296)]) (fun _=>rfl) a.f.1);exact ag 9 a (iG (sB b) 2 ([(n%4294967296),(n/4294967296)]) 2 (by first|rfl|omega|assumption) (by simp) (by simp) _ _ a.g a.f.1) (fun e j a=>lL a [.m 2 9] (ac a [] (qS (sB b) (tl ([(n%4294967296),(n/4294967296)]) 2) 2) (sQ c oM a.f.1)))
theorem Ih (n:Nat)(A:Option Addr)(a:Nat)(c:(lim n).length≤a)(w:World)(h:Hp)(g:G w h)(d:S3 A (lim n) h):CR 75 #[.bool false,.slice A ((lim n).length) a] w h (fun v h=>RI h v (bC false n)):=by
 have b:=((sS g).aS d);refine go Tryz.func75 [(0,qF),(1,qS A ((lim n).length) a)] rfl (av (lA 4 26 ([qF,sZ]) b (fun e w2 j b=>aI (lL b [.m 5 0,.m 6 5] (lG 7 ?_)))));exact lG 8 (lG 9 (lL b [.v 10 qF,.m 11 1,.v 12 (.agg #[qF,qS A ((lim n).length) a])] (lP 0 0 ([qF,qS A ((lim n).length) a]) b (fun i b=>ac b [(0,0,2)] (.agg #[qF,qS A ((lim n).length) a]) (qR rfl c b.f.1)))))
theorem Io (n:Nat)(A:Option Addr)(a:Nat)(e:(lim n).length≤a)(w:World)(h:Hp)(g:G w h)(i:S3 A (lim n) h):CR 75 #[.bool true,.slice A ((lim n).length) a] w h (fun v h=>RI h v (bC true n)):=by
 have b:=((sS g).aS i);have k:=@bV n;refine go Tryz.func75 [(0,qT),(1,qS A ((lim n).length) a)] rfl (av (lA 4 26 ([qF,sZ]) b (fun l w2 o b=>aI (lL b [.m 5 0,.m 6 5,.m 7 1,.v 8 (nV ((lim n).length))] ?_))));cases c:(decide ((0:Int)<(((lim n).length:Nat):Int)))
 ·
  have d:=oF c;exact lB 9 c (lL b [.v 10 qF,.m 11 1,.v 12 (.agg #[qF,qS A ((lim n).length) a])] (lP 0 0 ([qF,qS A ((lim n).length) a]) b (fun p b=>ac b [(0,0,2)] (.agg #[qF,qS A ((lim n).length) a]) (qR (by simp only[K6];first|(symm;exact decide_eq_true oM)|(symm;exact decide_eq_false oM)) e b.f.1))))
 have d:=oT c;exact lB 9 c (lL b [.v 10 qT,.m 11 1,.v 12 (.agg #[qT,qS A ((lim n).length) a])] (lP 0 0 ([qT,qS A ((lim n).length) a]) b (fun j b=>ac b [(0,0,2)] (.agg #[qT,qS A ((lim n).length) a]) (qR (by simp only[K6];first|(symm;exact decide_eq_true oM)|(symm;exact decide_eq_false oM)) e b.f.1))))
theorem rI (p:Bool)(n:Nat)(A:Option Addr)(a:Nat)(b:(lim n).length≤a)(w:World)(h:Hp)(g:G w h)(c:S3 A (lim n) h):CR 75 #[.bool p,.slice A (lim n).length a] w h (fun v h=>RI h v (bC p n)):=by
 cases p
 ·exact Ih n A a b w h g c
 ·exact Io n A a b w h g c
theorem qB (z:Int)(h0:z<0)(h1 : -9223372036854775808≤z)(w:World)(h:Hp)(g:G w h):CR 40 #[iV z] w h (fun v h=>RI h v (bC true (ab z))):=by
 have a:=sS g;have hi:ab z≤9223372036854775808:=by unfold ab;omega
 refine go Tryz.func40 [(0,iV z)] rfl (av (lA 2 26 ([qF,sZ]) a (fun o w2 u a=>ah (aa a [.m 3 0] ?_))));have ⟨b,e⟩:=dT (p:=(z:Int)<(0:Int)) oM;refine lB 4 b (ak (aa a [.m 5 0] (lV 6 (mV (18446744073709551616-ab z)) ?_ (hr:=rU (z) kR (by rw[JP];unfold ab;omega)))));refine lV 7 (mV (ab z)) ?_ (hr:=rU ((0-((18446744073709551616-ab z:Nat):Int))) kR (by rw[JP];omega));refine lC 8 a (nY (ab z) oM _ _ a.g) ?_;rintro _ x _ a ⟨l,i,rfl,c,d⟩;replace a:=a.aS d;refine lC 9 a (rI true (ab z) l i c _ _ a.g a.f.1) ?_;rintro _ _ _ a ⟨za,zb,rfl,j,k⟩;replace a:=a.aS k;exact lP 0 0 ([.bool (ai (bC true (ab z))),qS za ((lim (ab (bC true (ab z)))).length) zb]) a (fun _ a=>ac a [(0,0,2)] (.agg #[.bool (ai (bC true (ab z))),qS za ((lim (ab (bC true (ab z)))).length) zb]) (⟨_,_,rfl,j,a.f.1⟩))
theorem qO (z:Nat)(h1:z<9223372036854775808)(w:World)(h:Hp)(g:G w h):CR 40 #[nV z] w h (fun v h=>RI h v (bC false z)):=by
 have a:=sS g;refine go Tryz.func40 [(0,nV z)] rfl (av (lA 2 26 ([qF,sZ]) a (fun o w2 u a=>ah (aa a [.m 3 0] ?_))));have ⟨b,e⟩:=dF (p:=(z:Int)<(0:Int)) oM;refine lB 4 b (af (cK (aa a [.m 10 0] (lV 11 (mV z) ?_ (hr:=rU ((z:Int)) kR (ba oM oM))))));refine lC 12 a (nY z oM _ _ a.g) ?_;rintro _ x _ a ⟨l,i,rfl,c,d⟩;replace a:=a.aS d;refine lC 13 a (rI false z l i c _ _ a.g a.f.1) ?_;rintro _ _ _ a ⟨za,zb,rfl,j,k⟩;replace a:=a.aS k;exact lP 0 0 ([.bool (ai (bC false z)),qS za ((lim (ab (bC false z))).length) zb]) a (fun _ a=>ac a [(0,0,2)] (.agg #[.bool (ai (bC false z)),qS za ((lim (ab (bC false z))).length) zb]) (⟨_,_,rfl,j,a.f.1⟩))
theorem qh (z:Int)(h0 : -9223372036854775808≤z)(h1:z<9223372036854775808)(w:World)(h:Hp)(g:G w h):CR 40 #[iV z] w h (fun v h=>RI h v z):=by
 rcases Int.lt_or_le z 0 with hz|hz
 ·have e:bC true (ab z)=z:=by unfold bC ab;simp;omega
  have:=qB z hz h0 w h g;rw[e] at this
  exact this
 ·obtain ⟨n,rfl⟩:=Int.eq_ofNat_of_zero_le hz
  exact qO n oM w h g
theorem ji (a:Nat)(A:Option Addr)(c:Nat)(V:(lim a).length≤c)(b:Nat)(D:Option Addr)(d:Nat)(W:(lim b).length≤d)(M:(lim a).length≤4000000000)(K:(lim b).length≤4000000000)(w:World)(h:Hp)(g:G w h)(J:S3 A (lim a) h)(F:S3 D (lim b) h):CV 190 #[.slice A ((lim a).length) c,.slice D ((lim b).length) d] w h (iV (cD a b)):=by
 have e:=(((sS g).aS J).aS F);refine go Tryz.func190 [(0,qS A ((lim a).length) c),(1,qS D ((lim b).length) d)] rfl (aa e [.v 4 (iV 0)] (ah (aa e [.m 6 0,.v 7 (nV ((lim a).length)),.m 8 1,.v 9 (nV ((lim b).length))] ?_)));cases o:((((lim a).length:Nat):Int) != (((lim b).length:Nat):Int))
 ·
  have x:=aJ o;refine lB 10 o (af (cK (cQ (aa e [.m 16 0,.v 17 (nV ((lim a).length))] (lV 18 (iV ((((lim a).length:Nat):Int)-1)) ?_ (hr:=rS ((((lim a).length:Nat)-1)) kR ((fX oM oM).trans oM)))))));refine lL e [.m 5 18] (a8 ?_);refine bH _ (CG.loop (fun z Γ L=>∃ (m:Nat) (h_:Hp),z=m∧Γ=[(0,qS A ((lim a).length) c),(1,qS D ((lim b).length) d),(5,iV ((m:Int)-1))]∧SS w h L h_ [] [] [S3 D (lim b),S3 A (lim a)]∧m≤(lim a).length∧(lim a).length=(lim b).length∧(lim a).drop m=(lim b).drop m) _ ⟨(lim a).length,h,rfl,rfl,e.to _ _,nR _,oM,(by rw[KY oM,KY oM])⟩ ?_);rintro _ _ w2 ⟨m,U,C,rfl,e,X,p,i⟩;refine cQ (aa e [.m 19 5] ?_);cases l:(decide ((0:Int)≤((m:Int)-1:Int)))
  ·
   have y:=oF l;refine lB 20 l (af (CG.exit ?_))
   show CG _ _ _ _ _ _ _ _
   exact aa e [.v 4 (iV 0)] (ac e [] (iV 0) (by rw[ij (C0 (by obtain rfl:m=0:=oM;simpa using i))]))
  have y:=oT l;refine lB 20 l (ak (cK (cQ (kZ (cQ (cR 9 [] mixed e ar ?_))))));refine eV 0 23 (qS A ((lim a).length) c) (eV 1 24 (iV ((m:Int)-1)) (eX 2 25 A ((lim a).length) c 1 ((m:Int)-1) (m-1) ((e.f.2.1).ok oM) (eH 3 26 (mW ((lim a).getD (m-1) 0)) e ((e.f.2.1).el (m-1) oM) (eV 4 27 (qS D ((lim b).length) d) (eV 5 28 (iV ((m:Int)-1)) (eX 6 29 D ((lim b).length) d 1 ((m:Int)-1) (m-1) ((e.f.1).ok oM) (eH 7 30 (mW ((lim b).getD (m-1) 0)) e ((e.f.1).el (m-1) oM) ?_)))))));cases j:((((lim a).getD (m-1) 0:Nat):Int) != (((lim b).getD (m-1) 0:Nat):Int))
  ·
   have u:=aJ j;refine eB 8 31 j (ck e (fun S O e=>tN (cv (cK (kQ (lL e [.m 21 5] (lV 22 (iV (((m-1:Nat):Int)-1)) ?_ (hr:=rS ((((m:Int)-1)-1)) kR ((fX oM oM).trans oM)))))))));refine lL e [.m 5 22] (lD ?_);intro Q I;refine ⟨_,_,?_,⟨m-1,O,rfl,rfl,e.to _ _,oM,p,(eZ (k:=m-1) p oM (by rw[show m-1+1=m by omega];exact i) oM)⟩,I.to _ kR⟩
   omega
  have u:=aW j;refine eB 8 31 j (ck e (fun _ _ e=>tN (ce (cQ (cQ (cR 9 [] mixed e ar ?_))))));refine eV 0 32 (qS A ((lim a).length) c) (eV 1 33 (iV ((m:Int)-1)) (eX 2 34 A ((lim a).length) c 1 ((m:Int)-1) (m-1) ((e.f.2.1).ok oM) (eH 3 35 (mW ((lim a).getD (m-1) 0)) e ((e.f.2.1).el (m-1) oM) (eV 4 36 (qS D ((lim b).length) d) (eV 5 37 (iV ((m:Int)-1)) (eX 6 38 D ((lim b).length) d 1 ((m:Int)-1) (m-1) ((e.f.1).ok oM) (eH 7 39 (mW ((lim b).getD (m-1) 0)) e ((e.f.1).el (m-1) oM) ?_)))))));cases za:(decide ((((lim a).getD (m-1) 0:Nat):Int)<(((lim b).getD (m-1) 0:Nat):Int)))
  ·
   have B:=oF za;exact eB 8 40 za (ck e (fun _ _ e=>tN (cv (cK (aa e [.v 4 (iV 1)] (ac e [] (iV 1) (by rw[fe (by first|exact fM oM|exact gh (k:=m-1) oM oM (by rw[show m-1+1=m by omega];exact i.symm) oM)])))))))
  have B:=oT za;exact eB 8 40 za (ck e (fun _ _ e=>tN (ce (aa e [.v 4 (iV (-1))] (ac e [] (iV (-1)) (by rw[dB (by first|exact fM oM|exact gh (k:=m-1) oM oM (by rw[show m-1+1=m by omega];exact i) oM)]))))))
 have x:=aW o;refine lB 10 o (ak (cQ (aa e [.m 11 0,.v 12 (nV ((lim a).length)),.m 13 1,.v 14 (nV ((lim b).length))] ?_)));cases zb:(decide ((((lim a).length:Nat):Int)<(((lim b).length:Nat):Int)))
 ·
  have H:=oF zb;exact lB 15 zb (af (cK (aa e [.v 4 (iV 1)] (ac e [] (iV 1) (by rw[fe (by first|exact fM oM|exact gh (k:=m-1) oM oM (by rw[show m-1+1=m by omega];exact i.symm) oM)])))))
 have H:=oT zb;exact lB 15 zb (ak (aa e [.v 4 (iV (-1))] (ac e [] (iV (-1)) (by rw[dB (by first|exact fM oM|exact gh (k:=m-1) oM oM (by rw[show m-1+1=m by omega];exact i) oM)]))))
theorem F5 (A:Option Addr)(c:Nat)(l:List Nat)(m:Nat)(o:l.length=m)(i:Nat)(hi:i≤1099511627776)(k:Ld l)(w:World)(h:Hp)(g:G w h)(j:S3 A l h):CV 221 #[.slice A m c,nV i] w h (mV (l.getD i 0)):=by
 have a:=((sS g).aS j);have e:=k.get i;refine go Tryz.func221 [(0,qS A m c),(1,nV i)] rfl (aa a [.v 4 (uV 0)] (ah (aa a [.m 5 1,.m 6 0,.v 7 (nV m)] ?_)));cases b:(decide ((i:Int)<(m:Int)))
 ·
  have d:=oF b;exact lB 8 b (af (cK (aa a [.v 4 (uV 0)] (ac a [] (uV 0) (by rw[bM oM];rfl)))))
 have d:=oT b;refine lB 8 b (ak (aa a [.m 9 0,.m 10 1] (lX 11 A m c 1 (i:Nat) i ((a.f.1).ok oM) ?_)));refine lH 12 (mW (l.getD i 0)) a ((a.f.1).el i oM) (lV 13 (mV (l.getD i 0)) ?_ (hr:=rU (((l.getD i 0:Nat):Int)) kR (ba oM oM)));exact lL a [.m 4 13] (ac a [] (mV (l.getD i 0)) rfl)
theorem sF (a:Nat)(A:Option Addr)(c:Nat)(hc:(lim a).length≤c)(b:Nat)(D:Option Addr)(d:Nat)(hd:(lim b).length≤d)(hLa:(lim a).length≤4000000000)(V:(lim b).length≤4000000000)(w:World)(h:Hp)(g:G w h)(S:S3 A (lim a) h)(M:S3 D (lim b) h):CR 202 #[.slice A ((lim a).length) c,.slice D ((lim b).length) d] w h (fun v h1=>RN h1 v (a+b)):=by
 have e:=(((sS g).aS S).aS M);refine go Tryz.func202 [(0,qS A ((lim a).length) c),(1,qS D ((lim b).length) d)] rfl (aa e [.v 4 (sZ)] (aI (lL e [.m 9 0,.v 10 (nV ((lim a).length)),.m 11 1,.v 12 (nV ((lim b).length))] (lV 13 (nV (max (lim a).length (lim b).length)) ?_ (hr:=aK (n:=if (((lim b).length:Nat):Int)>(((lim a).length:Nat):Int) then (((lim b).length:Nat):Int) else (((lim a).length:Nat):Int)) kR (by split<;>omega))))));refine lL e [.m 5 13] (aI (lL e [.m 14 5] (bD 15 (((max (lim a).length (lim b).length):Nat)+1) (((max (lim a).length (lim b).length):Nat)+1) ?_)));refine lK 16 139 (((max (lim a).length (lim b).length):Nat)+1:Nat) 1 4 (uW 0) aZ 0 e (fun x w2 U e=>?_);have C:(Am (((max (lim a).length (lim b).length):Nat)+1:Nat) 0).length=(((max (lim a).length (lim b).length):Nat)+1:Nat):=by simp
 refine lL e [.m 6 16] (aI (lL e [.v 7 (uV 0)] (ah (aa e [.v 8 (iV 0)] (a8 ?_)))));refine bH _ (CG.loop (fun H Γ Y=>∃ (i:Nat) (z:List Nat) (j:Nat) (h_:Hp),H=(max (lim a).length (lim b).length)+1-i∧Γ=[(0,qS A ((lim a).length) c),(1,qS D ((lim b).length) d),(4,sZ),(5,nV (max (lim a).length (lim b).length)),(6,qS (sB x) (((max (lim a).length (lim b).length):Nat)+1:Nat) (((max (lim a).length (lim b).length):Nat)+1:Nat)),(8,nV i),(7,mV j)]∧SS w h Y h_ [⟨x,139,(z).flatMap aZ⟩] [] [S3 D (lim b),S3 A (lim a)]∧i≤(max (lim a).length (lim b).length)+1∧z.length=(max (lim a).length (lim b).length)+1∧Ld z∧j≤1∧aj 4294967296 z+4294967296^i*j=aj 4294967296 ((lim a).take i)+aj 4294967296 ((lim b).take i)∧(∀ k,i≤k→z.getD k 0=0)) _ ⟨0,Am (((max (lim a).length (lim b).length):Nat)+1:Nat) 0,0,U,rfl,rfl,e.to _ _,K7 _,C,Ld.rep _,oM,(by rw[dk];simp[aj]),fun k _=>dM⟩ ?_);rintro _ _ w5 ⟨i,z,j,h6,X,rfl,e,hi,p,I,Z,inv,hz⟩;have O:=(Ld.lim a).get i;have L:=(Ld.lim b).get i;refine cQ (aa e [.m 17 8,.m 18 5] ?_);cases u:(decide ((i:Int)≤(((max (lim a).length (lim b).length):Nat):Int)))
 ·
  have B:=oF u;refine lB 19 u (af (CG.exit ?_))
  show CG _ _ _ _ _ _ _ _
  refine aa e [.m 38 6] ?_;have F:i=(max (lim a).length (lim b).length)+1:=by omega
  rw[Ks (show (lim a).length≤i by omega),Ks (show (lim b).length≤i by omega),cG,cG,F,←p] at inv
  have W:aj 4294967296 z=a+b:=rB inv (by rw[p];exact e6 (cj _) (Kb kD (gK oM oM)));obtain ⟨h9,e,y,K,J⟩:=e.pub 0;replace e:=(e.to [] []).aS (SlO.of_flat (sz:=1) (f:=aZ) (d:=0) (b:=x) (o:=0) (l:=z) (fun _=>rfl) y);exact ag 39 e (iG (sB x) (((max (lim a).length (lim b).length):Nat)+1:Nat) z (((max (lim a).length (lim b).length):Nat)+1:Nat) p oM oM _ _ e.g e.f.1) (fun _ _ e=>lL e [.m 4 39] (ac e [] (qS (sB x) (tl z (((max (lim a).length (lim b).length):Nat)+1:Nat)) (((max (lim a).length (lim b).length):Nat)+1:Nat)) (RN.trim I W p (nR _) e.f.1)))
 have B:=oT u;refine lB 19 u (ak (cK (cQ (kZ (aa e [.m 22 7,.m 23 0,.m 24 8] (ag 25 e (F5 A c (lim a) ((lim a).length) rfl i oM (Ld.lim _) _ _ e.g e.f.2.1) (fun _ _ e=>lV 26 (mV (j+((lim a).getD i 0))) ?_ (hr:=rU (((j:Int)+(((lim a).getD i 0:Nat):Int))) kR (dD j ((lim a).getD i 0) oM)))))))));refine lL e [.m 27 1,.m 28 8] (ag 29 e (F5 D d (lim b) ((lim b).length) rfl i oM (Ld.lim _) _ _ e.g e.f.1) (fun _ zb e=>lV 30 (mV ((j+((lim a).getD i 0):Nat)+((lim b).getD i 0))) ?_ (hr:=rU ((((j+((lim a).getD i 0):Nat):Int)+(((lim b).getD i 0:Nat):Int))) kR (dD (j+((lim a).getD i 0):Nat) ((lim b).getD i 0) oM))));refine lL e [.m 7 30] (aI (lL e [.m 31 6,.m 32 8,.m 33 7] (lV 34 (mW (((j+((lim a).getD i 0):Nat)+((lim b).getD i 0):Nat)%4294967296)) ?_ (hr:=rT ((((j+((lim a).getD i 0):Nat)+((lim b).getD i 0):Nat):Int)) kR (f4 _)))));refine lX 35 (sB x) (((max (lim a).length (lim b).length):Nat)+1:Nat) (((max (lim a).length (lim b).length):Nat)+1:Nat) 1 (i:Nat) i rfl (lW 0 z aZ 1 i (((j+((lim a).getD i 0):Nat)+((lim b).getD i 0):Nat)%4294967296:Nat) e oM (fun _ e=>?_));have za:((z).set i (((j+((lim a).getD i 0):Nat)+((lim b).getD i 0):Nat)%4294967296:Nat)).length=(((max (lim a).length (lim b).length):Nat)+1:Nat):=by rw[KP];exact p
 replace e:=e.to [⟨x,139,((z).set i (((j+((lim a).getD i 0):Nat)+((lim b).getD i 0):Nat)%4294967296:Nat)).flatMap aZ⟩] [];refine lN (kQ (lL e [.m 36 7] (lV 37 (mV (((j+((lim a).getD i 0):Nat)+((lim b).getD i 0):Nat)/4294967296)) ?_ (hr:=aK (n:=K5 (((j+((lim a).getD i 0):Nat)+((lim b).getD i 0):Nat):Int) 4294967296) kR (dN _ 4294967296)))));refine lL e [.m 7 37] (lN (kQ (lL e [.m 20 8] (bD 21 ((i:Nat)+1) (i+1) ?_))));refine lL e [.m 8 21] (lD ?_);intro a_ Q;refine ⟨_,_,?_,⟨i+1,(z).set i (((j+((lim a).getD i 0):Nat)+((lim b).getD i 0):Nat)%4294967296:Nat),(((j+((lim a).getD i 0):Nat)+((lim b).getD i 0):Nat)/4294967296:Nat),zb,rfl,rfl,e.to _ _,oM,za,(I.set _ oM),oM,(by rw[vd (t:=(lim a).getD i 0+(lim b).getD i 0) oM (hz i (nR _)) inv oM,aR,aR,J1];omega),(oD oM hz)⟩,Q.to _ kR⟩
 omega
theorem kv (a:Nat)(A:Option Addr)(c:Nat)(hc:(lim a).length≤c)(b:Nat)(D:Option Addr)(d:Nat)(hd:(lim b).length≤d)(hLa:(lim a).length≤4000000000)(hLb:(lim b).length≤4000000000)(y:b≤a)(w:World)(h:Hp)(g:G w h)(Y:S3 A (lim a) h)(W:S3 D (lim b) h):CR 203 #[.slice A ((lim a).length) c,.slice D ((lim b).length) d] w h (fun v h1=>RN h1 v (a-b)):=by
 have e:=(((sS g).aS Y).aS W);have V:=dg y;refine go Tryz.func203 [(0,qS A ((lim a).length) c),(1,qS D ((lim b).length) d)] rfl (aa e [.v 4 (sZ)] (aI (lL e [.m 9 0,.v 10 (nV ((lim a).length))] (lK 11 139 ((lim a).length) 1 4 (uW 0) aZ 0 e (fun x w2 Z e=>?_)))));have I:(Am ((lim a).length) 0).length=((lim a).length):=by simp
 refine lL e [.m 5 11] (aI (lL e [.v 6 (uV 0)] (ah (aa e [.v 7 (iV 0)] (a8 ?_)))));refine bH _ (CG.loop (fun L Γ w_=>∃ (i:Nat) (z:List Nat) (j:Nat) (h_:Hp),L=(lim a).length-i∧Γ=[(0,qS A ((lim a).length) c),(1,qS D ((lim b).length) d),(4,sZ),(5,qS (sB x) ((lim a).length) ((lim a).length)),(7,nV i),(6,mV j)]∧SS w h w_ h_ [⟨x,139,(z).flatMap aZ⟩] [] [S3 D (lim b),S3 A (lim a)]∧i≤(lim a).length∧z.length=(lim a).length∧Ld z∧j≤1∧aj 4294967296 z+aj 4294967296 ((lim b).take i)=aj 4294967296 ((lim a).take i)+4294967296^i*j∧(∀ k,i≤k→z.getD k 0=0)) _ ⟨0,Am ((lim a).length) 0,0,Z,rfl,rfl,e.to _ _,K7 _,I,Ld.rep _,oM,(by rw[dk];simp[aj]),fun k _=>dM⟩ ?_);rintro _ _ w5 ⟨i,z,j,h6,hm7,rfl,e,hi,p,M,Q,inv,hz⟩;have O:=(Ld.lim a).get i;have K:=(Ld.lim b).get i;refine cQ (aa e [.m 12 7,.m 13 0,.v 14 (nV ((lim a).length))] ?_);cases u:(decide ((i:Int)<(((lim a).length:Nat):Int)))
 ·
  have F:=oF u;refine lB 15 u (af (CG.exit ?_))
  show CG _ _ _ _ _ _ _ _
  refine aa e [.m 36 5] ?_;have J:i=(lim a).length:=by omega
  rw[Ks (show (lim a).length≤i by omega),Ks (show (lim b).length≤i by omega),cG,cG,J,←p] at inv
  have hE:aj 4294967296 z=a-b:=vw M inv y;obtain ⟨h9,e,B,U,S⟩:=e.pub 0;replace e:=(e.to [] []).aS (SlO.of_flat (sz:=1) (f:=aZ) (d:=0) (b:=x) (o:=0) (l:=z) (fun _=>rfl) B);exact ag 37 e (iG (sB x) ((lim a).length) z ((lim a).length) p oM oM _ _ e.g e.f.1) (fun _ _ e=>lL e [.m 4 37] (ac e [] (qS (sB x) (tl z ((lim a).length)) ((lim a).length)) (RN.trim M hE p (nR _) e.f.1)))
 have F:=oT u;refine lB 15 u (ak (cK (cQ (kZ (cQ (cR 11 [] mixed e ar ?_))))));refine eV 0 18 (qS A ((lim a).length) c) (eV 1 19 (nV i) (eX 2 20 A ((lim a).length) c 1 (i:Nat) i ((e.f.2.1).ok oM) (eH 3 21 (mW ((lim a).getD i 0)) e ((e.f.2.1).el i oM) (eV 4 22 (mV ((lim a).getD i 0)) ?_ (hv:=fun _=>rU ((((lim a).getD i 0:Nat):Int)) kR (ba oM oM))))));refine eV 5 23 (qS D ((lim b).length) d) (eV 6 24 (nV i) (eV 9 27 (mV j) (aq 7 25 e (fun _ _ e=>F5 D d (lim b) ((lim b).length) rfl i oM (Ld.lim _) _ _ e.g e.f.1) (fun _ _ e=>eV 8 26 (mV ((((lim a).getD i 0)+(18446744073709551616-((lim b).getD i 0)))%18446744073709551616)) ?_ (hv:=fun _=>rU (((((lim a).getD i 0:Nat):Int)-(((lim b).getD i 0:Nat):Int))) kR (kc ((lim a).getD i 0) ((lim b).getD i 0) oM))))));refine eV 10 28 (mV ((((((lim a).getD i 0)+(18446744073709551616-((lim b).getD i 0)))%18446744073709551616:Nat)+(18446744073709551616-j))%18446744073709551616)) ?_ (hv:=fun _=>rU (((((((lim a).getD i 0)+(18446744073709551616-((lim b).getD i 0)))%18446744073709551616:Nat):Int)-(j:Int))) kR (kc ((((lim a).getD i 0)+(18446744073709551616-((lim b).getD i 0)))%18446744073709551616:Nat) j oM));refine ck e (fun _ zb e=>tV 11 8 (mV ((((((lim a).getD i 0)+(18446744073709551616-((lim b).getD i 0)))%18446744073709551616:Nat)+(18446744073709551616-j))%18446744073709551616)) (th ?_));obtain ⟨t,ht⟩:∃ t,t=((((((lim a).getD i 0)+(18446744073709551616-((lim b).getD i 0)))%18446744073709551616:Nat)+(18446744073709551616-j))%18446744073709551616:Nat):=⟨_,rfl⟩;obtain ⟨H,C⟩:=vi O K Q ht;rw[ht] at H C
 refine lL e [.m 29 5,.m 30 7,.m 31 8] (lV 32 (mW (((((((lim a).getD i 0)+(18446744073709551616-((lim b).getD i 0)))%18446744073709551616:Nat)+(18446744073709551616-j))%18446744073709551616:Nat)%4294967296)) ?_ (hr:=rT ((((((((lim a).getD i 0)+(18446744073709551616-((lim b).getD i 0)))%18446744073709551616:Nat)+(18446744073709551616-j))%18446744073709551616:Nat):Int)) kR (f4 _)));refine lX 33 (sB x) ((lim a).length) ((lim a).length) 1 (i:Nat) i rfl (lW 0 z aZ 1 i (((((((lim a).getD i 0)+(18446744073709551616-((lim b).getD i 0)))%18446744073709551616:Nat)+(18446744073709551616-j))%18446744073709551616:Nat)%4294967296:Nat) e oM (fun _ e=>?_));have za:((z).set i (((((((lim a).getD i 0)+(18446744073709551616-((lim b).getD i 0)))%18446744073709551616:Nat)+(18446744073709551616-j))%18446744073709551616:Nat)%4294967296:Nat)).length=((lim a).length):=by rw[KP];exact p
 replace e:=e.to [⟨x,139,((z).set i (((((((lim a).getD i 0)+(18446744073709551616-((lim b).getD i 0)))%18446744073709551616:Nat)+(18446744073709551616-j))%18446744073709551616:Nat)%4294967296:Nat)).flatMap aZ⟩] [];refine lN (kQ (lL e [.m 34 8] (lV 35 (mV (((((((lim a).getD i 0)+(18446744073709551616-((lim b).getD i 0)))%18446744073709551616:Nat)+(18446744073709551616-j))%18446744073709551616:Nat)/9223372036854775808)) ?_ (hr:=aK (n:=K5 (((((((lim a).getD i 0)+(18446744073709551616-((lim b).getD i 0)))%18446744073709551616:Nat)+(18446744073709551616-j))%18446744073709551616:Nat):Int) 9223372036854775808) kR (dN _ 9223372036854775808)))));refine lL e [.m 6 35] (lN (kQ (lL e [.m 16 7] (bD 17 ((i:Nat)+1) (i+1) ?_))));refine lL e [.m 7 17] (lD ?_);intro a_ X;refine ⟨_,_,?_,⟨i+1,(z).set i (((((((lim a).getD i 0)+(18446744073709551616-((lim b).getD i 0)))%18446744073709551616:Nat)+(18446744073709551616-j))%18446744073709551616:Nat)%4294967296:Nat),(((((((lim a).getD i 0)+(18446744073709551616-((lim b).getD i 0)))%18446744073709551616:Nat)+(18446744073709551616-j))%18446744073709551616:Nat)/9223372036854775808:Nat),zb,rfl,rfl,e.to _ _,oM,za,(M.set _ oM),C,(Cq oM (hz i (nR _)) inv H),(oD oM hz)⟩,X.to _ kR⟩
 omega
theorem Dy {x y:Nat}(a:x<4294967296)(b:y<4294967296):x*y≤18446744065119617025:=KM (show x≤4294967295 by omega) (show y≤4294967295 by omega)
theorem vL {a b q r:Nat}(h:a=b*q+r)(hr:r<b):q=a/b∧r=a%b:=by
 subst h;rw[KR oM,JW hr,Nat.mul_add_mod,AS hr];simp
theorem mZ {l:List Nat}{k j x:Nat}(a:k<l.length)(h:∀ i,j≤i→l.getD i 0=0)(b:k<j):∀ i,j≤i→(l.set k x).getD i 0=0:=fun i hi=>by rw[bF a,MM oM];exact h i hi
theorem nk (a:Nat)(A:Option Addr)(c:Nat)(hc:(lim a).length≤c)(b:Nat)(D:Option Addr)(d:Nat)(hd:(lim b).length≤d)(hLa:(lim a).length≤4000000000)(hLb:(lim b).length≤4000000000)(w:World)(h:Hp)(g:G w h)(hA:S3 A (lim a) h)(hD:S3 D (lim b) h):CR 163 #[.slice A ((lim a).length) c,.slice D ((lim b).length) d] w h (fun v h1=>RN h1 v (a*b)):=by
 have e:=(((sS g).aS hA).aS hD);refine go Tryz.func163 [(0,qS A ((lim a).length) c),(1,qS D ((lim b).length) d)] rfl (aa e [.v 4 (sZ)] (aI (lL e [.m 9 0,.v 10 (nV ((lim a).length)),.m 11 1,.v 12 (nV ((lim b).length))] (bD 13 (((lim a).length:Nat)+((lim b).length:Nat)) (((lim a).length)+((lim b).length)) ?_))));refine lK 14 139 (((lim a).length)+((lim b).length):Nat) 1 4 (uW 0) aZ 0 e (fun u w2 h3 e=>?_);have K:(Am (((lim a).length)+((lim b).length):Nat) 0).length=(((lim a).length)+((lim b).length):Nat):=by simp
 refine lL e [.m 5 14] (ah (aa e [.v 6 (iV 0)] (a8 ?_)));refine bH _ (CG.loop (fun z Γ U=>∃ (i:Nat) (l:List Nat) (h_:Hp),z=(lim a).length-i∧Γ=[(0,qS A ((lim a).length) c),(1,qS D ((lim b).length) d),(4,sZ),(5,qS (sB u) (((lim a).length)+((lim b).length):Nat) (((lim a).length)+((lim b).length):Nat)),(6,nV i)]∧SS w h U h_ [⟨u,139,(l).flatMap aZ⟩] [] [S3 D (lim b),S3 A (lim a)]∧i≤(lim a).length∧l.length=(lim a).length+(lim b).length∧Ld l∧aj 4294967296 l=aj 4294967296 ((lim a).take i)*b∧(∀ k,i+(lim b).length≤k→l.getD k 0=0)) _ ⟨0,Am (((lim a).length)+((lim b).length):Nat) 0,h3,rfl,rfl,e.to _ _,K7 _,K,Ld.rep _,(by rw[dk];simp[aj]),fun k _=>dM⟩ ?_);rintro _ _ w5 ⟨i,l,Z,hm7,rfl,e,hi,B,W,hv,hz⟩;have O:=(Ld.lim a).get i;refine cQ (aa e [.m 15 6,.m 16 0,.v 17 (nV ((lim a).length))] ?_);cases x:(decide ((i:Int)<(((lim a).length:Nat):Int)))
 ·
  have J:=oF x;refine lB 18 x (af (CG.exit ?_))
  show CG _ _ _ _ _ _ _ _
  refine aa e [.m 65 5] ?_;have L:i=(lim a).length:=by omega
  rw[L,zy,cG] at hv
  have hE:aj 4294967296 l=a*b:=hv;obtain ⟨h9,e,H,Y,X⟩:=e.pub 0;replace e:=(e.to [] []).aS (SlO.of_flat (sz:=1) (f:=aZ) (d:=0) (b:=u) (o:=0) (l:=l) (fun _=>rfl) H);exact ag 66 e (iG (sB u) (((lim a).length)+((lim b).length):Nat) l (((lim a).length)+((lim b).length):Nat) B oM oM _ _ e.g e.f.1) (fun _ _ e=>lL e [.m 4 66] (ac e [] (qS (sB u) (tl l (((lim a).length)+((lim b).length):Nat)) (((lim a).length)+((lim b).length):Nat)) (RN.trim W hE B (nR _) e.f.1)))
 have J:=oT x;refine lB 18 x (ak (cK (cQ (kZ (aa e [.v 7 (uV 0)] (ah (aa e [.v 8 (iV 0)] (a8 ?_))))))));refine bH _ (CG.loop (fun z Γ U=>∃ (j:Nat) (l2:List Nat) (p:Nat) (h_:Hp),z=(lim b).length-j∧Γ=[(0,qS A ((lim a).length) c),(1,qS D ((lim b).length) d),(4,sZ),(5,qS (sB u) (((lim a).length)+((lim b).length):Nat) (((lim a).length)+((lim b).length):Nat)),(6,nV i),(8,nV j),(7,mV p)]∧SS w h U h_ [⟨u,139,(l2).flatMap aZ⟩] [] [S3 D (lim b),S3 A (lim a)]∧j≤(lim b).length∧l2.length=(lim a).length+(lim b).length∧Ld l2∧p<4294967296∧aj 4294967296 l2+4294967296^(i+j)*p=aj 4294967296 l+4294967296^i*((lim a).getD i 0*aj 4294967296 ((lim b).take j))∧(∀ k,i+(lim b).length≤k→l2.getD k 0=0)) _ ⟨0,l,0,Z,rfl,rfl,e.to _ _,K7 _,B,W,by omega,(by simp[aj]),hz⟩ ?_);rintro _ _ _ ⟨j,l2,p,ze,V,rfl,e,hj,y,F,hcy,inv,C⟩;have M:=(Ld.lim b).get j;have hlk:=F.get (i+j);have hxy:=Dy O M;refine cQ (aa e [.m 21 8,.m 22 1,.v 23 (nV ((lim b).length))] ?_);cases za:(decide ((j:Int)<(((lim b).length:Nat):Int)))
 ·
  have zb:=oF za;refine lB 24 za (af (CG.exit ?_))
  show CG _ _ _ _ _ _ _ _
  refine kQ (lL e [.m 57 5,.m 58 6,.m 59 1,.v 60 (nV ((lim b).length))] (bD 61 ((i:Nat)+((lim b).length:Nat)) (i+((lim b).length)) ?_));refine lL e [.m 62 7] (lV 63 (mW (p%4294967296)) ?_ (hr:=rT ((p:Int)) kR (f4 _)));refine lX 64 (sB u) (((lim a).length)+((lim b).length):Nat) (((lim a).length)+((lim b).length):Nat) 1 (i+((lim b).length):Nat) (i+((lim b).length):Nat) rfl (lW 0 l2 aZ 1 (i+((lim b).length):Nat) (p%4294967296) e oM (fun _ e=>?_));have zc:((l2).set (i+((lim b).length):Nat) (p%4294967296)).length=(((lim a).length)+((lim b).length):Nat):=by rw[KP];exact y
  replace e:=e.to [⟨u,139,((l2).set (i+((lim b).length):Nat) (p%4294967296)).flatMap aZ⟩] [];refine lN (kQ (lL e [.m 19 6] (bD 20 ((i:Nat)+1) (i+1) ?_)));refine lL e [.m 6 20] (lD ?_);intro a_ Q;refine ⟨_,_,?_,⟨i+1,(l2).set (i+((lim b).length):Nat) (p%4294967296),ze,rfl,rfl,e.to _ _,oM,zc,(F.set _ oM),(by have S:j=(lim b).length:=oM;rw[S] at inv;have I:=rN oM inv (C _ oM);rw[cG] at I;rw[show p%4294967296=p by omega];exact I.trans (sx hv)),(mZ oM (fun k hk=>C k oM) oM)⟩,Q.to _ kR⟩
  omega
 have zb:=oT za;refine lB 24 za (ak (cK (cQ (kZ (cQ (cR 21 [] mixed e ar ?_))))));refine eV 0 27 (mV p) (eV 1 28 (qS (sB u) (((lim a).length)+((lim b).length):Nat) (((lim a).length)+((lim b).length):Nat)) (eV 2 29 (nV i) (eV 3 30 (nV j) (jy 4 31 ((i:Nat)+(j:Nat)) (i+j) (eX 5 32 (sB u) (((lim a).length)+((lim b).length):Nat) (((lim a).length)+((lim b).length):Nat) 1 (i+j:Nat) (i+j) rfl (eQ 6 33 0 l2 aZ 1 0 (i+j) (mW ((l2).getD (i+j) 0)) e oM (eV 7 34 (mV ((l2).getD (i+j) 0)) ?_ (hv:=fun _=>rU ((((l2).getD (i+j) 0:Nat):Int)) kR (ba oM oM)))))))));refine eV 8 35 (mV (p+((l2).getD (i+j) 0))) ?_ (hv:=fun _=>rU (((p:Int)+(((l2).getD (i+j) 0:Nat):Int))) kR (dD p ((l2).getD (i+j) 0) oM));refine eV 9 36 (qS A ((lim a).length) c) (eV 10 37 (nV i) (eX 11 38 A ((lim a).length) c 1 (i:Nat) i ((e.f.2.1).ok oM) (eH 12 39 (mW ((lim a).getD i 0)) e ((e.f.2.1).el i oM) (eV 13 40 (mV ((lim a).getD i 0)) ?_ (hv:=fun _=>rU ((((lim a).getD i 0:Nat):Int)) kR (ba oM oM))))));refine eV 14 41 (qS D ((lim b).length) d) (eV 15 42 (nV j) (eX 16 43 D ((lim b).length) d 1 (j:Nat) j ((e.f.1).ok oM) (eH 17 44 (mW ((lim b).getD j 0)) e ((e.f.1).el j oM) (eV 18 45 (mV ((lim b).getD j 0)) ?_ (hv:=fun _=>rU ((((lim b).getD j 0:Nat):Int)) kR (ba oM oM))))));refine eV 19 46 (mV (((lim a).getD i 0)*((lim b).getD j 0))) ?_ (hv:=fun _=>rU (((((lim a).getD i 0:Nat):Int)*(((lim b).getD j 0:Nat):Int))) kR (fT ((lim a).getD i 0) ((lim b).getD j 0) oM));refine eV 20 47 (mV ((p+((l2).getD (i+j) 0):Nat)+(((lim a).getD i 0)*((lim b).getD j 0):Nat))) ?_ (hv:=fun _=>rU ((((p+((l2).getD (i+j) 0):Nat):Int)+((((lim a).getD i 0)*((lim b).getD j 0):Nat):Int))) kR (dD (p+((l2).getD (i+j) 0):Nat) (((lim a).getD i 0)*((lim b).getD j 0):Nat) oM));refine ck e (fun _ zf e=>tV 21 7 (mV ((p+((l2).getD (i+j) 0):Nat)+(((lim a).getD i 0)*((lim b).getD j 0):Nat))) (th (lL e [.m 48 5,.m 49 6,.m 50 8] (bD 51 ((i:Nat)+(j:Nat)) (i+j) ?_))));refine lL e [.m 52 7] (lV 53 (mW (((p+((l2).getD (i+j) 0):Nat)+(((lim a).getD i 0)*((lim b).getD j 0):Nat):Nat)%4294967296)) ?_ (hr:=rT ((((p+((l2).getD (i+j) 0):Nat)+(((lim a).getD i 0)*((lim b).getD j 0):Nat):Nat):Int)) kR (f4 _)));refine lX 54 (sB u) (((lim a).length)+((lim b).length):Nat) (((lim a).length)+((lim b).length):Nat) 1 (i+j:Nat) (i+j) rfl (lW 0 l2 aZ 1 (i+j) (((p+((l2).getD (i+j) 0):Nat)+(((lim a).getD i 0)*((lim b).getD j 0):Nat):Nat)%4294967296:Nat) e oM (fun _ e=>?_));have zd:((l2).set (i+j) (((p+((l2).getD (i+j) 0):Nat)+(((lim a).getD i 0)*((lim b).getD j 0):Nat):Nat)%4294967296:Nat)).length=(((lim a).length)+((lim b).length):Nat):=by rw[KP];exact y
 replace e:=e.to [⟨u,139,((l2).set (i+j) (((p+((l2).getD (i+j) 0):Nat)+(((lim a).getD i 0)*((lim b).getD j 0):Nat):Nat)%4294967296:Nat)).flatMap aZ⟩] [];refine lN (kQ (lL e [.m 55 7] (lV 56 (mV (((p+((l2).getD (i+j) 0):Nat)+(((lim a).getD i 0)*((lim b).getD j 0):Nat):Nat)/4294967296)) ?_ (hr:=aK (n:=K5 (((p+((l2).getD (i+j) 0):Nat)+(((lim a).getD i 0)*((lim b).getD j 0):Nat):Nat):Int) 4294967296) kR (dN _ 4294967296)))));refine lL e [.m 7 56] (lN (bH [(0,qS A ((lim a).length) c),(1,qS D ((lim b).length) d),(4,sZ),(5,qS (sB u) (((lim a).length)+((lim b).length):Nat) (((lim a).length)+((lim b).length):Nat)),(6,nV i),(8,nV j),(7,mV (((p+((l2).getD (i+j) 0):Nat)+(((lim a).getD i 0)*((lim b).getD j 0):Nat):Nat)/4294967296))] ?_));refine kQ (lL e [.m 25 8] (bD 26 ((j:Nat)+1) (j+1) ?_));refine lL e [.m 8 26] (lD ?_);intro a_ Q;refine ⟨_,_,?_,⟨j+1,(l2).set (i+j) (((p+((l2).getD (i+j) 0):Nat)+(((lim a).getD i 0)*((lim b).getD j 0):Nat):Nat)%4294967296:Nat),(((p+((l2).getD (i+j) 0):Nat)+(((lim a).getD i 0)*((lim b).getD j 0):Nat):Nat)/4294967296:Nat),zf,rfl,rfl,e.to _ _,oM,zd,(F.set _ oM),oM,(mf oM inv oM),(mZ oM C oM)⟩,Q.to _ kR⟩
 omega
theorem If (a:Nat)(A:Option Addr)(c:Nat)(hc:(lim a).length≤c)(hLa:(lim a).length≤4000000000)(d:Nat)(I:0<d)(hd:d<4294967296)(w:World)(h:Hp)(g:G w h)(Y:S3 A (lim a) h):CR 191 #[.slice A ((lim a).length) c,mW d] w h (fun v h1=>∃ Q,∃ r:Nat,v=.tuple #[Q,mW r]∧RN h1 Q (a/d)∧r=a%d):=by
 have e:=((sS g).aS Y);refine go Tryz.func191 [(0,qS A ((lim a).length) c),(1,mW d)] rfl (aa e [.v 4 (sZ),.v 5 (uW 0)] (aI (lL e [.m 9 0,.v 10 (nV ((lim a).length))] (lK 11 139 ((lim a).length) 1 4 (uW 0) aZ 0 e (fun p w2 Z e=>?_)))));have J:(Am ((lim a).length) 0).length=((lim a).length):=by simp
 refine lL e [.m 6 11] (aI (lL e [.v 7 (uV 0)] (ah (aa e [.m 12 0,.v 13 (nV ((lim a).length))] (lV 14 (iV ((((lim a).length:Nat):Int)-1)) ?_ (hr:=rS ((((lim a).length:Nat)-1)) kR ((fX oM oM).trans oM)))))));refine lL e [.m 8 14] (a8 ?_);refine bH _ (CG.loop (fun L Γ w_=>∃ (m:Nat) (z:List Nat) (r:Nat) (h_:Hp),L=m∧Γ=[(0,qS A ((lim a).length) c),(1,mW d),(4,sZ),(5,uW 0),(6,qS (sB p) ((lim a).length) ((lim a).length)),(8,iV ((m:Int)-1)),(7,mV r)]∧SS w h w_ h_ [⟨p,139,(z).flatMap aZ⟩] [] [S3 A (lim a)]∧m≤(lim a).length∧z.length=(lim a).length∧Ld z∧a=d*aj 4294967296 z+(4294967296^m*r+aj 4294967296 ((lim a).take m))∧r<d∧(∀ k,k<m→z.getD k 0=0)) _ ⟨(lim a).length,Am ((lim a).length) 0,0,Z,rfl,rfl,e.to _ _,nR _,J,Ld.rep _,(by rw[dk,zy,cG];simp),I,fun k _=>dM⟩ ?_);rintro _ _ w5 ⟨m,z,r,W,hm7,rfl,e,hm,B,V,inv,hr,hz⟩;have F:=(Ld.lim a).get (m-1);refine cQ (aa e [.m 15 8] ?_);cases i:(decide ((0:Int)≤((m:Int)-1:Int)))
 ·
  have H:=oF i;refine lB 16 i (af (CG.exit ?_))
  show CG _ _ _ _ _ _ _ _
  refine aa e [.m 39 6] ?_;have K:m=0:=by omega
  rw[K,K8,Kt,List.take_zero] at inv
  have C:a=d*aj 4294967296 z+r:=by simpa [aj] using inv
  obtain ⟨O,M⟩:=vL C hr;have hE:aj 4294967296 z=a/d:=O;obtain ⟨h9,e,D,U,S⟩:=e.pub 0;replace e:=(e.to [] []).aS (SlO.of_flat (sz:=1) (f:=aZ) (d:=0) (b:=p) (o:=0) (l:=z) (fun _=>rfl) D);refine ag 40 e (iG (sB p) ((lim a).length) z ((lim a).length) B oM oM _ _ e.g e.f.1) (fun _ _ e=>lL e [.m 41 7] (lV 42 (mW r) ?_ (hr:=aK (aK (n:=IntKind.wrap .u32 (r:Int)) kR (f4 _)) oM)));exact lL e [.m 4 40,.m 5 42] (ac e [] (.tuple #[qS (sB p) (tl z ((lim a).length)) ((lim a).length),mW r]) (⟨_,r,rfl,RN.trim V hE B (nR _) e.f.1,M⟩))
 have H:=oT i;refine lB 16 i (ak (cK (cQ (kZ (aa e [.m 19 7] (lV 20 (mV (r*4294967296%18446744073709551616)) ?_ (hr:=rU (((r:Int)*4294967296)) kR (ja r 4294967296))))))));refine lL e [.m 21 0,.m 22 8] (lX 23 A ((lim a).length) c 1 ((m:Int)-1) (m-1) ((e.f.1).ok oM) ?_);refine lH 24 (mW ((lim a).getD (m-1) 0)) e ((e.f.1).el (m-1) oM) (lV 25 (mV ((lim a).getD (m-1) 0)) ?_ (hr:=rU ((((lim a).getD (m-1) 0:Nat):Int)) kR (ba oM oM)));refine lV 26 (mV (r*4294967296+(lim a).getD (m-1) 0)) ?_ (hr:=aK (gB (t:=34) (u:=34) (x:=.tmp 20) (y:=.tmp 25) (a:=(r*4294967296%18446744073709551616)) (b:=((lim a).getD (m-1) 0)) kR kR kR oM oM _) (by rw[AS (show r*4294967296<18446744073709551616 by omega),qN F]));refine lL e [.m 7 26] (aI (lL e [.m 27 6,.m 28 8,.m 29 7,.m 30 1] (lV 31 (mV d) ?_ (hr:=rU ((d:Int)) kR (ba oM oM)))));have j:=tH (r:=r) (x:=(lim a).getD (m-1) 0) I hr F hd;refine lV 32 (mV ((r*4294967296+(lim a).getD (m-1) 0)/d)) ?_ (hr:=aK (dl (t:=34) (u:=34) (x:=.tmp 29) (y:=.tmp 31) (k:=.u64) (a:=((r*4294967296+(lim a).getD (m-1) 0:Nat):Int)) (b:=(d:Int)) kR kR kR oM _) (jZ (r*4294967296+(lim a).getD (m-1) 0) d oM));refine lV 33 (mW (((r*4294967296+(lim a).getD (m-1) 0)/d:Nat)%4294967296)) ?_ (hr:=rT ((((r*4294967296+(lim a).getD (m-1) 0)/d:Nat):Int)) kR (f4 _));refine lX 34 (sB p) ((lim a).length) ((lim a).length) 1 ((m:Int)-1) (m-1) rfl (lW 0 z aZ 1 (m-1) (((r*4294967296+(lim a).getD (m-1) 0)/d:Nat)%4294967296:Nat) e oM (fun _ e=>?_));have za:((z).set (m-1) (((r*4294967296+(lim a).getD (m-1) 0)/d:Nat)%4294967296:Nat)).length=((lim a).length):=by rw[KP];exact B
 replace e:=e.to [⟨p,139,((z).set (m-1) (((r*4294967296+(lim a).getD (m-1) 0)/d:Nat)%4294967296:Nat)).flatMap aZ⟩] [];refine lN (kQ (lL e [.m 35 7,.m 36 1] (lV 37 (mV d) ?_ (hr:=rU ((d:Int)) kR (ba oM oM)))));refine lV 38 (mV ((r*4294967296+(lim a).getD (m-1) 0)%d)) ?_ (hr:=aK (dU (t:=34) (u:=34) (x:=.tmp 35) (y:=.tmp 37) (k:=.u64) (a:=((r*4294967296+(lim a).getD (m-1) 0:Nat):Int)) (b:=(d:Int)) kR kR kR oM _) (cp (r*4294967296+(lim a).getD (m-1) 0) d));refine lL e [.m 7 38] (lN (kQ (lL e [.m 17 8] (lV 18 (iV (((m-1:Nat):Int)-1)) ?_ (hr:=rS ((((m:Int)-1)-1)) kR ((fX oM oM).trans oM))))));refine lL e [.m 8 18] (lD ?_);intro a_ X;refine ⟨_,_,?_,⟨m-1,(z).set (m-1) (((r*4294967296+(lim a).getD (m-1) 0)/d:Nat)%4294967296:Nat),((r*4294967296+(lim a).getD (m-1) 0)%d:Nat),W,rfl,rfl,e.to _ _,oM,za,(V.set _ (A4 _ kD)),(by rw[j.1];exact uP oM oM (hz _ oM) inv j.2.1),j.2.2,(fun k hk=>by rw[bF oM,MM oM];exact hz k oM)⟩,X.to _ kR⟩
 omega
theorem qo {B:List Bx}:∀ (ps:List (Nat × Nat × Nat)) (q:Nat) (a:Addr),(bT B ps)[q]?=some a→∃ p∈ps,a.block=(aA B p.1).b:=by
  intro ps
  induction ps with
  | nil=>intro q a h;simp[bT] at h
  | cons p ps ih =>
    intro q a h
    unfold bT at h
    rcases ep q (kB (aA B p.1).b p.2.1 p.2.2).length with hl|hl
    · rw[yY hl] at h
      exact ⟨p,by simp,by rw[ei _ _ _ _ _ h]⟩
    · rw[y3 hl] at h
      obtain ⟨d,c,e⟩:=ih _ _ h;exact ⟨d,by simp[c],e⟩
section
variable {M:Ms} {P:Program} {n:Nat} {N R:Po} {X:Nat→Po} {ops:Array Oper} {k k0:Nat} {L:Array Bool} {Γ:bz} {w:World} {h:Hp} {w0:World} {h0:Hp} {B:List Bx} {Rs:List Rw} {F:List (Hp→Prop)}
theorem HY {α:Type}(j:Nat)(l:List α)(f:α→List Value)(sz e:Nat)(x:α)(s:SS w0 h0 w h B Rs F)(o:e<l.length)(H:∀ w',Put (aA B j).b w w'→SS w0 h0 w' h (gA B j ((l.set e x).flatMap f)) Rs F→LG P n N R X ops (k+1) Γ w')(c:cS ops Γ k=true:=by kernel_rfl)
  (a:decide (j<B.length)=true:=by kernel_rfl)(hB:(aA B j).vs=l.flatMap f:=by kernel_rfl)(hf:∀ x,(f x).length=sz:=by intro _;rfl)
  (i:dj P (execOp (ev Γ) (ao ops k))=some (.skip,mm (aA B j).b (0+e*sz) (f x)):=by kernel_rfl):LG P n N R X ops k Γ w :=
 LG.putA j l f sz e x s.st s.g0 (ko c).1 (ko c).2 a hB hf o i (fun w' p d=>H w' p (s.put0 (oT a) p d (jS (oT a))))
theorem Jn {α:Type}(i j:Nat)(l:List α)(f:α→List Value)(sz e:Nat)(x:α)(s:SS w0 h0 w h B Rs F)(o:e<l.length)(H:∀ w',Put (aA B j).b w w'→SS w0 h0 w' h (gA B j ((l.set e x).flatMap f)) Rs F→AG M P n N R X ops k0 (L.setIfInBounds i true) Γ w')(c:F0 ops k0 L Γ i=true:=by kernel_rfl)
  (a:decide (j<B.length)=true:=by kernel_rfl)(hB:(aA B j).vs=l.flatMap f:=by kernel_rfl)(hf:∀ x,(f x).length=sz:=by intro _;rfl)
  (k:dj P (execOp (ev Γ) (ao ops i))=some (.skip,mm (aA B j).b (0+e*sz) (f x)):=by kernel_rfl)(hz:∀ K bs,M.z=some (K,bs)→K≤(aA B j).b∨(aA B j).b∈bs:=by intro _ _ e;cases e):AG M P n N R X ops k0 L Γ w :=
 T.putA i j l f sz e x s.st s.g0 (ki c).1 (ki c).2 a hB hf o k (fun w' p d=>H w' p (s.put0 (oT a) p d (jS (oT a)))) hz
theorem aQ {α:Type}(i t j:Nat)(l:List α)(f:α→List Value)(sz:Nat)(d:α)(e:Nat)(v:Value)(s:SS w0 h0 w h B Rs F)(z:e<l.length)(H:AG M P n N R X ops k0 (L.setIfInBounds i true) ((t,v)::Γ) w)(hM:(aA B j).b ∉ M.l:=by exact List.not_mem_nil)(p:x5 n ops k0 [] L Γ i t=true:=by kernel_rfl)
  (k:decide (j<B.length)=true:=by kernel_rfl)(hB:(aA B j).vs=l.flatMap f:=by kernel_rfl)(hf:∀ x,(f x).length=sz:=by intro _;rfl)
  (y:bS P (execOp (ev Γ) (ao ops i)) (f (l.getD e d))=some (.value v,kB (aA B j).b (0+e*sz) (f (l.getD e d)).length):=by kernel_rfl):AG M P n N R X ops k0 L Γ w :=
 aL i t v (fun w' C=>bL _ _ _ _ y (fun q a u ha c=>by
  rw[ei _ _ _ _ _ ha,((s.st.own _ (bB (oT k))).mo C hM).cell,hB];rw[←fq hf d l e z] at c
  have o:q<sz:=by
   rcases ep q sz with hl|hl
   ·exact hl
   ·rw[tu (by simp;omega)] at c;cases c
  rw[yZ o,y2] at c
  rw[z6];exact c)) H p
theorem Av (t j:Nat){f:FuncId}{args:Array Value}{Φ:Value→Prop}(s:SS w0 h0 w h B Rs F)(c:∀ hp,G w hp→AllF F hp→Seg hp (aA B j).b 0 (aA B j).vs→Calls P f args w (Ret w hp (fun v _=>Φ v)))(H:∀ v w' h',Up w h w' h'→SS w0 h0 w' h' B Rs F→Φ v→LG P n N R X ops (k+1) ((t,v)::Γ) w')(d:decide (j<B.length)=true:=by kernel_rfl)(e:cL ops Γ k t n=true:=by kernel_rfl)(hr:(execOp (ev Γ) (ao ops k)).run P w=.ok (.enter f args) w:=by kernel_rfl):LG P n N R X ops k Γ w :=
 gy t (s.lends (oT d) c) (fun v w' h' u a=>H v w' h' u (s.step u) a) e hr
theorem SS.lends2 (s:SS w0 h0 w h B Rs F){i j:Nat}(hi:i<B.length)(H:j<B.length)(o:i≠j){f:FuncId}{args:Array Value}{Φ:Value→Prop}(c:∀ a,G w a→AllF F a→Seg a (aA B i).b 0 (aA B i).vs→Seg a (aA B j).b 0 (aA B j).vs→Calls P f args w (Ret w a (fun v _=>Φ v))):Calls P f args w (Ret w h (fun v _=>Φ v)):=by
 have y:=bB hi;have d:=bB H;have L:(aA B j).b≠(aA B i).b:=eN s.st (decide_eq_true H) (decide_eq_true hi) (by simpa using o.symm);obtain ⟨a,g,gw,O,I⟩:=CI s.g (s.st.jk _ y) (s.st.own _ y);have k:a[(aA B j).b]?=some junk:=by rw[I _ L];exact s.st.jk _ d
 obtain ⟨x,D,l,C,p⟩:=CI g k (s.st.own _ d);refine (c x D ((s.f.gw s.mo gw).gw s.mo l) (O.gw l) C).mono ?_;rintro e w' ⟨v,h',K,u,z⟩;obtain ⟨h1,u1⟩:=pT k p (g.sz D) u;obtain ⟨J,M⟩:=pT (s.st.jk _ y) I (s.g.sz g) u1;exact ⟨v,J,K,M,z⟩
theorem In (t i j:Nat){f:FuncId}{args:Array Value}{Φ:Value→Prop}(s:SS w0 h0 w h B Rs F)(c:∀ hp,G w hp→AllF F hp→Seg hp (aA B i).b 0 (aA B i).vs→Seg hp (aA B j).b 0 (aA B j).vs→Calls P f args w (Ret w hp (fun v _=>Φ v)))(H:∀ v w' h',SS w0 h0 w' h' B Rs F→Φ v→LG P n N R X ops (k+1) ((t,v)::Γ) w')(a:(decide (i<B.length) && decide (j<B.length) && (i != j))=true:=by kernel_rfl)(d:cL ops Γ k t n=true:=by kernel_rfl)(hr:(execOp (ev Γ) (ao ops k)).run P w=.ok (.enter f args) w:=by kernel_rfl):LG P n N R X ops k Γ w:=by
 simp only[i1,decide_eq_true_eq,bne_iff_ne,ne_eq] at a
 exact lC t s (s.lends2 a.1.1 a.1.2 a.2 c) H d hr
theorem BK {w w':World}{h f h':Hp}{b:Nat}{M:List Nat}(j:h[b]?=some junk)(l:∀ c,c≠b→f[c]?=h[c]?)(i:f.size=h.size)(u:UpM M w f w' h'):∃ d,UpM M w h w' d∧(∀ c,c≠b→d[c]?=h'[c]?):=by
 have o:=a7 j;have a:b<h'.size:=e6 oM u.gr.size;refine ⟨h'.setIfInBounds b junk,⟨u.mo,⟨by simp;rw[←i];exact u.gr.size,fun c k=>?_⟩,⟨by simp;exact u.g.size,fun c=>?_⟩⟩,fun c k=>i0 (Ne.symm k)⟩
 ·by_cases e:b=c
  ·subst e;rw[DS a,j]
  ·rw[i0 e,u.gr.blk c oM,l c (Ne.symm e)]
 ·by_cases e:b=c
  ·subst e;right;rw[DS a]
  ·rw[i0 e];exact u.g.blk c
theorem Gy (t i j:Nat){f:FuncId}{args:Array Value}{Φ:Value→World→Prop}(s:SS w0 h0 w h B Rs F)(c:∀ d,G w d→AllF F d→d[(aA B i).b]?=some junk→Seg d (aA B j).b 0 (aA B j).vs→Calls P f args w (ef (aA B i).b w d (fun v w' _=>Φ v w')))(H:∀ v w' h',UpM [(aA B i).b] w h w' h'→Φ v w'→LG P n N R X ops (k+1) ((t,v)::Γ) w')(a:(decide (i<B.length) && decide (j<B.length) && (i != j))=true:=by kernel_rfl)(z:cL ops Γ k t n=true:=by kernel_rfl)(hr:(execOp (ev Γ) (ao ops k)).run P w=.ok (.enter f args) w:=by kernel_rfl):LG P n N R X ops k Γ w:=by
 simp only[i1,decide_eq_true_eq,bne_iff_ne,ne_eq] at a
 have p:=bB a.1.2;have D:(aA B i).b≠(aA B j).b:=eN s.st (decide_eq_true a.1.1) (decide_eq_true a.1.2) (by simpa using a.2);obtain ⟨d,g,gw,I,x⟩:=CI s.g (s.st.jk _ p) (s.st.own _ p);refine d6 (rb:=(aA B i).b) (Φ:=fun v w' _=>Φ v w') (h:=h) t ((c d g (s.f.gw s.mo gw) (by rw[x _ D];exact s.st.jk _ (bB a.1.1)) I).mono ?_) (fun v w' h' u l=>H v w' h' u l) z hr;rintro e w' ⟨v,h',C,u,l⟩;obtain ⟨o,y,_⟩:=BK (s.st.jk _ p) x (s.g.sz g) u;exact ⟨v,o,C,y,l⟩
theorem JA {α:Type}(t j:Nat)(x y:Operand)(D e:TypeId)(f:α→List Value)(d:α)(A:Option Addr)(l2:List α)(m m2 c Q:Nat)(s:SS w0 h0 w h B Rs F)(so:SlO 1 f d h A l2)(K:l2.length=m2)(M:m2=m)(V:0<m)(i:(aA B j).vs.length=m)
  (H:∀ w',SS w0 h0 w' h (gA B j (l2.flatMap f)) Rs F→LG P n N R X ops (k+1) ((t,.int .i64 (m:Nat))::Γ) w')(S:m≤1099511627776:=by omega)(I:cL ops Γ k t n=true:=by kernel_rfl)(W:decide (j<B.length)=true:=by kernel_rfl)
  (hf:∀ x,(f x).length=1:=by intro _;rfl)(h1:∀ x,(f x).all (·.oneCell')=true:=by intro _;kernel_rfl)(Y:(ao ops k).op=.call { callee:=.builtin .copy,args:=#[x,y],argTypes:=#[D,D] }:=by kernel_rfl)(hx:ev Γ x=.slice (some ⟨(aA B j).b,0,none⟩) m Q:=by kernel_rfl)(U:ev Γ y=.slice A m2 c:=by kernel_rfl)
  (O:P.underlying D=some (.slice e):=by kernel_rfl)(hi:(P.info? e).map (·.size)=some 1:=by kernel_rfl):LG P n N R X ops k Γ w:=by
 subst M;have Z:=K;have o:=oT W;have z:=s.st.own _ (bB o);have C:(l2.flatMap f).length=m2:=by rw[cw hf,Z];omega
 rw[so.ok oM] at U
 have l:=run_copy_row (P:=P) w D D (ao ops k).type e (aA B j).b 0 m2 Q ⟨aB A,aO A,none⟩ m2 c (aA B j).vs.toArray (aA B j).t (l2.flatMap f) O hi z (by rw[C];exact (Nat.min_self m2).symm) (j0 s.g (so.flat hf)) (by rw[C];simp[i]) (fun u O=>by
  obtain ⟨a,_,ha⟩:=KV.1 O;exact (i4.1 (h1 a)) u ha)
 have e1:((aA B j).vs.toArray.toList.take 0++l2.flatMap f++(aA B j).vs.toArray.toList.drop (0+(l2.flatMap f).length)).toArray=(l2.flatMap f).toArray:=by
  rw[C];simp[KY,i]
 rw[e1,C] at l
 have p:Put (aA B j).b w (w.setRow (aA B j).b (l2.flatMap f).toArray):=⟨rfl,rfl,rfl,by simp,fun c I=>setRow_other _ _ _ _ I⟩
 have L:Own (w.setRow (aA B j).b (l2.flatMap f).toArray) (aA B j).b (aA B j).t (cb (aA B j).vs 0 (l2.flatMap f)):=by
  have e2:cb (aA B j).vs 0 (l2.flatMap f)=l2.flatMap f:=by
   have:=jL (l2.flatMap f) (aA B j).vs [] (by rw[i,C])
   simpa using this
  rw[e2];exact setRow_heap _ _ _ _ _ _ z
 have J:=s.st.put s.g0 o p L
 have e2:cb (aA B j).vs 0 (l2.flatMap f)=l2.flatMap f:=by
  have:=jL (l2.flatMap f) (aA B j).vs [] (by rw[i,C])
  simpa using this
 unfold fY at J
 rw[e2] at J
 refine LG.val t _ _ (bK I).1 (bK I).2 ?_ (H _ (s.put0 o p J (jS o)))
 unfold execOp
 have e3:goInt m2=.int .i64 (m2:Nat):=rfl;rw[e3] at l
 simp only[Y,resolve,invoke,builtin,Sem.run_bind,Sem.run_pure,K1,K2,B1,K3,hx,U,l]
theorem pP {Q:Exit→Act→World→Prop}{i:Nat}{x:Oper}{v:Value}{S:World→Prop}(hi:ops[i]?=some x)(l:∀ (j:Nat) (o:Oper) cs b,ops[j]?=some o→o.op≠.select cs b)
    (X:∀ c a w,Q (.panic c) (a.put x.dst v) w→Q (.panic c) a w)(O:∀ w w',S w→Tl M w w'→S w') :
    ∀ (n:Nat) (L:Array Bool) (a:Act) (w:World),
      (∀ j y,ops[j]?=some y→j≠i→L.getD j true=false→(∀ e∈y.after,g1 .any e=true→e.on≠i)→x.apart ops y=true) →
      i∈ga .any ops L→YieldsIf P ops S x v a→S w→nw M P ops Q 0 n (L.setIfInBounds i true) (a.put x.dst v) w→nw M P ops Q 0 (n+1) L a w:=by
  intro n
  induction n with
  | zero =>
    intro L a w _ hr I D H;refine ⟨fun h=>(by rw[h] at hr;cases hr),fun j F=>?_⟩
    by_cases hji:j=i
    · subst hji;exact I.wpOp hi D ⟨Rl.refl _ _ _ _,H⟩
    · have:=ready_mono F hji
      rw[H.1] at this
      cases this
  | succ n ih =>
    intro L a w d hr I D H;refine ⟨fun h=>(by rw[h] at hr;cases hr),fun j F=>?_⟩
    by_cases hji:j=i
    · subst hji;exact I.wpOp hi D ⟨Rl.refl _ _ _ _,H⟩
    · have h1:=H.2 j (ready_mono F hji)
      obtain ⟨p,y,u,C⟩:=mem_ready.1 F
      have z:∀ e∈y.after,g1 .any e=true→e.on≠i:=fun e Z hb K=>by
        have h1:=C e Z hb;have h0:=(mem_ready.1 hr).1;rw[K] at h1
        obtain ⟨hl,U⟩:=Fc h0
        simp[Array.getD,hl,U] at h1
      have Y:=wpOp_putIf u (d j y u hji p z) (fun cs b=>l i x cs b hi) (fun cs b=>l j y cs b u) X I h1
      have f:∀ k ok,ops[k]?=some ok→k≠i→(L.setIfInBounds j true).getD k true=false →
          (∀ e∈ok.after,g1 .any e=true→e.on≠i)→x.apart ops ok=true:=fun k ok hk V B W=>by
        refine d k ok hk V ?_ W
        by_cases hjk:j=k
        · subst hjk;exact p
        · rw[getD_set_ne true hjk] at B;exact B
      refine wpOp_mono (fun a' w' J=>⟨J.2.1,ih (L.setIfInBounds j true) a' w' f (ready_mono hr (Ne.symm hji)) J.1 (O _ _ D (J.2.1.2 (K7 _))) ?_⟩) Y;rw[Array.setIfInBounds_comm _ _ hji];exact J.2.2
def CT (n:Nat)(ops:Array Oper)(L:Array Bool)(Γ:bz)(i t:Nat):Bool :=
  decide (i<ops.size) && g9 ops && hN .any ops L i && (ga .any ops L).contains i && ((ao ops i).dst == some t) && decide (t<n) && bj Γ (ao ops i) && (bA ops Γ (ao ops i) == some true)
theorem DG (i t:Nat)(v:Value){S:World→Prop}(h:∀ w w',S w→Tl M w w'→S w')(u:S w)(hv:∀ w',S w'→(execOp (ev Γ) (ao ops i)).run P w'=.ok (.value v) w')(H:AG M P n N R X ops 0 (L.setIfInBounds i true) ((t,v)::Γ) w)(l:CT n ops L Γ i t=true):AG M P n N R X ops 0 L Γ w:=by
 unfold CT at l
 simp only[i1,decide_eq_true_eq,beq_iff_eq] at l
 obtain ⟨⟨⟨⟨⟨⟨⟨h1,o⟩,F⟩,z⟩,x⟩,p⟩,C⟩,J⟩:=l;have hr:i∈ga .any ops L:=by simpa using z
 have e:=bR (ops:=ops) h1;intro a k;have e1:=k.exec (hO o i _ · · e) C;have D:=H _ (k.put p v)
 unfold A at *
 rw[ee hr];refine pP (S:=S) e (hO o) (fun c a w B=>B.elim) h _ _ _ _ (fun j I y d f=>K4 e F j I y d f) hr (.inl ⟨k.want J,fun w' b=>by rw[e1];exact hv w' b⟩) u ?_;rw[x];exact D
theorem zV (i t:Nat)(v:Value)(H:AG M P n N R X ops 0 (L.setIfInBounds i true) ((t,v)::Γ) w)(a:CT n ops L Γ i t=true:=by kernel_rfl)(hv:∀ w,(execOp (ev Γ) (ao ops i)).run P w=.ok (.value v) w:=by intro _;kernel_rfl):AG M P n N R X ops 0 L Γ w :=
 DG i t v (S:=fun _=>True) (fun _ _ _ _=>trivial) trivial (fun w' _=>hv w') H a
theorem zO {K:Nat}(i t:Nat)(ps:List (Nat × Nat × Nat))(v:Value)(hz:M.z=some (K,[]))(J:K≤w.heap.size)(s:SS w0 h0 w h B Rs F)(d:∀ p∈ps,(aA B p.1).b<K)(H:AG M P n N R X ops 0 (L.setIfInBounds i true) ((t,v)::Γ) w)(o:CT n ops L Γ i t=true:=by kernel_rfl)(D:bY B ps=true:=by kernel_rfl)(y:bS P (execOp (ev Γ) (ao ops i)) (cA B ps)=some (.value v,bT B ps):=by kernel_rfl):AG M P n N R X ops 0 L Γ w :=
 DG i t v (S:=fun w'=>K≤w'.heap.size∧∀ b,b<K→w'.heap[b]?=w.heap[b]?) (fun w1 w2 c k=>by
  obtain ⟨h1,l⟩:=k K [] hz;exact ⟨ez c.1 h1,fun b j=>(l b j List.not_mem_nil).trans (c.2 b j)⟩) ⟨J,fun _ _=>rfl⟩ (fun w' c=>bL _ _ _ _ y (fun q a u ha I=>by
  obtain ⟨p,f,e⟩:=qo ps q a ha;have:=cu (fun x C=>s.st.own x C) ps D q a u ha I;rw[←this]
  unfold World.cell?
  rw[c.2 _ (e▸d p f)])) H o
theorem zC (i t:Nat){f:FuncId}{args:Array Value}(c:Calls P f args w fun e w'=>∃ v,e=.returned v∧Tl M w w'∧AG M P n N R X ops 0 (L.setIfInBounds i true) ((t,v)::Γ) w')(j:(gm ops 0 L i && bj Γ (ao ops i) && ((ao ops i).dst == some t) && decide (t<n))=true:=by kernel_rfl)(k:bA ops Γ (ao ops i)=some true:=by kernel_rfl)
  (hr:(execOp (ev Γ) (ao ops i)).run P w=.ok (.enter f args) w:=by kernel_rfl):AG M P n N R X ops 0 L Γ w:=by
 simp only[i1,decide_eq_true_eq,beq_iff_eq] at j
 obtain ⟨⟨⟨h1,l⟩,p⟩,o⟩:=j;obtain ⟨h,u⟩:=jf h1;intro a d;refine A.one h1 h (R':=fun v w'=>Tl M w w'∧AG M P n N R X ops 0 (L.setIfInBounds i true) ((t,v)::Γ) w') ⟨d.want k,.inr (.inr ⟨f,args,?_,c⟩)⟩ (fun v w' b=>b.1) (fun v w' b=>?_)
 ·rw[d.exec (hO u i _ · · h) l];exact hr
 ·rw[p];exact b.2 _ (d.put o v)
theorem DM {K:Nat}{w':World}(hz:M.z=some (K,[]))(d:K≤w.heap.size)(x:Ext w w'):Tl M w w':=fun c bs e=>by
 rw[hz] at e
 injection e with e;injection e with e1 e2
 subst e1 e2;exact ⟨x.size,fun b a _=>Below.block x b oM⟩
theorem GQ {K b:Nat}{w':World}(hz:M.z=some (K,[]))(f:K≤w.heap.size)(a:K≤b)(x:Mo [b] w w'):Tl M w w':=fun h bs e=>by
 rw[hz] at e
 injection e with e;injection e with e1 e2
 subst e1 e2;exact ⟨x.size,fun c d _=>x.blk c oM (by simp;omega)⟩
theorem qx {K:Nat}(i t:Nat){f:FuncId}{args:Array Value}{Φ:Value→Hp→Prop}(c:Calls P f args w (Ret w h Φ))(hz:M.z=some (K,[]))(b:K≤w.heap.size)(H:∀ v w' h',Up w h w' h'→K≤w'.heap.size→Φ v h'→AG M P n N R X ops 0 (L.setIfInBounds i true) ((t,v)::Γ) w')(j:(gm ops 0 L i && bj Γ (ao ops i) && ((ao ops i).dst == some t) && decide (t<n))=true:=by kernel_rfl)(d:bA ops Γ (ao ops i)=some true:=by kernel_rfl)
  (hr:(execOp (ev Γ) (ao ops i)).run P w=.ok (.enter f args) w:=by kernel_rfl):AG M P n N R X ops 0 L Γ w :=
 zC i t (c.mono fun e w' ⟨v,h',k,u,a⟩=>⟨v,k,DM hz b u.ext,H v w' h' u (ez b u.ext.size) a⟩) j d hr
theorem JC {K rb:Nat}(i t:Nat){f:FuncId}{args:Array Value}{Φ:Value→World→Hp→Prop}(c:Calls P f args w (ef rb w h Φ))(hz:M.z=some (K,[]))(d:K≤w.heap.size)(a:K≤rb)(H:∀ v w' h',UpM [rb] w h w' h'→K≤w'.heap.size→Φ v w' h'→AG M P n N R X ops 0 (L.setIfInBounds i true) ((t,v)::Γ) w')(k:(gm ops 0 L i && bj Γ (ao ops i) && ((ao ops i).dst == some t) && decide (t<n))=true:=by kernel_rfl)(j:bA ops Γ (ao ops i)=some true:=by kernel_rfl)
  (hr:(execOp (ev Γ) (ao ops i)).run P w=.ok (.enter f args) w:=by kernel_rfl):AG M P n N R X ops 0 L Γ w :=
 zC i t (c.mono fun e w' ⟨v,h',l,u,b⟩=>⟨v,l,GQ hz d a u.mo,H v w' h' u (ez d u.mo.size) b⟩) k j hr
theorem eF (s:SS w0 h0 w h B Rs F)(j:Nat)(a:decide (j<B.length)=true:=by kernel_rfl):(aA B j).b<w.heap.size:=by rw[s.g.size];exact a7 (s.jk j a)
theorem F2 (t b o len c sz:Nat)(i:Int)(j e:Nat)(H:LG P n N R X ops (k+1) ((t,.pointer (some ⟨b,0+e*sz,none⟩))::Γ) w)(f:cL ops Γ k t n=true:=by kernel_rfl)(h:Cn P (ev Γ) (ao ops k)=some (.slice (some ⟨b,o,none⟩) len c,.int .i64 i,sz):=by kernel_rfl)(l:i=j:=by omega)(d:j<len:=by omega)(a:o+j*sz=0+e*sz:=by omega):LG P n N R X ops k Γ w :=
 LG.val t _ w (bK f).1 (bK f).2 (a▸gl h rfl l d w) H
theorem Jb (i t b o len c sz:Nat)(x:Int)(j e:Nat)(H:AG M P n N R X ops k0 (L.setIfInBounds i true) ((t,.pointer (some ⟨b,0+e*sz,none⟩))::Γ) w)(f:cE n ops k0 [] L Γ i t=true:=by kernel_rfl)(h:Cn P (ev Γ) (ao ops i)=some (.slice (some ⟨b,o,none⟩) len c,.int .i64 x,sz):=by kernel_rfl)(k:x=j:=by omega)(d:j<len:=by omega)(a:o+j*sz=0+e*sz:=by omega):AG M P n N R X ops k0 L Γ w :=
 aV i t _ H f (fun w=>a▸gl h rfl k d w)
theorem Jo (i t b o len c sz:Nat)(x:Int)(j e:Nat)(H:AG M P n N R X ops k0 (L.setIfInBounds i true) ((t,.pointer (some ⟨b,0+e*sz,none⟩))::Γ) w)(f:cT n ops k0 L Γ i t=true:=by kernel_rfl)(h:Cn P (ev Γ) (ao ops i)=some (.slice (some ⟨b,o,none⟩) len c,.int .i64 x,sz):=by kernel_rfl)(k:x=j:=by omega)(d:j<len:=by omega)(a:o+j*sz=0+e*sz:=by omega):AG M P n N R X ops k0 L Γ w :=
 T.val i t _ w (oV f).1 (oV f).2 (a▸gl h rfl k d w) H
theorem Jv (t b o len a sz:Nat)(i:Int)(j l:Nat)(H:LG P n N R X ops (k+1) ((t,.slice (some ⟨b,l,none⟩) (len-j) (a-j))::Γ) w)(p:cL ops Γ k t n=true:=by kernel_rfl)(u:DX P (ev Γ) (ao ops k)=some (.slice (some ⟨b,o,none⟩) len a,some (.int .i64 i),none,sz):=by kernel_rfl)(x:i=j:=by omega)(d:j≤len:=by omega)(f:a≠j:=by omega)(c:l=o+j*sz:=by omega):LG P n N R X ops k Γ w:=by
 have h:=o0 j u x d w;rw[MM f] at h
 have e:(some (⟨b,o,none⟩:Addr)).map (·.add (j*sz))=some ⟨b,l,none⟩:=by subst c;simp[Addr.add]
 rw[e] at h
 exact LG.val t _ w (bK p).1 (bK p).2 h H
theorem SS.torow {α:Type}(s:SS w0 h0 w h B Rs F)(j:Nat)(f:α→List Value)(l:List α)(sz m:Nat)(z:l.length=m)(C:m≤1099511627776)(hB:(aA B j).vs=l.flatMap f:=by kernel_rfl)(hf:∀ x,(f x).length=sz:=by intro _;rfl)(y:decide (j<B.length)=true:=by kernel_rfl) :
    SS w0 h0 w h (B.eraseIdx j) (⟨(aA B j).t,sz,some ⟨(aA B j).b,0,none⟩,m,m,l.flatMap f⟩::Rs) F:=by
  have o:=oT y;have d:=bB o;have D:=s.st.own _ d
  have u:∀ x∈B.eraseIdx j,x.b≠(aA B j).b:=by
    intro x a c;obtain ⟨i,hi,p⟩:=xf.1 a;rw[List.getElem_eraseIdx] at p
    rw[List.length_eraseIdx_of_lt o] at hi
    split at p
    · rename_i H
      refine eN s.st (i:=i) (j:=j) (decide_eq_true oM) y (by simp;omega) ?_;rw[←c,←p];simp[aA,show i<B.length by omega]
    · rename_i H
      refine eN s.st (i:=i+1) (j:=j) (decide_eq_true oM) y (by simp;omega) ?_;rw[←c,←p];simp[aA,show i+1<B.length by omega]
  refine ⟨s.g0,⟨s.st.up,fun x a=>s.st.own x (Jz a),fun x a=>s.st.jk x (Jz a),fun x a=>s.st.lo x (Jz a),s.st.nd.sublist ((List.eraseIdx_sublist B j).map (·.b))⟩,?_,?_,s.mo,s.f⟩
  · intro r hr
    rcases g7.1 hr with rfl|hr
    · refine ⟨⟨by rw[cw hf,z],.inr ⟨(aA B j).b,m,(aA B j).vs.toArray,rfl,s.st.lo _ d,D,ey _,by unfold maxLen;omega,by rw[hB];simp[cw hf,z],by rw[hB];simp[Ks,cw hf,z]⟩⟩,?_,?_⟩
      · intro b c
        have:(aA B j).b=b:=by simpa [Rw.v,A8] using c
        rw[←this];exact s.st.jk _ d
      · intro b c k
        have:(aA B j).b=b:=by simpa [Rw.v,A8] using c
        obtain ⟨x,a,e⟩:=g5.1 k;exact u x a (e.trans this.symm)
    · exact (s.ro r hr).sub _ (fun b c=>by
        obtain ⟨x,a,e⟩:=g5.1 c;exact g5.2 ⟨x,Jz a,e⟩)
  · refine KW.2 ⟨fun r hr b c hv=>?_,s.ap⟩
    have:(aA B j).b=b:=by simpa [Rw.v,A8] using c
    exact (s.ro r hr).ap b hv (this▸g5.2 ⟨_,d,rfl⟩)
theorem F3 {α:Type}(t j m C:Nat)(l:List α)(f:α→List Value)(d x:α)(p:Nat)(z:Value)(s:SS w0 h0 w h B Rs F)(S:Seg h C 0 (f x))(I:l.length=m)(J:m≤1000000000)
  (H:∀ a c' w' h',SS w0 h0 w' h' (B.eraseIdx j) Rs ((fun h=>SlO 1 f d h a (l++[x]))::F)→m+1≤c'→LG P n N R X ops (k+1) ((t,.slice a (m+1) c')::Γ) w')(M:cL ops Γ k t n=true:=by kernel_rfl)(L:decide (j<B.length)=true:=by kernel_rfl)(hB:(aA B j).vs=l.flatMap f:=by kernel_rfl)
  (O:xE P (ev Γ) (ao ops k)=some (.slice (some ⟨(aA B j).b,0,none⟩) m m,.slice (some ⟨C,0,none⟩) 1 1,(aA B j).t,z,1,p):=by kernel_rfl)(c:z.cells.size=1:=by kernel_rfl)(hf:∀ x,(f x).length=1:=by intro _;rfl)(h1:(f x).all (·.oneCell')=true:=by kernel_rfl)(i:p≤100:=by decide):LG P n N R X ops k Γ w:=by
 have D:=s.torow j f l 1 m I oM hB hf L
 refine Ir t 0 (f x) D (me D.g S) (hf x) (fun u Q=>(i4.1 h1) u Q) (by simp) rfl M O c kD oM (by
  have:(m+1)*p≤(m+1)*100:=Ke _ i
  omega) (fun a c' w' h' y=>?_)
 have e1:m+1=(l++[x]).length:=by simp[I]
 have e2:l.flatMap f++f x=(l++[x]).flatMap f:=by simp
 rw[e2,KZ] at y
 have U:SS w0 h0 w' h' (B.eraseIdx j) (⟨(aA B j).t,1,a,c',(l++[x]).length,(l++[x]).flatMap f⟩::Rs) F:=by rw[←e1];exact y
 obtain ⟨o,K,e⟩:=U.pubr 0 d hf rfl (by simp);exact H a c' w' o K (by rw[e1];exact e)
theorem SS.perm (s:SS w0 h0 w h B Rs F){B':List Bx}(p:B.Perm B'):SS w0 h0 w h B' Rs F :=
 ⟨s.g0,⟨s.st.up,fun x a=>s.st.own x (p.mem_iff.2 a),fun x a=>s.st.jk x (p.mem_iff.2 a),fun x a=>s.st.lo x (p.mem_iff.2 a),(p.map (·.b)).nodup_iff.1 s.st.nd⟩,
  fun r hr=>(s.ro r hr).sub _ (fun b c=>(p.map (·.b)).mem_iff.2 c),s.ap,s.mo,s.f⟩
end
theorem jU (a:Nat)(A:Option Addr)(c:Nat)(hc:(lim a).length≤c)(hLa:(lim a).length≤4000000000)(k:Nat)(hk:k≤4000000000)(w:World)(h:Hp)(g:G w h)(hA:S3 A (lim a) h):CR 192 #[.slice A ((lim a).length) c,nV k] w h (fun v h1=>RN h1 v (a*2^k)):=by
 have d:=((sS g).aS hA);obtain ⟨L,hL⟩:∃ L:List Nat,L=Am (k/32) 0:=⟨_,rfl⟩;have C:L.length=k/32:=by rw[hL,List.length_replicate]
 refine go Tryz.func192 [(0,qS A ((lim a).length) c),(1,nV k)] rfl (aa d [.v 4 (sZ)] (ah (aa d [.m 11 1] ?_)));have ⟨K,S⟩:=dT (p:=(0:Int)≤(k:Int)) oM;refine lB 12 K (ak (aa d [.m 13 1] (lV 14 (nV L.length) ?_ (hr:=aK (aK (dl (t:=3) (u:=3) (x:=.tmp 13) (y:=.const (iV 32)) (k:=.i64) (a:=(k:Int)) (b:=(32:Int)) kR kR kR oM _) (dh k 32 oM)) oM))));refine lK 15 139 L.length 1 4 (uW 0) aZ 0 d (fun O w3 Y d=>?_);have hl5:(Am L.length 0).length=L.length:=by simp
 refine lL d [.m 5 15] (aI (lL d [.v 6 (uV 0)] (ah (av ?_))));rw[show Am L.length 0=L by rw[C];exact hL.symm] at d
 replace d:=d.torow 0 aZ L 1 L.length rfl oM;replace d:=d.to [] [⟨139,1,sB O,L.length,(L).length,(L).flatMap aZ⟩];refine lL d [.v 7 (iV 0)] (a8 ?_);refine bH _ (CG.loop (fun H Γ w_=>∃ (i:Nat) (z:Option Addr) (B:Nat) (l:List Nat) (e:Nat) (h_:Hp),H=(lim a).length+1-i∧Γ=[(0,qS A ((lim a).length) c),(1,nV k),(4,sZ),(7,nV i),(6,mV e),(5,qS z ((l).length) B)]∧SS w h w_ h_ [] [⟨139,1,z,B,(l).length,(l).flatMap aZ⟩] [S3 A (lim a)]∧i≤(lim a).length+1∧l.length=L.length+i∧Ld l∧e<2^(k%32)∧aj 4294967296 l+4294967296^l.length*e=4294967296^L.length*(2^(k%32)*aj 4294967296 ((lim a).take i))) _ ⟨0,sB O,L.length,L,0,Y,rfl,rfl,d.to _ _,K7 _,rfl,(by rw[hL];exact Ld.rep _),Ka _,(by rw[hL,dk];simp[aj])⟩ ?_);rintro _ _ w6 ⟨i,z,B,l,e,h7,X,rfl,d,hi,j,Q,M,inv⟩;have I:=(Ld.lim a).get i;refine cQ (aa d [.m 16 7,.m 17 0,.v 18 (nV ((lim a).length))] ?_);cases o:(decide ((i:Int)≤(((lim a).length:Nat):Int)))
 ·
  have D:=oF o;refine lB 19 o (af (CG.exit ?_))
  show CG _ _ _ _ _ _ _ _
  refine aa d [.m 38 5] ?_;have U:i=(lim a).length+1:=by omega
  rw[Ks (show (lim a).length≤i by omega),cG,j] at inv
  have hE:aj 4294967296 l=a*2^k:=rB (c:=e) (by rw[j,inv,wQ k,C];ac_rfl) (by rw[j,wQ k];exact ui (cj a) oM oM);obtain ⟨_,d,za⟩:=d.pubr 0 (A:=z) (c:=B) (l:=l) (f:=aZ) (ty:=139) (sz:=1) 0 (fun _=>rfl);exact ag 39 d (iG z B l ((l).length) rfl oM za _ _ d.g d.f.1) (fun _ _ d=>lL d [.m 4 39] (ac d [] (qS z (tl l ((l).length)) B) (RN.trim Q hE rfl za d.f.1)))
 have D:=oT o;refine lB 19 o (ak (cK (cQ (kZ (aa d [.m 22 6,.m 23 0,.m 24 7] (ag 25 d (F5 A c (lim a) ((lim a).length) rfl i oM (Ld.lim _) _ _ d.g d.f.1) (fun _ _ d=>lL d [.m 26 1] (lV 27 (nV (k%32)) ?_ (hr:=aK (dU (t:=3) (u:=3) (x:=.tmp 26) (y:=.const (iV 32)) (k:=.i64) (a:=(k:Int)) (b:=(32:Int)) kR kR kR oM _) (cp k 32))))))))));refine lV 28 (mV (k%32)) ?_ (hr:=rU (((k%32:Nat):Int)) kR (ba oM oM));refine lV 29 (mV (((lim a).getD i 0)*2^(k%32)%18446744073709551616)) ?_ (hr:=gf (t:=34) (u:=140) (x:=.tmp 25) (y:=.tmp 28) (ky:=.u64) (a:=((lim a).getD i 0)) (n:=(k%32)) kR kR kR _);obtain ⟨J,W,F⟩:=GG (x:=(lim a).getD i 0) (p:=k%32) (c:=e) oM I M;refine lV 30 (mV (e+(lim a).getD i 0*2^(k%32))) ?_ (hr:=aK (gB (t:=34) (u:=34) (x:=.tmp 22) (y:=.tmp 29) (a:=e) (b:=(((lim a).getD i 0)*2^(k%32)%18446744073709551616:Nat)) kR kR kR oM oM _) (by rw[J]));refine lL d [.m 6 30] (aI (lL d [.m 31 5,.m 32 6] (lV 33 (mW ((e+(lim a).getD i 0*2^(k%32))%4294967296)) ?_ (hr:=rT (((e+(lim a).getD i 0*2^(k%32):Nat):Int)) kR (f4 _)))));refine lR 34 139 1 ([mW ((e+(lim a).getD i 0*2^(k%32))%4294967296)]) d (fun zb _ _ d=>lY 35 0 139 1 B z l aZ ((e+(lim a).getD i 0*2^(k%32))%4294967296:Nat) 4 zb (uW 0) d d.f.1 (fun V Z _ ze d=>lL d [.m 5 35] (lN (kQ (lL d [.m 36 6] (lV 37 (mV ((e+(lim a).getD i 0*2^(k%32))/4294967296)) ?_ (hr:=aK (n:=K5 ((e+(lim a).getD i 0*2^(k%32):Nat):Int) 4294967296) kR (dN _ 4294967296))))))));refine lL d [.m 6 37] (lN (kQ (lL d [.m 20 7] (bD 21 ((i:Nat)+1) (i+1) ?_))));refine lL d [.m 7 21] (lD ?_);intro a_ ka;replace d:=d.tl;refine ⟨_,_,?_,⟨i+1,V,Z,l++[((e+(lim a).getD i 0*2^(k%32))%4294967296:Nat)],((e+(lim a).getD i 0*2^(k%32))/4294967296:Nat),ze,rfl,rfl,d.to _ _,oM,(by rw[zY,j];rfl),(Q.app (A4 _ kD)),F,(ux kD inv j rfl rfl)⟩,ka.to _ kR⟩
 omega
theorem oW (a:Nat)(A:Option Addr)(c:Nat)(I:(lim a).length≤c)(F:(lim a).length≤4000000000)(w:World)(h:Hp)(g:G w h)(z:S3 A (lim a) h):CV 140 #[.slice A ((lim a).length) c] w h (nV (nb a)):=by
 have b:=((sS g).aS z);have p:=@bV a;have k:=(Ld.lim a).get ((lim a).length-1);refine go Tryz.func140 [(0,qS A ((lim a).length) c)] rfl (aa b [.v 2 (iV 0)] (ah (aa b [.m 5 0,.v 6 (nV ((lim a).length))] ?_)));cases e:((((lim a).length:Nat):Int) == (0:Int))
 ·
  have i:=ae e;refine lB 7 e (af (cK (aa b [.m 8 0,.v 9 (nV ((lim a).length))] (bD 10 (((lim a).length:Nat)-1) (((lim a).length)-1) ?_))));refine bD 11 (32*(((lim a).length)-1:Nat)) (32*(((lim a).length)-1:Nat)) (lL b [.m 3 11] (ah (aa b [.m 12 0,.m 13 0,.v 14 (nV ((lim a).length))] (lI 15 (((lim a).length:Nat)-1) ?_))));refine lX 16 A ((lim a).length) c 1 (((lim a).length:Nat)-1) (((lim a).length)-1) ((b.f.1).ok oM) (lH 17 (mW ((lim a).getD (((lim a).length)-1) 0)) b ((b.f.1).el (((lim a).length)-1) oM) (lL b [.m 4 17] (a8 ?_)));refine bH _ (CG.loop (fun l Γ D=>∃ (n:Nat) (x:Nat) (h_:Hp),l=x∧Γ=[(2,iV 0),(3,nV n),(4,mW x)]∧SS w h D h_ [] [] [S3 A (lim a)]∧n+nb x=nb a∧x<4294967296∧nb a≤128000000000) _ ⟨32*((lim a).length-1),(lim a).getD ((lim a).length-1) 0,h,rfl,rfl,b.to _ _,(xt oM).symm,k,(by have:=p5 a;omega)⟩ ?_);rintro _ _ w2 ⟨n,x,B,u,rfl,b,o,J,C⟩;refine cQ (aa b [.m 18 4] ?_);cases d:(decide ((0:Int)<(x:Int)))
  ·
   have j:=oF d;refine lB 19 d (af (CG.exit ?_))
   show CG _ _ _ _ _ _ _ _
   exact aa b [.m 24 3,.m 2 24] (ac b [] (nV n) (by obtain rfl:x=0:=oM;rw[Aj] at o;rw[←o];rfl))
  have j:=oT d;refine lB 19 d (ak (cK (cQ (kZ (kQ (lL b [.m 22 3] (bD 23 ((n:Nat)+1) (n+1) ?_)))))));refine lL b [.m 3 23] (lN (kQ (lL b [.m 20 4] (lV 21 (mW (x/2)) ?_ (hr:=aK (n:=K5 (x:Nat) 2) kR (dN x 2))))));refine lL b [.m 4 21] (lD ?_);intro H y;refine ⟨_,_,?_,⟨n+1,x/2,B,rfl,rfl,b.to _ _,(by have:=Bc (n:=x) oM;omega),oM,C⟩,y.to _ kR⟩
  omega
 have i:=ML e;exact lB 7 e (ak (aa b [.v 2 (iV 0)] (ac b [] (iV 0) (by obtain rfl:a=0:=oM;rfl))))
theorem qn (a:Nat)(A:Option Addr)(c:Nat)(hc:(lim a).length≤c)(hLa:(lim a).length≤4000000000)(k:Nat)(V:0<k)(hk:k≤4000000000)(w:World)(h:Hp)(g:G w h)(hA:S3 A (lim a) h):CR 192 #[.slice A ((lim a).length) c,iV (-(k:Int))] w h (fun v h1=>RN h1 v (a/2^k)):=by
 have d:=((sS g).aS hA);refine go Tryz.func192 [(0,qS A ((lim a).length) c),(1,iV (-(k:Int)))] rfl (aa d [.v 4 (sZ)] (ah (aa d [.m 11 1] ?_)));have ⟨L,Q⟩:=dF (p:=(0:Int)≤((-(k:Int)):Int)) oM;refine lB 12 L (af (cK (aa d [.m 40 1] (lV 41 (nV k) ?_ (hr:=rS ((0-(-(k:Int)))) kR (by rw[JK];omega))))));refine lL d [.m 1 41] (aI (lL d [.v 8 (sZ)] (ah (aa d [.m 42 1] (lV 43 (nV (k/32)) ?_ (hr:=aK (dl (t:=3) (u:=3) (x:=.tmp 42) (y:=.const (iV 32)) (k:=.i64) (a:=(k:Int)) (b:=(32:Int)) kR kR kR oM _) (dh k 32 oM)))))));refine lL d [.m 9 43] (a8 ?_);replace d:=d.nil 139 1;refine bH [(0,qS A ((lim a).length) c),(1,nV k),(4,sZ),(9,nV (k/32)),(8,sZ)] ?_;refine CG.loop (fun F Γ w_=>∃ (j:Nat) (i:Option Addr) (o:Nat) (l:List Nat) (h_:Hp),F=(lim a).length-(k/32+j)∧Γ=[(0,qS A ((lim a).length) c),(1,nV k),(4,sZ),(9,nV (k/32+j)),(8,qS i ((l).length) o)]∧SS w h w_ h_ [] [⟨139,1,i,o,(l).length,(l).flatMap aZ⟩] [S3 A (lim a)]∧l.length=j∧Ld l∧2^(k%32)*aj 4294967296 l+((lim a).drop (k/32)).getD 0 0%2^(k%32)=aj 4294967296 (((lim a).drop (k/32)).take j)+4294967296^j*(((lim a).drop (k/32)).getD j 0%2^(k%32))∧l.length≤(lim a).length) _ ⟨0,none,0,[],h,rfl,rfl,d.to _ _,rfl,Dg.nil,(by simp[aj]),(by simp)⟩ ?_;rintro _ _ w2 ⟨j,i,o,l,h3,X,rfl,d,z,O,inv,W⟩;have I:=(Ld.lim a).get (k/32+j);have J:=(Ld.lim a).get (k/32+j+1);refine cQ (aa d [.m 44 9,.m 45 0,.v 46 (nV ((lim a).length))] ?_);cases e:(decide (((k/32+j:Nat):Int)<(((lim a).length:Nat):Int)))
 ·
  have C:=oF e;refine lB 47 e (af (CG.exit ?_))
  show CG _ _ _ _ _ _ _ _
  refine aa d [.m 68 8] ?_;have hE:aj 4294967296 l=a/2^k:=FX oM (by rw[z];exact inv);obtain ⟨h6,d,B⟩:=d.pubr 0 (A:=i) (c:=o) (l:=l) (f:=aZ) (ty:=139) (sz:=1) 0 (fun _=>rfl);exact ag 69 d (iG i o l ((l).length) rfl oM B _ _ d.g d.f.1) (fun w9 _ d=>lL d [.m 4 69] (ac d [] (qS i (tl l ((l).length)) o) (RN.trim O hE rfl B d.f.1)))
 have C:=oT e;refine lB 47 e (ak (cK (cQ (kZ (aa d [.m 50 0,.m 51 9] (ag 52 d (F5 A c (lim a) ((lim a).length) rfl (k/32+j) oM (Ld.lim _) _ _ d.g d.f.1) (fun _ _ d=>lL d [.m 53 0,.m 54 9] (bD 55 ((k/32+j:Nat)+1) ((k/32+j)+1) ?_))))))));refine ag 56 d (F5 A c (lim a) ((lim a).length) rfl ((k/32+j)+1) oM (Ld.lim _) _ _ d.g d.f.1) (fun _ _ d=>?_);obtain ⟨K,U,D⟩:=F7 (p:=k%32) oM I J;have M:=bG (l:=lim a) (k:=j) (n:=k/32);have H:=bG (l:=lim a) (k:=j+1) (n:=k/32);refine lV 57 (mV (((lim a).getD ((k/32+j)+1) 0:Nat)*4294967296%18446744073709551616)) ?_ (hr:=rU (((((lim a).getD ((k/32+j)+1) 0:Nat):Int)*4294967296)) kR (ja ((lim a).getD ((k/32+j)+1) 0:Nat) 4294967296));refine lV 58 (mV ((lim a).getD (k/32+j) 0+(lim a).getD (k/32+j+1) 0*4294967296)) ?_ (hr:=aK (gB (t:=34) (u:=34) (x:=.tmp 52) (y:=.tmp 57) (a:=((lim a).getD (k/32+j) 0)) (b:=(((lim a).getD ((k/32+j)+1) 0:Nat)*4294967296%18446744073709551616:Nat)) kR kR kR oM oM _) (by rw[K]));refine lL d [.m 10 58] (lN (kQ (lL d [.m 59 8,.m 60 10,.m 61 1] (lV 62 (nV (k%32)) ?_ (hr:=aK (dU (t:=3) (u:=3) (x:=.tmp 61) (y:=.const (iV 32)) (k:=.i64) (a:=(k:Int)) (b:=(32:Int)) kR kR kR oM _) (cp k 32))))));refine lV 63 (mV (k%32)) ?_ (hr:=rU (((k%32:Nat):Int)) kR (ba oM oM));refine lV 64 (mV (((lim a).getD (k/32+j) 0+(lim a).getD (k/32+j+1) 0*4294967296)/2^(k%32))) ?_ (hr:=fV (t:=34) (u:=140) (x:=.tmp 60) (y:=.tmp 63) (ky:=.u64) (a:=((lim a).getD (k/32+j) 0+(lim a).getD (k/32+j+1) 0*4294967296)) (n:=(k%32)) kR kR kR oM _);refine lV 65 (mW ((((lim a).getD (k/32+j) 0+(lim a).getD (k/32+j+1) 0*4294967296)/2^(k%32):Nat)%4294967296)) ?_ (hr:=rT (((((lim a).getD (k/32+j) 0+(lim a).getD (k/32+j+1) 0*4294967296)/2^(k%32):Nat):Int)) kR (f4 _));refine lR 66 139 1 ([mW ((((lim a).getD (k/32+j) 0+(lim a).getD (k/32+j+1) 0*4294967296)/2^(k%32):Nat)%4294967296)]) d (fun za _ _ d=>lY 67 0 139 1 o i l aZ ((((lim a).getD (k/32+j) 0+(lim a).getD (k/32+j+1) 0*4294967296)/2^(k%32):Nat)%4294967296:Nat) 4 za (uW 0) d d.f.1 (fun zb S _ Y d=>lL d [.m 8 67] (lN (kQ (lL d [.m 48 9] (bD 49 ((k/32+j:Nat)+1) ((k/32+j)+1) ?_))))));refine lL d [.m 9 49] (lD ?_);intro a_ Z;replace d:=d.tl;refine ⟨_,_,?_,⟨j+1,zb,S,l++[((((lim a).getD (k/32+j) 0+(lim a).getD (k/32+j+1) 0*4294967296)/2^(k%32):Nat)%4294967296:Nat)],Y,rfl,rfl,d.to _ _,(by rw[zY,z];rfl),(O.app (A4 _ kD)),(FJ z inv (by rw[M,H];exact D)),(by rw[zY];show _+1≤_;omega)⟩,Z.to _ kR⟩
 omega
def bu (l:List Nat):Nat:=aj 4294967296 l
theorem wG {a b:Nat}(ha:a<4294967296)(d:b<4294967296):a*b≤18446744065119617025:=by
 have h1:a≤4294967295:=by omega
 have c:b≤4294967295:=by omega
 exact KM h1 c
def l3 (u2 u1 u0:Nat):Nat:=4294967296*(4294967296*u2+u1)+u0
def l2 (v1 v0:Nat):Nat:=4294967296*v1+v0
structure Hss (u2 u1 u0 v1 v0 g r o:Nat):Prop where
  e:g*v1+(r+4294967296*o)=4294967296*u2+u1
  lt:g+1=4294967296∨l3 u2 u1 u0<(g+1)*l2 v1 v0
  gb:g<4294967296
def B9 (u2 u1 u0 v1 v0 g:Nat):Prop:=g*l2 v1 v0≤l3 u2 u1 u0∧(g+1=4294967296∨l3 u2 u1 u0<(g+1)*l2 v1 v0)∧g<4294967296
theorem IP {g b a:Nat}:g*l2 b a=4294967296*(g*b)+g*a:=by unfold l2;rw[J1,Nat.mul_left_comm]
theorem Hss.fin {c u1 a d b g r o:Nat}(h:Hss c u1 a d b g r o)(f:g*b≤4294967296*(r+4294967296*o)+a):B9 c u1 a d b g:=by
 refine ⟨?_,h.lt,h.gb⟩;rw[IP]
 unfold l3
 rw[←h.e,J1]
 omega
theorem Ee {u:List Nat}{k:Nat}(a:2≤k):l3 (u.getD k 0) (u.getD (k-1) 0) (u.getD (k-2) 0)=u.getD k 0*4294967296*4294967296+u.getD (k-1) 0*4294967296+u.getD (k-2) 0:=by
 unfold l3
 rw[JZ (u.getD k 0) 4294967296,JZ (4294967296*u.getD k 0) 4294967296,JZ (u.getD (k-1) 0),J1]
theorem FH {b a:Nat}:l2 b a=b*4294967296+a:=by unfold l2;rw[JZ]
section
variable {n j G:Nat} {u v:List Nat}
theorem Ev (f:2≤n)(e:v.length=n)(a:Ld v)(d:Ld u)(i:j+n<u.length)(hR:bu u<4294967296^(j+1)*bu v):u.getD (j+n) 0≤v.getD (n-1) 0:=by
 rcases ep (v.getD (n-1) 0) (u.getD (j+n) 0) with h|h
 ·exfalso
  have e1:=aU 4294967296 (l:=v) (k:=n-1) oM;rw[show n-1+1=v.length by omega,zy] at e1
  have h1:=bP (Dg.take a (n-1));rw[J4,J5 oM] at h1
  have e2:=aU 4294967296 (l:=u) (k:=j+n) oM;have b:=bQ 4294967296 (l:=u) (k:=j+n+1) oM;have p:4294967296^(j+n)*(v.getD (n-1) 0+1)≤4294967296^(j+n)*u.getD (j+n) 0:=Ke _ h
  have c:4294967296^(j+1)*bu v<4294967296^(j+1)*(4294967296^(n-1)*(v.getD (n-1) 0+1)):=by
   refine Ko ?_ (Kj kD)
   show aj _ v<_
   rw[e1,J1,Nat.mul_one];omega
  rw[←J2,←Kd,show j+1+(n-1)=j+n by omega] at c
  have x:bu u=aj 4294967296 (u.take (j+n))+4294967296^(j+n)*u.getD (j+n) 0+4294967296^(j+n+1)*aj 4294967296 (u.drop (j+n+1)):=by
   show aj _ u=_
   rw[b,e2]
  have o:=K7 (4294967296^(j+n+1)*aj 4294967296 (u.drop (j+n+1)))
  omega
 ·exact h
theorem vg (e:2≤n)(k:v.length=n)(b:Ld v)(c:Ld u)(f:j+n<u.length)(a:v.getD (n-1) 0≠0)(hR:bu u<4294967296^(j+1)*bu v)(h:B9 (u.getD (j+n) 0) (u.getD (j+n-1) 0) (u.getD (j+n-2) 0) (v.getD (n-1) 0) (v.getD (n-2) 0) G) :
  bu u/(4294967296^j*bu v)≤G∧G≤bu u/(4294967296^j*bu v)+1:=by
 obtain ⟨h1,d,i⟩:=h;rw[Ee oM,FH] at h1 d
 exact mJ kD e k b c f a hR h1 d i
theorem wc (e:2≤n)(d:v.length=n)(a:Ld v)(c:v.getD (n-1) 0≠0):4294967296^(n-1)≤bu v∧bu v<4294967296^n:=by
 have b:=bP a;rw[d] at b
 refine ⟨?_,b⟩;have e1:=aU 4294967296 (l:=v) (k:=n-1) oM;rw[show n-1+1=v.length by omega,zy] at e1
 have f:4294967296^(n-1)*1≤4294967296^(n-1)*v.getD (n-1) 0:=Ke _ oM
 show _≤aj _ v
 omega
theorem wj (d:2≤n)(c:v.length=n)(a:Ld v)(hR:bu u<4294967296^(j+1)*bu v):bu u<4294967296^(j+n+1):=by
 have b:=bP a;rw[c] at b
 have h1:4294967296^(j+1)*bu v<4294967296^(j+1)*4294967296^n:=Ko b (Kj kD);rw[←Kd,show j+1+n=j+n+1 by omega] at h1
 omega
theorem Cv {u1:List Nat}(h:2≤n)(k:v.length=n)(c:Ld v)(i:Ld u)(f:Ld u1)(y:j+n<u.length)(a:v.getD (n-1) 0≠0)(hR:bu u<4294967296^(j+1)*bu v)
  (p:bu u/(4294967296^j*bu v)≤G∧G≤bu u/(4294967296^j*bu v)+1)(d:Above u1 u (j+n+1))(e:bu u1+4294967296^j*(G*bu v)=bu u+4294967296^(j+n+1)*0) :
  bu u1<4294967296^j*bu v∧bu u1+4294967296^j*(G*bu v)=bu u:=by
 obtain ⟨o,x⟩:=wc h k c a;have l:=eE (b:=4294967296) kD d f i (by rw[d.1];omega) (wj h k c hR);have:=(fl (b:=4294967296) kD h o x hR l e (K7 1) p).1 rfl;rw[J6,y8] at e
 exact ⟨this.2.2.1,e⟩
theorem GT {b a W K T c:Nat}(e2:a+T*c=b+W)(e:b+W=K+T)(f:a<T)(i:K<W)(k:W≤T):a=K:=by
 have d:c=1:=by
  rcases Nat.lt_trichotomy c 1 with h|h|h
  ·have:c=0:=by omega
   subst this;omega
  ·exact h
  ·have j:T*2≤T*c:=Ke _ h
   omega
 subst d
 omega
theorem EW {u1 d:List Nat}{c:Nat}(p:2≤n)(F:v.length=n)(h:Ld v)(i:Ld u)(x:Ld u1)(y:Ld d)(Q:j+n<u.length)(o:v.getD (n-1) 0≠0)(hR:bu u<4294967296^(j+1)*bu v)
  (M:bu u/(4294967296^j*bu v)≤G∧G≤bu u/(4294967296^j*bu v)+1)(f:Above u1 u (j+n+1))(a:Above d u (j+n+1))(e:bu u1+4294967296^j*(G*bu v)=bu u+4294967296^(j+n+1)*1)
  (e2:bu d+4294967296^(j+n+1)*c=bu u1+4294967296^j*bu v) :
  bu d<4294967296^j*bu v∧bu d+4294967296^j*((G-1)*bu v)=bu u∧0<G:=by
 obtain ⟨K,B⟩:=wc p F h o;have k:=wj p F h hR;have L:=eE (b:=4294967296) kD f x i (by rw[f.1];omega) k;have z:=eE (b:=4294967296) kD a y i (by rw[a.1];omega) k;obtain ⟨I,H,C,O⟩:=(fl (b:=4294967296) kD p K B hR L e oM M).2 rfl
 have l:4294967296^j*bu v≤4294967296^(j+n+1):=by
  have h1:4294967296^j*bu v≤4294967296^j*4294967296^n:=Ke _ (Nat.le_of_lt B);rw[←Kd] at h1
  have J:(4294967296:Nat)^(j+n)≤4294967296^(j+n+1):=Kb kD oM;exact ez h1 J
 have D:bu d=bu u-4294967296^j*((G-1)*bu v):=GT e2 H z C l;exact ⟨by rw[D];exact C,by rw[D];exact Nat.sub_add_cancel O,by rw[I];exact K9 _⟩
theorem EY {u1:List Nat}(h:2≤n)(k:v.length=n)(c:Ld v)(i:Ld u)(f:Ld u1)(z:j+n<u.length)(a:v.getD (n-1) 0≠0)(hR:bu u<4294967296^(j+1)*bu v)
  (x:bu u/(4294967296^j*bu v)≤G∧G≤bu u/(4294967296^j*bu v)+1)(d:Above u1 u (j+n+1))(e:bu u1+4294967296^j*(G*bu v)=bu u+4294967296^(j+n+1)*1):0<G:=by
 obtain ⟨p,y⟩:=wc h k c a;have o:=eE (b:=4294967296) kD d f i (by rw[d.1];omega) (wj h k c hR);obtain ⟨l,_⟩:=(fl (b:=4294967296) kD h p y hR o e (ey 1) x).2 rfl;rw[l];exact K9 _
end
theorem Fz {q:List Nat}{j Q X V R R':Nat}(b:j<q.length)(h0:q.getD j 0=0)(inv:X=bu q*V+R)(e:R'+4294967296^j*(Q*V)=R):X=bu (q.set j Q)*V+R':=by
 have a:=cn 4294967296 (l:=q) (k:=j) Q b;rw[h0,J6,y8] at a
 have c:bu (q.set j Q)=bu q+4294967296^j*Q:=a;rw[c,Kr,inv,←e,J2];omega
theorem Ep {X V R q a b s:Nat}(e:V=b*2^s)(i:X=a*2^s)(inv:X=q*V+R)(hR:R<V):q=a/b∧R/2^s=a%b:=by
 have k:=Ka s;have j:0<V:=by omega
 have f:0<b:=by
  rcases HA b with h|h
  ·rw[h,zZ] at e;omega
  ·exact h
 have e1:a*2^s=V*q+R:=by rw[←i,inv,JZ]
 obtain ⟨h1,d⟩:=jQ (A:=a) (y:=b) (Q:=q) e e1 hR;have c:a=R/2^s+b*q:=by omega
 constructor
 ·rw[c,Ki _ _ f,JW d,z6]
 ·rw[c,KS,AS d]
structure Gk (u2 u1 u0 v1 v0 g r:Nat):Prop where
  e:g*v1+r=4294967296*u2+u1
  lt:4294967296≤g+1∨l3 u2 u1 u0<(g+1)*l2 v1 v0
theorem Gk.start {b u1 c a d:Nat}(hv:0<a)(h0:c<4294967296):Gk b u1 c a d ((b*4294967296+u1)/a) ((b*4294967296+u1)%a):=by
 have e:=Ku (b*4294967296+u1) a;have hr:=A4 (b*4294967296+u1) hv
 generalize (b*4294967296+u1)/a=q at *
 generalize (b*4294967296+u1)%a=r at *
 rw[JZ b] at e
 refine ⟨by rw[JZ q];exact e,.inr ?_⟩;rw[IP,Kr q 1 a,Kt,JZ q a]
 unfold l3
 rw[←e]
 have h1:4294967296*(a*q+r)+4294967296≤4294967296*(a*q+a):=by
  rw[←KB];exact Ke _ oM
 have f:0≤(q+1)*d:=K7 _
 omega
theorem Gk.step {b u1 c a d g r:Nat}(h:Gk b u1 c a d g r)(f:0<g):(g-1)*a+(r+a)=4294967296*b+u1:=by
 obtain ⟨p,rfl⟩:∃ p,g=p+1:=⟨g-1,by omega⟩;have e1:=h.e;rw[Kr,Kt] at e1
 rw[KH]
 omega
theorem Gk.decB {b u1 c a d g r:Nat}(h:Gk b u1 c a d g r)(e:4294967296≤g):Gk b u1 c a d (g-1) (r+a):=⟨h.step oM,.inl oM⟩
theorem Gk.decT {d u1 b a c g r:Nat}(h:Gk d u1 b a c g r)(i:4294967296*r+b<g*c):0<g∧Gk d u1 b a c (g-1) (r+a):=by
 have f:0<g:=cI i;refine ⟨f,h.step f,.inr ?_⟩;rw[show g-1+1=g by omega,IP]
 unfold l3
 rw[←h.e,J1]
 omega
theorem Gk.big {b u1 d a f g r:Nat}(h:Gk b u1 d a f g r)(i:4294967296≤g)(c:b≤a)(h1:u1<4294967296):r<4294967296:=by
 have e:=h.e;have e1:4294967296*a≤g*a:=z7 _ i;have e2:4294967296*b≤4294967296*a:=Ke _ c
 omega
theorem Gk.fin {c u1 b d a g r:Nat}(h:Gk c u1 b d a g r)(f:g<4294967296)(h0:a<4294967296)(i:4294967296≤r∨g*a≤4294967296*r+b):B9 c u1 b d a g:=by
 have j:Hss c u1 b d a g r 0:=⟨by rw[J6,y8];exact h.e,by rcases h.lt with h1|h1;exact .inl oM;exact .inr h1,f⟩;refine j.fin ?_;rw[J6,y8]
 rcases i with h1|h1
 ·have k:=wG f h0
  have l:4294967296*4294967296≤4294967296*r:=Ke _ h1
  omega
 ·exact h1
theorem l9 (n:Nat):(lim n).length=(nb n+31)/32:=by
 rcases HA n with h|h
 ·subst h;rfl
 ·have h1:=xt h
  have b:=ll n h;have a:=(Ld.lim n).get ((lim n).length-1);have e:=bV.2 h
  generalize (lim n).getD ((lim n).length-1) 0=t at *
  have d:=(ci (KC b)).2.2;have c:nb t≤32:=kh (k:=32) a
  omega
theorem wU {b:Nat}(a:0<b)(s:Nat):nb (b*2^s)=nb b+s:=by
 obtain ⟨d,c,e⟩:=ci a;rw[show nb b+s=(nb b-1+s)+1 by omega]
 apply jK
 ·rw[Kd];exact z7 _ d
 ·rw[show nb b-1+s+1=nb b+s by omega,Kd];exact KK c (Ka s)
section joi
variable {P:Program} {n:Nat} {N R:Po} {X:Nat→Po} {Γ:bz} {w:World}
theorem CG.join {x y:Code}(I:bz→World→Prop)(h1:CG P n (fun a w'=>∃ b,I b w'∧Kn n a b) R X x Γ w)(h:∀ Γ w,I Γ w→CG P n N R X y Γ w):CG P n N R X (.seq x y) Γ w:=by
 intro a f;refine wp_seq (wp_mono (h1 a f) ?_);intro e a w d;cases e with
 | normal=>obtain ⟨b,i,c⟩:=d;exact h b w i a c
 | _=>exact d
end joi
section fin
variable {M:Ms} {P:Program} {n:Nat} {N R:Po} {X:Nat→Po} {ops:Array Oper} {k0:Nat} {hr:Hp} {L:Array Bool} {Γ:bz} {w:World} {h:Hp} {w0:World} {h0:Hp} {B:List Bx} {Rs:List Rw} {F:List (Hp→Prop)}
theorem iU (s:SS w0 h0 w h B Rs F)(H:∀ w' h',Up w h w' h'→SS w0 h0 w' h' B Rs F→AG M P n N R X ops k0 L Γ w')(a:fv ops [] L=true:=by kernel_rfl):EG M P n N R X ops k0 hr [] L Γ w h:=Rg.fin0 a (fun w' h' u=>H w' h' u (s.step u))
end fin
section tail
variable {M:Ms} {P:Program} {n:Nat} {N R:Po} {X:Nat→Po} {ops:Array Oper} {k0:Nat} {L:Array Bool} {Γ:bz} {w:World} {h:Hp} {w0:World} {h0:Hp} {B:List Bx} {Rs:List Rw} {F:List (Hp→Prop)}
theorem JD {α:Type}(i j e k:Nat)(a:List Value)(l:List α)(f:α→List Value)(sz:Nat)(d x:α){ty:TypeId}{c b:Nat}(s:SS w0 h0 w h B Rs F)(y:e<l.length)(H:∀ w',SS w0 h0 w' h B (Rs.set j ⟨ty,sz,some ⟨b,0,none⟩,c,l.length,(l.set e x).flatMap f⟩) F→AG M P n N R X ops k0 (L.setIfInBounds i true) Γ w')
  (Q:cb (f (l.getD e d)) k a=f x:=by rfl)(hf:∀ x,(f x).length=sz:=by intro _;rfl)(I:KX (k+a.length) sz=true:=by kernel_rfl)(o:Rs.getD j default=⟨ty,sz,some ⟨b,0,none⟩,c,l.length,l.flatMap f⟩:=by kernel_rfl)(D:decide (j<Rs.length)=true:=by kernel_rfl)
  (J:(gm ops k0 L i && bj Γ (ao ops i) && ((ao ops i).dst == none))=true:=by kernel_rfl)(C:bA ops Γ (ao ops i)=some true:=by kernel_rfl)
  (O:dj P (execOp (ev Γ) (ao ops i))=some (.skip,mm b (0+e*sz+k) a):=by kernel_rfl)(hz:∀ K bs,M.z=some (K,bs)→K≤b∨b∈bs:=by intro _ _ e;cases e):AG M P n N R X ops k0 L Γ w:=by
 have p:=JM I;refine Jx i j (0+e*sz+k) a s ?_ (fun w' u=>H w' ?_) o D J C O hz
 ·rw[cw hf,z6]
  have:(e+1)*sz≤l.length*sz:=z7 _ y;rw[Kr,Kt] at this
  omega
 ·rw[z6,iW hf d l e x y p Q] at u
  exact u
end tail
section self
variable {P:Program} {n:Nat} {N R:Po} {X:Nat→Po} {ops:Array Oper} {k:Nat} {Γ:bz} {w:World} {h:Hp} {w0:World} {h0:Hp} {B:List Bx} {Rs:List Rw} {F:List (Hp→Prop)}
end self
theorem B5 (x:Nat)(A:Option Addr)(c m:Nat)(f:(lim x).length=m)(a:m≤c)(d:m≤4000000000)(s:Nat)(e:s≤4000000000)(w:World)(h:Hp)(g:G w h)(b:S3 A (lim x) h):CR 192 #[.slice A m c,iV (-(s:Int))] w h (fun v h1=>RN h1 v (x/2^s)):=by
 subst f
 rcases HA s with h0|h0
 ·subst h0
  have:=jU x A c a d 0 oM w h g b;rw[K8,Nat.mul_one] at this
  rw[K8,Nat.div_one];exact this
 ·exact qn x A c a d s h0 e w h g b
theorem xl {a b s k:Nat}(e:(lim (b*2^s)).length=k)(i:2≤k)(c:k≤(lim (a*2^s)).length+1)(d:0<b*2^s):bu (lim (a*2^s)++[0,0])<4294967296^((lim (a*2^s)).length+2-(lim (b*2^s)).length)*bu (lim (b*2^s)):=by
 have e1:bu (lim (a*2^s)++[0,0])=a*2^s:=by
  unfold bu;rw[bX,cG];simp[aj]
 have e2:bu (lim (b*2^s))=b*2^s:=cG _;rw[e1,e2];have h1:=cj (a*2^s);have h:4294967296^((lim (b*2^s)).length-1)≤b*2^s:=by rw[r5];exact qJ kD d
 have f:4294967296^((lim (a*2^s)).length+2-(lim (b*2^s)).length)*4294967296^((lim (b*2^s)).length-1)≤4294967296^((lim (a*2^s)).length+2-(lim (b*2^s)).length)*(b*2^s):=Ke _ h;rw[←Kd] at f
 have j:4294967296^(lim (a*2^s)).length≤4294967296^((lim (a*2^s)).length+2-(lim (b*2^s)).length+((lim (b*2^s)).length-1)):=Kb kD oM
 omega
theorem EV {a s V n:Nat}:a*2^s=bu (Am n 0)*V+bu (lim (a*2^s)++[0,0]):=by
 unfold bu;rw[dk,zZ,z6,bX,cG];simp[aj]
theorem na (a:Nat)(A:Option Addr)(c:Nat)(u:(lim a).length≤c)(b:Nat)(D:Option Addr)(d:Nat)(B:(lim b).length≤d)(F:(lim a).length≤3000000000)(C:(lim b).length≤3000000000)(i:a<b)(w:World)(h:Hp)(g:G w h)(z:S3 A (lim a) h)(x:S3 D (lim b) h):CR 170 #[.slice A ((lim a).length) c,.slice D ((lim b).length) d] w h (fun v h1=>∃ o l,v=.tuple #[o,l]∧RN h1 o (a/b)∧RN h1 l (a%b)):=by
 have e:=(((sS g).aS z).aS x);have y:=dB i;refine go Tryz.func170 [(0,qS A ((lim a).length) c),(1,qS D ((lim b).length) d)] rfl (aa e [.v 4 (sZ),.v 5 (sZ)] (ah (aa e [.m 25 0,.m 26 1] (ag 27 e (ji a A c u b D d B oM oM _ _ e.g e.f.2.1 e.f.1) (fun w1 H e=>?_)))));have ⟨j,k⟩:=dT (p:=(cD a b:Int)<(0:Int)) oM;exact lB 28 j (ak (aa e [.m 29 0,.v 4 (sZ),.m 5 29] (ac e [] (.tuple #[sZ,qS A ((lim a).length) c]) (⟨_,_,rfl,by rw[JW i];exact ⟨none,0,rfl,nR _,SlO.nil⟩,by rw[AS i];exact ⟨A,c,rfl,u,e.f.2.1⟩⟩))))
theorem qr {b:Nat}(h:(lim b).length=1):b<4294967296∧(lim b).getD 0 0=b∧0<b:=by
 have h1:=cj b;rw[h] at h1
 have a:0<b:=bV.1 oM;refine ⟨by omega,?_,a⟩;rw[Cz a oM];rfl
theorem lg (a:Nat)(A:Option Addr)(c:Nat)(I:(lim a).length≤c)(b:Nat)(D:Option Addr)(d:Nat)(Q:(lim b).length≤d)(X:(lim a).length≤3000000000)(U:(lim b).length≤3000000000)(x:b≤a)(h1:(lim b).length=1)(w:World)(h:Hp)(g:G w h)(O:S3 A (lim a) h)(K:S3 D (lim b) h):CR 170 #[.slice A ((lim a).length) c,.slice D ((lim b).length) d] w h (fun v h1=>∃ H B,v=.tuple #[H,B]∧RN h1 H (a/b)∧RN h1 B (a%b)):=by
 have e:=(((sS g).aS O).aS K);have M:=eP x;obtain ⟨W,k,j⟩:=qr h1;refine go Tryz.func170 [(0,qS A ((lim a).length) c),(1,qS D ((lim b).length) d)] rfl (aa e [.v 4 (sZ),.v 5 (sZ)] (ah (aa e [.m 25 0,.m 26 1] (ag 27 e (ji a A c I b D d Q oM oM _ _ e.g e.f.2.1 e.f.1) (fun w1 Z e=>?_)))));have ⟨j,y⟩:=dF (p:=(cD a b:Int)<(0:Int)) oM;refine lB 28 j (af (cK (cQ (aa e [.m 30 1,.v 31 (nV ((lim b).length))] ?_))));have i:((((lim b).length:Nat):Int) == (1:Int))=true:=fg oM;have F:=ML i;refine lB 32 i (ak (aa e [.m 34 0,.m 35 1] (lX 36 D ((lim b).length) d 1 0 0 ((e.f.1).ok oM) ?_)));refine lH 37 (mW ((lim b).getD 0 0)) e ((e.f.1).el 0 oM) (lC 38 e (If a A c I oM ((lim b).getD 0 0) oM oM _ _ e.g e.f.2.1) ?_);rintro _ w5 Y e ⟨_,r,rfl,⟨z,C,rfl,u,L⟩,o⟩;replace e:=e.aS L;refine lL e [.m 33 38,.v 39 (qS z ((lim (a/((lim b).getD 0 0))).length) C),.v 40 (mW r),.m 6 39,.m 7 40] (aI (lL e [.m 41 6,.m 42 7] ?_));have S:=A4 a (show 0<(lim b).getD 0 0 by omega);refine lV 43 (mV r) ?_ (hr:=rU ((r:Int)) kR (ba oM oM));refine lC 44 e (nY r oM _ _ e.g) ?_;rintro _ _ _ e ⟨J,V,rfl,l,za⟩;replace e:=e.aS za;exact lL e [.m 4 41,.m 5 44] (ac e [] (.tuple #[qS z ((lim (a/((lim b).getD 0 0))).length) C,qS J ((lim r).length) V]) (⟨_,_,rfl,by rw[k] at *;exact ⟨_,_,rfl,u,e.f.2.1⟩,by rw[←k,←o];exact ⟨_,_,rfl,l,e.f.1⟩⟩))
theorem oG (a:Nat)(A:Option Addr)(c:Nat)(hc:(lim a).length≤c)(b:Nat)(D:Option Addr)(d:Nat)(hd:(lim b).length≤d)(hLa:(lim a).length≤3000000000)(hLb:(lim b).length≤3000000000)(hab:b≤a)(hb2:2≤(lim b).length)(s:Nat)(hs_:s=32*(lim b).length-nb b)(w:World)(h:Hp)(g:G w h)(hA:S3 A (lim a) h)(hD:S3 D (lim b) h):CR 170 #[.slice A ((lim a).length) c,.slice D ((lim b).length) d] w h (fun v h1=>∃ v1 v2,v=.tuple #[v1,v2]∧RN h1 v1 (a/b)∧RN h1 v2 (a%b)):=by
 have e:=(((sS g).aS hA).aS hD);have hcl:=eP hab;have hbp:0<b:=bV.1 oM;have hln:=l9 b;have cm:s<32:=by omega
 have hvn:(lim (b*2^s)).length=(lim b).length:=by rw[l9,wU hbp];omega
 have hlm:=dg hab;have has:=dg (show a≤a*2^s from Nat.le_mul_of_pos_right _ (Ka s));have cq:(lim (a*2^s)).length≤(lim a).length+1:=dQ (by rw[JY];exact e6 (KK (cj a) (Ka s)) (Ke _ (ez (Kb kD (show s≤32 by omega)) (nR (2^32)))));have _:([0,0]:List Nat).length=2:=rfl;have bt:((lim (a*2^s))++[0,0]).length=((lim (a*2^s)).length+2):=by simp
 have W:=Ld.lim (b*2^s);have bd:=ll (b*2^s) (KJ hbp (Ka s));have hv1:=W.get ((lim (b*2^s)).length-1);have hv0:=W.get ((lim (b*2^s)).length-2);refine go Tryz.func170 [(0,qS A ((lim a).length) c),(1,qS D ((lim b).length) d)] rfl (aa e [.v 4 (sZ),.v 5 (sZ)] (ah (aa e [.m 25 0,.m 26 1] (ag 27 e (ji a A c hc b D d hd oM oM _ _ e.g e.f.2.1 e.f.1) (fun w1 h2 e=>?_)))));have ⟨hb3,b0⟩:=dF (p:=(cD a b:Int)<(0:Int)) oM;refine lB 28 hb3 (af (cK (cQ (aa e [.m 30 1,.v 31 (nV ((lim b).length))] ?_))));have hb4:((((lim b).length:Nat):Int) == (1:Int))=false:=bJ oM;have cr:=ae hb4;refine lB 32 hb4 (af (cK (aa e [.m 45 1,.v 46 (nV ((lim b).length))] (bD 47 (32*((lim b).length:Nat)) (32*(lim b).length) ?_))));refine lL e [.m 48 1] (ag 49 e (oW b D d hd oM _ _ e.g e.f.1) (fun w5 h6 e=>bD 50 ((32*(lim b).length:Nat)-(nb b:Nat)) s (lL e [.m 8 50] (aI (lL e [.m 51 1,.m 52 8] (lC 53 e (jU b D d hd oM s oM _ _ e.g e.f.1) ?_))))));rintro _ _ _ e ⟨Q,X,rfl,hc9,zR⟩;replace e:=e.aS zR;refine lL e [.m 9 53] (aI (lR 54 139 0 ([]) e (fun zj _ _ e=>lL e [.m 55 0,.m 56 8] (lC 57 e (jU a A c hc oM s oM _ _ e.g e.f.r.2.1) ?_))));rintro _ _ _ e ⟨zk,ye,rfl,b3,zS⟩;replace e:=e.aS zS;refine Jr 58 139 1 aZ 0 zj zk (lim (a*2^s)) ye 4 (uW 0) e e.f.1 oM (fun _ _=>by kernel_rfl) (fun yf yg _ _ e=>lR 59 139 2 ([uW 0,uW 0]) e (fun ze _ _ e=>?_));replace e:=e.aS (SlO.of_flat (sz:=1) (f:=aZ) (d:=0) (l:=[0,0]) (fun _=>rfl) e.f.1);refine I7 60 0 139 1 yg yf (lim (a*2^s)) aZ 0 (sB ze) ([0,0]) 2 4 (uW 0) e e.f.1 oM (fun zP zQ _ _ e=>lL e [.m 10 60] (aI (lL e [.m 61 9,.v 62 (nV ((lim (b*2^s)).length)),.m 11 62] (aI (lL e [.m 63 9,.m 64 11] (bD 65 (((lim (b*2^s)).length:Nat)-1) (((lim (b*2^s)).length:Nat)-1) ?_))))));refine lX 66 Q ((lim (b*2^s)).length) X 1 (((lim (b*2^s)).length:Nat)-1:Nat) (((lim (b*2^s)).length:Nat)-1:Nat) ((e.f.q.1).ok oM) (lH 67 (mW ((lim (b*2^s)).getD (((lim (b*2^s)).length:Nat)-1:Nat) 0)) e ((e.f.q.1).el (((lim (b*2^s)).length:Nat)-1:Nat) oM) (lV 68 (mV ((lim (b*2^s)).getD (((lim (b*2^s)).length:Nat)-1:Nat) 0)) ?_ (hr:=rU ((((lim (b*2^s)).getD (((lim (b*2^s)).length:Nat)-1:Nat) 0:Nat):Int)) kR (ba oM oM))));refine lL e [.m 12 68] (aI (lL e [.m 69 9,.m 70 11] (bD 71 (((lim (b*2^s)).length:Nat)-2) (((lim (b*2^s)).length:Nat)-2) ?_)));refine lX 72 Q ((lim (b*2^s)).length) X 1 (((lim (b*2^s)).length:Nat)-2:Nat) (((lim (b*2^s)).length:Nat)-2:Nat) ((e.f.q.1).ok oM) (lH 73 (mW ((lim (b*2^s)).getD (((lim (b*2^s)).length:Nat)-2:Nat) 0)) e ((e.f.q.1).el (((lim (b*2^s)).length:Nat)-2:Nat) oM) (lV 74 (mV ((lim (b*2^s)).getD (((lim (b*2^s)).length:Nat)-2:Nat) 0)) ?_ (hr:=rU ((((lim (b*2^s)).getD (((lim (b*2^s)).length:Nat)-2:Nat) 0:Nat):Int)) kR (ba oM oM))));refine lL e [.m 13 74] (lN (bH [(4,sZ),(5,sZ),(8,nV s),(9,qS Q ((lim (b*2^s)).length) X),(10,qS zP ((lim (a*2^s)++([0,0])).length) zQ),(11,nV ((lim (b*2^s)).length)),(12,mV ((lim (b*2^s)).getD (((lim (b*2^s)).length:Nat)-1:Nat) 0)),(13,mV ((lim (b*2^s)).getD (((lim (b*2^s)).length:Nat)-2:Nat) 0))] ?_));refine aa e [.m 75 10,.v 76 (nV ((lim (a*2^s)++([0,0])).length)),.m 77 11] (bD 78 (((lim (a*2^s)++([0,0])).length:Nat)-((lim (b*2^s)).length:Nat)) (((lim (a*2^s)).length+2)-(lim (b*2^s)).length) ?_);refine lK 79 139 (((lim (a*2^s)).length+2)-(lim (b*2^s)).length:Nat) 1 4 (uW 0) aZ 0 e (fun za _ yi e=>?_);have zU:(Am (((lim (a*2^s)).length+2)-(lim (b*2^s)).length:Nat) 0).length=(((lim (a*2^s)).length+2)-(lim (b*2^s)).length:Nat):=by simp
 refine lL e [.m 14 79] (ah (aa e [.m 80 10,.v 81 (nV ((lim (a*2^s)++([0,0])).length)),.m 82 11] (bD 83 (((lim (a*2^s)++([0,0])).length:Nat)-((lim (b*2^s)).length:Nat)) (((lim (a*2^s)++([0,0])).length:Nat)-((lim (b*2^s)).length:Nat)) ?_)));refine lV 84 (iV (((((lim (a*2^s)).length+2)-(lim (b*2^s)).length:Nat):Int)-1)) ?_ (hr:=rS (((((lim (a*2^s)++([0,0])).length:Nat)-((lim (b*2^s)).length:Nat):Nat)-1)) kR ((fX oM oM).trans oM));refine lL e [.m 15 84] (a8 ?_);refine bH _ (CG.loop (fun Y Γ w_=>∃ (m:Nat) (rA:Option Addr) (O:Nat) (u:List Nat) (U:List Nat) (L:Hp),Y=m∧Γ=[(4,sZ),(5,sZ),(8,nV s),(9,qS Q ((lim (b*2^s)).length) X),(10,qS rA ((u).length) O),(11,nV ((lim (b*2^s)).length)),(12,mV ((lim (b*2^s)).getD (((lim (b*2^s)).length:Nat)-1:Nat) 0)),(13,mV ((lim (b*2^s)).getD (((lim (b*2^s)).length:Nat)-2:Nat) 0)),(14,qS (sB za) (((lim (a*2^s)).length+2)-(lim (b*2^s)).length:Nat) (((lim (a*2^s)).length+2)-(lim (b*2^s)).length:Nat)),(15,iV ((m:Int)-1))]∧SS w h w_ L [⟨za,139,(U).flatMap aZ⟩] [⟨139,1,rA,O,(u).length,(u).flatMap aZ⟩] [S3 (sB ze) ([0,0]),fun L=>Seg L ze 0 ([uW 0,uW 0]),S3 zk (lim (a*2^s)),fun L=>Seg L zj 0 ([]),S3 Q (lim (b*2^s)),S3 D (lim b),S3 A (lim a)]∧m≤((lim (a*2^s)).length+2)-(lim (b*2^s)).length∧u.length=((lim (a*2^s)).length+2)∧Ld u∧U.length=((lim (a*2^s)).length+2)-(lim (b*2^s)).length∧Ld U∧bu u<4294967296^m*bu (lim (b*2^s))∧a*2^s=bu U*bu (lim (b*2^s))+bu u∧(∀ k,k<m→U.getD k 0=0)) _ ⟨((lim (a*2^s)).length+2)-(lim (b*2^s)).length,zP,zQ,(lim (a*2^s))++[0,0],Am (((lim (a*2^s)).length+2)-(lim (b*2^s)).length:Nat) 0,yi,rfl,rfl,e.to _ _,nR _,bt,(Dg.append (Ld.lim _) (Dg.cons kD (Dg.one kD))),zU,Ld.rep _,(xl hvn hb2 oM (KJ hbp (Ka s))),EV,fun k _=>dM⟩ ?_);rintro _ _ _ ⟨m,rA,O,u,U,_,ch,rfl,e,hm,hul,S,hql,hWq,hR,inv,hq0⟩;refine cQ (aa e [.m 85 15] ?_);cases zm:(decide ((0:Int)≤((m:Int)-1:Int)))
 ·
  have zB:=oF zm;refine lB 86 zm (af (CG.exit ?_))
  show CG _ _ _ _ _ _ _ _
  refine aa e [.m 251 14] ?_;have hm0:m=0:=by omega
  rw[hm0,K8,Kt] at hR
  obtain ⟨hQ,hRm⟩:=Ep (cG (b*2^s)) rfl inv hR;obtain ⟨_,e,br,b1,cc⟩:=e.pub 0;replace e:=(e.to [] [⟨139,1,rA,O,(u).length,(u).flatMap aZ⟩]).aS (SlO.of_flat (sz:=1) (f:=aZ) (d:=0) (b:=za) (o:=0) (l:=U) (fun _=>rfl) br);refine ag 252 e (iG (sB za) (((lim (a*2^s)).length+2)-(lim (b*2^s)).length:Nat) U (((lim (a*2^s)).length+2)-(lim (b*2^s)).length:Nat) hql oM oM _ _ e.g e.f.1) (fun _ _ e=>lL e [.m 253 10] ?_);obtain ⟨_,e,zW⟩:=e.pubr 0 (A:=rA) (c:=O) (l:=u) (f:=aZ) (ty:=139) (sz:=1) 0 (fun _=>rfl);refine ag 254 e (iG rA O u ((u).length) rfl oM zW _ _ e.g e.f.1) (fun _ _ e=>lL e [.m 255 8] (lV 256 (iV (-(s:Int))) ?_ (hr:=rS ((0-(s:Int))) kR (by rw[JK];omega))));refine lC 257 e (B5 (bu u) rA O (tl u ((u).length)) (k6 S rfl) (by have:=gu u u.length;omega) (by have:=gu u u.length;omega) s oM _ _ e.g (by rw[qM (n:=bu u) S rfl];exact (e.f.1).take _)) ?_;rintro _ _ _ e ⟨yj,yk,rfl,zX,ya⟩;replace e:=e.aS ya;exact lL e [.m 4 252,.m 5 257] (ac e [] (.tuple #[qS (sB za) (tl U (((lim (a*2^s)).length+2)-(lim (b*2^s)).length:Nat)) (((lim (a*2^s)).length+2)-(lim (b*2^s)).length:Nat),qS yj ((lim (bu u/2^s)).length) yk]) (⟨_,_,rfl,RN.trim hWq hQ hql (nR _) e.f.r.1,by rw[←hRm];exact ⟨_,_,rfl,zX,e.f.1⟩⟩))
 have zB:=oT zm;refine lB 86 zm (ak (cK (cQ (kZ (cQ (cR 17 [] mixed e ar ?_))))));have hm1:0<m:=by omega
 have hn2:2≤(lim (b*2^s)).length:=by omega
 have hjn:m-1+(lim (b*2^s)).length<u.length:=by omega
 have hR1:bu u<4294967296^(m-1+1)*bu (lim (b*2^s)):=by rw[show m-1+1=m by omega];exact hR
 have hle:=Ev hn2 rfl W S hjn hR1;have hu2:=S.get (m-1+(lim (b*2^s)).length);have hu1:=S.get (m-1+(lim (b*2^s)).length-1);have hu0:=S.get (m-1+(lim (b*2^s)).length-2);refine eV 0 89 (qS rA ((u).length) O) (eV 1 90 (iV ((m:Int)-1)) (eV 2 91 (nV ((lim (b*2^s)).length)) (jy 3 92 (((m:Int)-1)+((lim (b*2^s)).length:Nat)) (m-1+(lim (b*2^s)).length) ?_)));obtain ⟨zb,zD⟩:=e.rowA 0 (A:=rA) (c:=O) (m:=(u).length) (ty:=139) (sz:=1) (cs:=(u).flatMap aZ) oM;subst zD;refine eX 4 93 (sB zb) ((u).length) O 1 (m-1+(lim (b*2^s)).length:Nat) (m-1+(lim (b*2^s)).length:Nat) rfl (FM (ty:=139) (sz:=1) (c:=O) (m:=(u).length) (b:=zb) (cs:=(u).flatMap aZ) 5 94 0 (mW (u.getD (m-1+(lim (b*2^s)).length:Nat) 0)) (aZ (u.getD (m-1+(lim (b*2^s)).length:Nat) 0)) e (fC (f:=aZ) (sz:=1) (fun _=>rfl) 0 u (m-1+(lim (b*2^s)).length:Nat) oM) (eV 6 95 (mV (u.getD (m-1+(lim (b*2^s)).length:Nat) 0)) ?_ (hv:=fun _=>rU (((u.getD (m-1+(lim (b*2^s)).length:Nat) 0:Nat):Int)) kR (ba oM oM))));refine eV 7 96 (mV ((u.getD (m-1+(lim (b*2^s)).length:Nat) 0:Nat)*4294967296%18446744073709551616)) ?_ (hv:=fun _=>rU ((((u.getD (m-1+(lim (b*2^s)).length:Nat) 0:Nat):Int)*4294967296)) kR (ja (u.getD (m-1+(lim (b*2^s)).length:Nat) 0:Nat) 4294967296));refine eV 8 97 (qS (sB zb) ((u).length) O) (eV 9 98 (iV ((m:Int)-1)) (eV 10 99 (nV ((lim (b*2^s)).length)) (jy 11 100 (((m:Int)-1)+((lim (b*2^s)).length:Nat)) (m-1+(lim (b*2^s)).length) (jy 12 101 ((m-1+(lim (b*2^s)).length:Nat)-1) (m-1+(lim (b*2^s)).length-1) (eX 13 102 (sB zb) ((u).length) O 1 (m-1+(lim (b*2^s)).length-1:Nat) (m-1+(lim (b*2^s)).length-1:Nat) rfl (FM (ty:=139) (sz:=1) (c:=O) (m:=(u).length) (b:=zb) (cs:=(u).flatMap aZ) 14 103 0 (mW (u.getD (m-1+(lim (b*2^s)).length-1:Nat) 0)) (aZ (u.getD (m-1+(lim (b*2^s)).length-1:Nat) 0)) e (fC (f:=aZ) (sz:=1) (fun _=>rfl) 0 u (m-1+(lim (b*2^s)).length-1:Nat) oM) (eV 15 104 (mV (u.getD (m-1+(lim (b*2^s)).length-1:Nat) 0)) ?_ (hv:=fun _=>rU (((u.getD (m-1+(lim (b*2^s)).length-1:Nat) 0:Nat):Int)) kR (ba oM oM)))))))));refine eV 16 105 (mV ((u.getD (m-1+(lim (b*2^s)).length) 0)*4294967296+u.getD (m-1+(lim (b*2^s)).length-1) 0)) ?_ (hv:=fun _=>aK (gB (t:=34) (u:=34) (x:=.tmp 96) (y:=.tmp 104) (a:=((u.getD (m-1+(lim (b*2^s)).length:Nat) 0:Nat)*4294967296%18446744073709551616:Nat)) (b:=(u.getD (m-1+(lim (b*2^s)).length-1:Nat) 0:Nat)) kR kR kR oM oM _) (by rw[AS (show (u.getD (m-1+(lim (b*2^s)).length) 0)*4294967296<18446744073709551616 by omega),qN hu1]));refine ck e (fun _ yl e=>tV 17 16 (mV ((u.getD (m-1+(lim (b*2^s)).length) 0)*4294967296+u.getD (m-1+(lim (b*2^s)).length-1) 0)) (th (lL e [.m 106 16,.m 107 12] (lV 108 (mV (((u.getD (m-1+(lim (b*2^s)).length) 0)*4294967296+u.getD (m-1+(lim (b*2^s)).length-1) 0:Nat)/((lim (b*2^s)).getD (((lim (b*2^s)).length:Nat)-1:Nat) 0:Nat))) ?_ (hr:=aK (dl (t:=34) (u:=34) (x:=.tmp 106) (y:=.tmp 107) (k:=.u64) (a:=(((u.getD (m-1+(lim (b*2^s)).length) 0)*4294967296+u.getD (m-1+(lim (b*2^s)).length-1) 0:Nat):Int)) (b:=(((lim (b*2^s)).getD (((lim (b*2^s)).length:Nat)-1:Nat) 0:Nat):Int)) kR kR kR oM _) (jZ ((u.getD (m-1+(lim (b*2^s)).length) 0)*4294967296+u.getD (m-1+(lim (b*2^s)).length-1) 0:Nat) ((lim (b*2^s)).getD (((lim (b*2^s)).length:Nat)-1:Nat) 0:Nat) oM))))));refine lL e [.m 17 108] (aI (lL e [.m 109 16,.m 110 12] (lV 111 (mV (((u.getD (m-1+(lim (b*2^s)).length) 0)*4294967296+u.getD (m-1+(lim (b*2^s)).length-1) 0:Nat)%((lim (b*2^s)).getD (((lim (b*2^s)).length:Nat)-1:Nat) 0:Nat))) ?_ (hr:=aK (dU (t:=34) (u:=34) (x:=.tmp 109) (y:=.tmp 110) (k:=.u64) (a:=(((u.getD (m-1+(lim (b*2^s)).length) 0)*4294967296+u.getD (m-1+(lim (b*2^s)).length-1) 0:Nat):Int)) (b:=(((lim (b*2^s)).getD (((lim (b*2^s)).length:Nat)-1:Nat) 0:Nat):Int)) kR kR kR oM _) (cp ((u.getD (m-1+(lim (b*2^s)).length) 0)*4294967296+u.getD (m-1+(lim (b*2^s)).length-1) 0:Nat) ((lim (b*2^s)).getD (((lim (b*2^s)).length:Nat)-1:Nat) 0:Nat))))));refine lL e [.m 18 111] (lN (CG.join (fun Γ w_=>∃ (H:Nat) (L:Hp),Γ=[(4,sZ),(5,sZ),(8,nV s),(9,qS Q ((lim (b*2^s)).length) X),(10,qS (sB zb) ((u).length) O),(11,nV ((lim (b*2^s)).length)),(12,mV ((lim (b*2^s)).getD (((lim (b*2^s)).length:Nat)-1:Nat) 0)),(13,mV ((lim (b*2^s)).getD (((lim (b*2^s)).length:Nat)-2:Nat) 0)),(14,qS (sB za) (((lim (a*2^s)).length+2)-(lim (b*2^s)).length:Nat) (((lim (a*2^s)).length+2)-(lim (b*2^s)).length:Nat)),(15,iV ((m:Int)-1)),(17,mV H)]∧SS w h w_ L [⟨za,139,(U).flatMap aZ⟩] [⟨139,1,sB zb,O,(u).length,(u).flatMap aZ⟩] [S3 (sB ze) ([0,0]),fun L=>Seg L ze 0 ([uW 0,uW 0]),S3 zk (lim (a*2^s)),fun L=>Seg L zj 0 ([]),S3 Q (lim (b*2^s)),S3 D (lim b),S3 A (lim a)]∧B9 (u.getD (m-1+(lim (b*2^s)).length) 0) (u.getD (m-1+(lim (b*2^s)).length-1) 0) (u.getD (m-1+(lim (b*2^s)).length-2) 0) ((lim (b*2^s)).getD ((lim (b*2^s)).length-1) 0) ((lim (b*2^s)).getD ((lim (b*2^s)).length-2) 0) H) ?_ ?_))
 ·
  refine kZ ?_;refine bH _ (CG.loop (fun Y Γ w_=>∃ (g:Nat) (M:Nat) (L:Hp),Y=g∧Γ=[(4,sZ),(5,sZ),(8,nV s),(9,qS Q ((lim (b*2^s)).length) X),(10,qS (sB zb) ((u).length) O),(11,nV ((lim (b*2^s)).length)),(12,mV ((lim (b*2^s)).getD (((lim (b*2^s)).length:Nat)-1:Nat) 0)),(13,mV ((lim (b*2^s)).getD (((lim (b*2^s)).length:Nat)-2:Nat) 0)),(14,qS (sB za) (((lim (a*2^s)).length+2)-(lim (b*2^s)).length:Nat) (((lim (a*2^s)).length+2)-(lim (b*2^s)).length:Nat)),(15,iV ((m:Int)-1)),(17,mV g),(18,mV M)]∧SS w h w_ L [⟨za,139,(U).flatMap aZ⟩] [⟨139,1,sB zb,O,(u).length,(u).flatMap aZ⟩] [S3 (sB ze) ([0,0]),fun L=>Seg L ze 0 ([uW 0,uW 0]),S3 zk (lim (a*2^s)),fun L=>Seg L zj 0 ([]),S3 Q (lim (b*2^s)),S3 D (lim b),S3 A (lim a)]∧Gk (u.getD (m-1+(lim (b*2^s)).length) 0) (u.getD (m-1+(lim (b*2^s)).length-1) 0) (u.getD (m-1+(lim (b*2^s)).length-2) 0) ((lim (b*2^s)).getD ((lim (b*2^s)).length-1) 0) ((lim (b*2^s)).getD ((lim (b*2^s)).length-2) 0) g M∧M<4294967296∧g<18446744073709551616) _ ⟨(((u.getD (m-1+(lim (b*2^s)).length) 0)*4294967296+u.getD (m-1+(lim (b*2^s)).length-1) 0:Nat)/((lim (b*2^s)).getD (((lim (b*2^s)).length:Nat)-1:Nat) 0:Nat):Nat),(((u.getD (m-1+(lim (b*2^s)).length) 0)*4294967296+u.getD (m-1+(lim (b*2^s)).length-1) 0:Nat)%((lim (b*2^s)).getD (((lim (b*2^s)).length:Nat)-1:Nat) 0:Nat):Nat),yl,rfl,rfl,e.to _ _,(Gk.start oM hu0),(by have:=A4 (u.getD (m-1+(lim (b*2^s)).length) 0*4294967296+u.getD (m-1+(lim (b*2^s)).length-1) 0) (show 0<(lim (b*2^s)).getD ((lim (b*2^s)).length-1) 0 by omega);omega),(by have:=Nat.div_le_self ((u.getD (m-1+(lim (b*2^s)).length) 0)*4294967296+u.getD (m-1+(lim (b*2^s)).length-1) 0) ((lim (b*2^s)).getD ((lim (b*2^s)).length-1) 0);omega)⟩ ?_);rintro _ _ _ ⟨g,M,zl,b2,rfl,e,hG,hrh,hgb⟩;have b9:=fun hg=>hG.big hg hle hu1
  refine cQ (aa e [.m 112 17] ?_);cases zn:(decide ((4294967296:Int)≤(g:Int)))
  ·
   have zE:=oF zn;refine lB 113 zn (lL e [.m 114 113,.m 115 18] ?_);cases zo:(decide ((M:Int)<(4294967296:Int)))
   ·
    have zG:=oF zo;refine lB 116 zo (lL e [.m 117 116] (lG 118 ?_));refine lG 119 (lG 120 (lG 121 (lG 122 (lG 123 (lG 124 (lG 125 (lG 126 (lG 127 (lG 128 (lG 129 (lG 130 (lG 131 (lG 132 (lL e [.v 133 qF,.v 134 qF] (af (CG.exit ?_))))))))))))))));intro a_ V;exact ⟨_,⟨g,zl,rfl,e.to _ _,(hG.fin oM hv0 (by first|exact .inr oM|exact .inl oM))⟩,V.to _ kR⟩
   have zG:=oT zo;refine lB 116 zo (lL e [.m 117 116,.m 118 17,.m 119 13] (lV 120 (mV (g*((lim (b*2^s)).getD (((lim (b*2^s)).length:Nat)-2:Nat) 0:Nat))) ?_ (hr:=rU (((g:Int)*(((lim (b*2^s)).getD (((lim (b*2^s)).length:Nat)-2:Nat) 0:Nat):Int))) kR (fT g ((lim (b*2^s)).getD (((lim (b*2^s)).length:Nat)-2:Nat) 0:Nat) (by have:=wG (show g<4294967296 by omega) hv0;omega)))));refine lL e [.m 121 18] (lV 122 (mV (M*4294967296)) ?_ (hr:=rU (((M:Int)*4294967296)) kR ((ba oM oM).trans oM)));refine lL e [.m 123 10,.m 124 15,.m 125 11] (bD 126 (((m:Int)-1)+((lim (b*2^s)).length:Nat)) (m-1+(lim (b*2^s)).length) ?_);refine bD 127 ((m-1+(lim (b*2^s)).length:Nat)-2) (m-1+(lim (b*2^s)).length-2) (lX 128 (sB zb) ((u).length) O 1 (m-1+(lim (b*2^s)).length-2:Nat) (m-1+(lim (b*2^s)).length-2:Nat) rfl (Hy (ty:=139) (sz:=1) (c:=O) (m:=(u).length) (b:=zb) (cs:=(u).flatMap aZ) 129 0 (mW (u.getD (m-1+(lim (b*2^s)).length-2:Nat) 0)) (aZ (u.getD (m-1+(lim (b*2^s)).length-2:Nat) 0)) e (fC (f:=aZ) (sz:=1) (fun _=>rfl) 0 u (m-1+(lim (b*2^s)).length-2:Nat) oM) (lV 130 (mV (u.getD (m-1+(lim (b*2^s)).length-2:Nat) 0)) ?_ (hr:=rU (((u.getD (m-1+(lim (b*2^s)).length-2:Nat) 0:Nat):Int)) kR (ba oM oM)))));refine lV 131 (mV (M*4294967296+u.getD (m-1+(lim (b*2^s)).length-2) 0)) ?_ (hr:=aK (gB (t:=34) (u:=34) (x:=.tmp 122) (y:=.tmp 130) (a:=(M*4294967296)) (b:=(u.getD (m-1+(lim (b*2^s)).length-2:Nat) 0:Nat)) kR kR kR oM oM _) (by rw[qN hu0]));cases zp:(decide (((M*4294967296+u.getD (m-1+(lim (b*2^s)).length-2) 0:Nat):Int)<((g*((lim (b*2^s)).getD (((lim (b*2^s)).length:Nat)-2:Nat) 0:Nat):Nat):Int)))
   ·
    have zH:=oF zp;refine lB 132 zp (lL e [.v 133 qF,.v 134 qF] (af (CG.exit ?_)));intro a_ V;exact ⟨_,⟨g,zl,rfl,e.to _ _,(hG.fin oM hv0 (by first|exact .inr oM|exact .inl oM))⟩,V.to _ kR⟩
   have zH:=oT zp;refine lB 132 zp (lL e [.v 133 qT,.v 134 qT] (ak (cK (kZ (av ?_)))));have Z:Gk (u.getD (m-1+(lim (b*2^s)).length) 0) (u.getD (m-1+(lim (b*2^s)).length-1) 0) (u.getD (m-1+(lim (b*2^s)).length-2) 0) ((lim (b*2^s)).getD ((lim (b*2^s)).length-1) 0) ((lim (b*2^s)).getD ((lim (b*2^s)).length-2) 0) (g-1) (M+(lim (b*2^s)).getD ((lim (b*2^s)).length-1) 0):=by first|exact hG.decB oM|exact (hG.decT oM).2
   have hg0:0<g:=by first|omega|exact (hG.decT oM).1
   refine lL e [.m 135 17] (lV 136 (mV (g-1)) ?_ (hr:=rU (((g:Int)-(1:Int))) kR (d9 g 1 oM oM)));refine lL e [.m 17 136] (aI (lL e [.m 137 18,.m 138 12] (lV 139 (mV (M+((lim (b*2^s)).getD (((lim (b*2^s)).length:Nat)-1:Nat) 0:Nat))) ?_ (hr:=rU (((M:Int)+(((lim (b*2^s)).getD (((lim (b*2^s)).length:Nat)-1:Nat) 0:Nat):Int))) kR (dD M ((lim (b*2^s)).getD (((lim (b*2^s)).length:Nat)-1:Nat) 0:Nat) oM)))));refine lL e [.m 18 139] (aI (lL e [.m 140 18] ?_));cases zq:(decide ((4294967296:Int)≤((M+((lim (b*2^s)).getD (((lim (b*2^s)).length:Nat)-1:Nat) 0:Nat):Nat):Int)))
   ·
    have zI:=oF zq;refine lB 141 zq (lN (bH [(4,sZ),(5,sZ),(8,nV s),(9,qS Q ((lim (b*2^s)).length) X),(10,qS (sB zb) ((u).length) O),(11,nV ((lim (b*2^s)).length)),(12,mV ((lim (b*2^s)).getD (((lim (b*2^s)).length:Nat)-1:Nat) 0)),(13,mV ((lim (b*2^s)).getD (((lim (b*2^s)).length:Nat)-2:Nat) 0)),(14,qS (sB za) (((lim (a*2^s)).length+2)-(lim (b*2^s)).length:Nat) (((lim (a*2^s)).length+2)-(lim (b*2^s)).length:Nat)),(15,iV ((m:Int)-1)),(17,mV (g-1)),(18,mV (M+((lim (b*2^s)).getD (((lim (b*2^s)).length:Nat)-1:Nat) 0:Nat))),(141,qF)] ?_));refine cv (CG.skip ?_);intro a_ V;refine ⟨_,_,?_,⟨g-1,(M+((lim (b*2^s)).getD (((lim (b*2^s)).length:Nat)-1:Nat) 0:Nat):Nat),zl,rfl,rfl,e.to _ _,Z,oM,oM⟩,V.to _ kR⟩
    omega
   have zI:=oT zq;refine lB 141 zq (lN (bH [(4,sZ),(5,sZ),(8,nV s),(9,qS Q ((lim (b*2^s)).length) X),(10,qS (sB zb) ((u).length) O),(11,nV ((lim (b*2^s)).length)),(12,mV ((lim (b*2^s)).getD (((lim (b*2^s)).length:Nat)-1:Nat) 0)),(13,mV ((lim (b*2^s)).getD (((lim (b*2^s)).length:Nat)-2:Nat) 0)),(14,qS (sB za) (((lim (a*2^s)).length+2)-(lim (b*2^s)).length:Nat) (((lim (a*2^s)).length+2)-(lim (b*2^s)).length:Nat)),(15,iV ((m:Int)-1)),(17,mV (g-1)),(18,mV (M+((lim (b*2^s)).getD (((lim (b*2^s)).length:Nat)-1:Nat) 0:Nat))),(141,qT)] ?_));refine ce (CG.exit ?_);have bq:=fun hg=>Z.big hg hle hu1
   intro a_ V;exact ⟨_,⟨(g-1),zl,rfl,e.to _ _,(Z.fin oM hv0 (.inl oM))⟩,V.to _ kR⟩
  have zE:=oT zn;refine lB 113 zn (lL e [.m 114 113] (lG 115 ?_));refine lG 116 (lG 117 (lG 118 (lG 119 (lG 120 (lG 121 (lG 122 (lG 123 (lG 124 (lG 125 (lG 126 (lG 127 (lG 128 (lG 129 (lG 130 (lG 131 (lG 132 (lG 133 (lL e [.v 134 qT] (ak (cK (kZ (av ?_))))))))))))))))))))));have Z:Gk (u.getD (m-1+(lim (b*2^s)).length) 0) (u.getD (m-1+(lim (b*2^s)).length-1) 0) (u.getD (m-1+(lim (b*2^s)).length-2) 0) ((lim (b*2^s)).getD ((lim (b*2^s)).length-1) 0) ((lim (b*2^s)).getD ((lim (b*2^s)).length-2) 0) (g-1) (M+(lim (b*2^s)).getD ((lim (b*2^s)).length-1) 0):=by first|exact hG.decB oM|exact (hG.decT oM).2
  have hg0:0<g:=by first|omega|exact (hG.decT oM).1
  refine lL e [.m 135 17] (lV 136 (mV (g-1)) ?_ (hr:=rU (((g:Int)-(1:Int))) kR (d9 g 1 oM oM)));refine lL e [.m 17 136] (aI (lL e [.m 137 18,.m 138 12] (lV 139 (mV (M+((lim (b*2^s)).getD (((lim (b*2^s)).length:Nat)-1:Nat) 0:Nat))) ?_ (hr:=rU (((M:Int)+(((lim (b*2^s)).getD (((lim (b*2^s)).length:Nat)-1:Nat) 0:Nat):Int))) kR (dD M ((lim (b*2^s)).getD (((lim (b*2^s)).length:Nat)-1:Nat) 0:Nat) oM)))));refine lL e [.m 18 139] (aI (lL e [.m 140 18] ?_));cases zr:(decide ((4294967296:Int)≤((M+((lim (b*2^s)).getD (((lim (b*2^s)).length:Nat)-1:Nat) 0:Nat):Nat):Int)))
  ·
   have zJ:=oF zr;refine lB 141 zr (lN (bH [(4,sZ),(5,sZ),(8,nV s),(9,qS Q ((lim (b*2^s)).length) X),(10,qS (sB zb) ((u).length) O),(11,nV ((lim (b*2^s)).length)),(12,mV ((lim (b*2^s)).getD (((lim (b*2^s)).length:Nat)-1:Nat) 0)),(13,mV ((lim (b*2^s)).getD (((lim (b*2^s)).length:Nat)-2:Nat) 0)),(14,qS (sB za) (((lim (a*2^s)).length+2)-(lim (b*2^s)).length:Nat) (((lim (a*2^s)).length+2)-(lim (b*2^s)).length:Nat)),(15,iV ((m:Int)-1)),(17,mV (g-1)),(18,mV (M+((lim (b*2^s)).getD (((lim (b*2^s)).length:Nat)-1:Nat) 0:Nat))),(141,qF)] ?_));refine cv (CG.skip ?_);intro a_ V;refine ⟨_,_,?_,⟨g-1,(M+((lim (b*2^s)).getD (((lim (b*2^s)).length:Nat)-1:Nat) 0:Nat):Nat),zl,rfl,rfl,e.to _ _,Z,oM,oM⟩,V.to _ kR⟩
   omega
  have zJ:=oT zr;refine lB 141 zr (lN (bH [(4,sZ),(5,sZ),(8,nV s),(9,qS Q ((lim (b*2^s)).length) X),(10,qS (sB zb) ((u).length) O),(11,nV ((lim (b*2^s)).length)),(12,mV ((lim (b*2^s)).getD (((lim (b*2^s)).length:Nat)-1:Nat) 0)),(13,mV ((lim (b*2^s)).getD (((lim (b*2^s)).length:Nat)-2:Nat) 0)),(14,qS (sB za) (((lim (a*2^s)).length+2)-(lim (b*2^s)).length:Nat) (((lim (a*2^s)).length+2)-(lim (b*2^s)).length:Nat)),(15,iV ((m:Int)-1)),(17,mV (g-1)),(18,mV (M+((lim (b*2^s)).getD (((lim (b*2^s)).length:Nat)-1:Nat) 0:Nat))),(141,qT)] ?_));refine ce (CG.exit ?_);have bq:=fun hg=>Z.big hg hle hu1
  intro a_ V;exact ⟨_,⟨(g-1),zl,rfl,e.to _ _,(Z.fin oM hv0 (.inl oM))⟩,V.to _ kR⟩
 rintro _ _ ⟨H,ym,rfl,e,hH⟩;refine av ?_;have hgl:=hH.2.2;have hGd:=vg (n:=(lim (b*2^s)).length) (j:=m-1) hn2 rfl W S hjn bd hR1 hH;refine lL e [.v 19 (uV 0)] (aI (lL e [.v 20 (uV 0)] (ah (aa e [.v 21 (iV 0)] (a8 ?_)))));refine bH _ (CG.loop (fun Y Γ w_=>∃ (i:Nat) (raA:Option Addr) (I:Nat) (z:List Nat) (F:Nat) (J:Nat) (L:Hp),Y=(lim (b*2^s)).length-i∧Γ=[(4,sZ),(5,sZ),(8,nV s),(9,qS Q ((lim (b*2^s)).length) X),(10,qS raA ((z).length) I),(11,nV ((lim (b*2^s)).length)),(12,mV ((lim (b*2^s)).getD (((lim (b*2^s)).length:Nat)-1:Nat) 0)),(13,mV ((lim (b*2^s)).getD (((lim (b*2^s)).length:Nat)-2:Nat) 0)),(14,qS (sB za) (((lim (a*2^s)).length+2)-(lim (b*2^s)).length:Nat) (((lim (a*2^s)).length+2)-(lim (b*2^s)).length:Nat)),(15,iV ((m:Int)-1)),(17,mV H),(21,nV i),(19,mV F),(20,mV J)]∧SS w h w_ L [⟨za,139,(U).flatMap aZ⟩] [⟨139,1,raA,I,(z).length,(z).flatMap aZ⟩] [S3 (sB ze) ([0,0]),fun L=>Seg L ze 0 ([uW 0,uW 0]),S3 zk (lim (a*2^s)),fun L=>Seg L zj 0 ([]),S3 Q (lim (b*2^s)),S3 D (lim b),S3 A (lim a)]∧i≤(lim (b*2^s)).length∧z.length=((lim (a*2^s)).length+2)∧Ld z∧F<4294967296∧J≤1∧aj 4294967296 z+4294967296^(m-1)*(H*aj 4294967296 ((lim (b*2^s)).take i))=bu u+4294967296^(m-1+i)*(F+J)∧Above z u (m-1+(lim (b*2^s)).length+1)) _ ⟨0,sB zb,O,u,0,0,ym,rfl,rfl,e.to _ _,K7 _,hul,S,oM,oM,(by show aj _ u+_=aj _ u+_;simp[aj]),Above.refl _ _⟩ ?_);rintro _ _ _ ⟨i,raA,I,z,F,J,zu,b6,rfl,e,hi,hua,hWa,hcy,hbo,bk,bm⟩;have cx:=hWa.get (m-1+i);have hvi:=W.get i;refine cQ (aa e [.m 142 21,.m 143 11] ?_);cases zs:(decide ((i:Int)<(((lim (b*2^s)).length:Nat):Int)))
 ·
  have zK:=oF zs;refine lB 144 zs (af (CG.exit ?_))
  show CG _ _ _ _ _ _ _ _
  refine av ?_;have b5:=hWa.get (m-1+(lim (b*2^s)).length);refine lL e [.m 179 10,.m 180 15,.m 181 11] (bD 182 (((m:Int)-1)+((lim (b*2^s)).length:Nat)) (m-1+(lim (b*2^s)).length) ?_);obtain ⟨zd,zL⟩:=e.rowA 0 (A:=raA) (c:=I) (m:=(z).length) (ty:=139) (sz:=1) (cs:=(z).flatMap aZ) oM;subst zL;refine lX 183 (sB zd) ((z).length) I 1 (m-1+(lim (b*2^s)).length:Nat) (m-1+(lim (b*2^s)).length:Nat) rfl (Hy (ty:=139) (sz:=1) (c:=I) (m:=(z).length) (b:=zd) (cs:=(z).flatMap aZ) 184 0 (mW (z.getD (m-1+(lim (b*2^s)).length:Nat) 0)) (aZ (z.getD (m-1+(lim (b*2^s)).length:Nat) 0)) e (fC (f:=aZ) (sz:=1) (fun _=>rfl) 0 z (m-1+(lim (b*2^s)).length:Nat) oM) (lV 185 (mV (z.getD (m-1+(lim (b*2^s)).length:Nat) 0)) ?_ (hr:=rU (((z.getD (m-1+(lim (b*2^s)).length:Nat) 0:Nat):Int)) kR (ba oM oM))));refine lL e [.m 186 19] (lV 187 (mV (((z.getD (m-1+(lim (b*2^s)).length:Nat) 0:Nat)+(18446744073709551616-F))%18446744073709551616)) ?_ (hr:=rU ((((z.getD (m-1+(lim (b*2^s)).length:Nat) 0:Nat):Int)-(F:Int))) kR (kc (z.getD (m-1+(lim (b*2^s)).length:Nat) 0:Nat) F oM)));refine lL e [.m 188 20] (lV 189 (mV (((((z.getD (m-1+(lim (b*2^s)).length:Nat) 0:Nat)+(18446744073709551616-F))%18446744073709551616:Nat)+(18446744073709551616-J))%18446744073709551616)) ?_ (hr:=rU ((((((z.getD (m-1+(lim (b*2^s)).length:Nat) 0:Nat)+(18446744073709551616-F))%18446744073709551616:Nat):Int)-(J:Int))) kR (kc (((z.getD (m-1+(lim (b*2^s)).length:Nat) 0:Nat)+(18446744073709551616-F))%18446744073709551616:Nat) J oM)));refine lL e [.m 23 189] (aI ?_);rw[show i=(lim (b*2^s)).length by omega] at bk
  obtain ⟨hT1,hT2⟩:=vi (t:=(((((z.getD (m-1+(lim (b*2^s)).length:Nat) 0:Nat)+(18446744073709551616-F))%18446744073709551616:Nat)+(18446744073709551616-J))%18446744073709551616:Nat)) (hWa.get (m-1+(lim (b*2^s)).length)) hcy hbo rfl;have hE:=xo oM bk (s:=(((((((z.getD (m-1+(lim (b*2^s)).length:Nat) 0:Nat)+(18446744073709551616-F))%18446744073709551616:Nat)+(18446744073709551616-J))%18446744073709551616:Nat))%4294967296)) (bo':=((((((z.getD (m-1+(lim (b*2^s)).length:Nat) 0:Nat)+(18446744073709551616-F))%18446744073709551616:Nat)+(18446744073709551616-J))%18446744073709551616:Nat))/9223372036854775808) oM;refine lL e [.m 190 10,.m 191 15,.m 192 11] (bD 193 (((m:Int)-1)+((lim (b*2^s)).length:Nat)) (m-1+(lim (b*2^s)).length) ?_);refine lL e [.m 194 23] (lV 195 (mW ((((((z.getD (m-1+(lim (b*2^s)).length:Nat) 0:Nat)+(18446744073709551616-F))%18446744073709551616:Nat)+(18446744073709551616-J))%18446744073709551616:Nat)%4294967296)) ?_ (hr:=rT (((((((z.getD (m-1+(lim (b*2^s)).length:Nat) 0:Nat)+(18446744073709551616-F))%18446744073709551616:Nat)+(18446744073709551616-J))%18446744073709551616:Nat):Int)) kR (f4 _)));refine lX 196 (sB zd) ((z).length) I 1 (m-1+(lim (b*2^s)).length:Nat) (m-1+(lim (b*2^s)).length:Nat) rfl (EZ (ty:=139) (c:=I) (b:=zd) 0 (m-1+(lim (b*2^s)).length:Nat) 0 ([mW ((((((z.getD (m-1+(lim (b*2^s)).length:Nat) 0:Nat)+(18446744073709551616-F))%18446744073709551616:Nat)+(18446744073709551616-J))%18446744073709551616:Nat)%4294967296)]) z aZ 1 0 ((((((z.getD (m-1+(lim (b*2^s)).length:Nat) 0:Nat)+(18446744073709551616-F))%18446744073709551616:Nat)+(18446744073709551616-J))%18446744073709551616:Nat)%4294967296:Nat) e oM (fun _ e=>?_));replace e:=e.to [⟨za,139,(U).flatMap aZ⟩] [⟨139,1,sB zd,I,(z).length,(z.set (m-1+(lim (b*2^s)).length:Nat) ((((((z.getD (m-1+(lim (b*2^s)).length:Nat) 0:Nat)+(18446744073709551616-F))%18446744073709551616:Nat)+(18446744073709551616-J))%18446744073709551616:Nat)%4294967296:Nat)).flatMap aZ⟩];refine lN (CG.join (fun Γ w_=>∃ (gz:Nat) (rzA:Option Addr) (rzc:Nat) (uz:List Nat) (L:Hp),Γ=[(4,sZ),(5,sZ),(8,nV s),(9,qS Q ((lim (b*2^s)).length) X),(11,nV ((lim (b*2^s)).length)),(12,mV ((lim (b*2^s)).getD (((lim (b*2^s)).length:Nat)-1:Nat) 0)),(13,mV ((lim (b*2^s)).getD (((lim (b*2^s)).length:Nat)-2:Nat) 0)),(14,qS (sB za) (((lim (a*2^s)).length+2)-(lim (b*2^s)).length:Nat) (((lim (a*2^s)).length+2)-(lim (b*2^s)).length:Nat)),(15,iV ((m:Int)-1)),(17,mV gz),(10,qS rzA ((uz).length) rzc)]∧SS w h w_ L [⟨za,139,(U).flatMap aZ⟩] [⟨139,1,rzA,rzc,(uz).length,(uz).flatMap aZ⟩] [S3 (sB ze) ([0,0]),fun L=>Seg L ze 0 ([uW 0,uW 0]),S3 zk (lim (a*2^s)),fun L=>Seg L zj 0 ([]),S3 Q (lim (b*2^s)),S3 D (lim b),S3 A (lim a)]∧uz.length=((lim (a*2^s)).length+2)∧Ld uz∧gz<4294967296∧bu uz<4294967296^(m-1)*bu (lim (b*2^s))∧bu uz+4294967296^(m-1)*(gz*bu (lim (b*2^s)))=bu u) ?_ ?_)
  ·
   refine av ?_;have hW4:Ld (z.set (m-1+(lim (b*2^s)).length:Nat) ((((((z.getD (m-1+(lim (b*2^s)).length:Nat) 0:Nat)+(18446744073709551616-F))%18446744073709551616:Nat)+(18446744073709551616-J))%18446744073709551616:Nat)%4294967296:Nat)):=hWa.set _ (A4 _ kD);have bb:Above (z.set (m-1+(lim (b*2^s)).length:Nat) ((((((z.getD (m-1+(lim (b*2^s)).length:Nat) 0:Nat)+(18446744073709551616-F))%18446744073709551616:Nat)+(18446744073709551616-J))%18446744073709551616:Nat)%4294967296:Nat)) u (m-1+(lim (b*2^s)).length+1):=bm.set oM oM;have hl4:(z.set (m-1+(lim (b*2^s)).length:Nat) ((((((z.getD (m-1+(lim (b*2^s)).length:Nat) 0:Nat)+(18446744073709551616-F))%18446744073709551616:Nat)+(18446744073709551616-J))%18446744073709551616:Nat)%4294967296:Nat)).length=((lim (a*2^s)).length+2):=by rw[KP];exact hua
   refine lL e [.m 197 23] (lV 198 (mV ((((((z.getD (m-1+(lim (b*2^s)).length:Nat) 0:Nat)+(18446744073709551616-F))%18446744073709551616:Nat)+(18446744073709551616-J))%18446744073709551616:Nat)/9223372036854775808)) ?_ (hr:=aK (n:=K5 ((((((z.getD (m-1+(lim (b*2^s)).length:Nat) 0:Nat)+(18446744073709551616-F))%18446744073709551616:Nat)+(18446744073709551616-J))%18446744073709551616:Nat):Int) 9223372036854775808) kR (dN _ 9223372036854775808)));cases zt:((((((((z.getD (m-1+(lim (b*2^s)).length:Nat) 0:Nat)+(18446744073709551616-F))%18446744073709551616:Nat)+(18446744073709551616-J))%18446744073709551616:Nat)/9223372036854775808:Nat):Int) == (1:Int))
   ·
    have zM:=ae zt;refine lB 199 zt (af (CG.skip ?_));have hD_:=Cv hn2 rfl W S hW4 hjn bd hR1 hGd bb (by rw[show ((((((z.getD (m-1+(lim (b*2^s)).length:Nat) 0:Nat)+(18446744073709551616-F))%18446744073709551616:Nat)+(18446744073709551616-J))%18446744073709551616:Nat))/9223372036854775808=0 by omega] at hE;exact hE);have hDw:=hW4;have hDg:=hgl;have hDu:=hD_.1;have hDe:=hD_.2;have hDl:=hl4;intro a_ V;replace e:=e.rown [⟨139,1,sB zd,I,(z.set (m-1+(lim (b*2^s)).length:Nat) ((((((z.getD (m-1+(lim (b*2^s)).length:Nat) 0:Nat)+(18446744073709551616-F))%18446744073709551616:Nat)+(18446744073709551616-J))%18446744073709551616:Nat)%4294967296:Nat)).length,(z.set (m-1+(lim (b*2^s)).length:Nat) ((((((z.getD (m-1+(lim (b*2^s)).length:Nat) 0:Nat)+(18446744073709551616-F))%18446744073709551616:Nat)+(18446744073709551616-J))%18446744073709551616:Nat)%4294967296:Nat)).flatMap aZ⟩] (by simp only[KP]);exact ⟨_,⟨H,sB zd,I,z.set (m-1+(lim (b*2^s)).length:Nat) ((((((z.getD (m-1+(lim (b*2^s)).length:Nat) 0:Nat)+(18446744073709551616-F))%18446744073709551616:Nat)+(18446744073709551616-J))%18446744073709551616:Nat)%4294967296:Nat),zu,rfl,e.to _ _,hDl,hDw,hDg,hDu,hDe⟩,V.to _ (by simp only[KP];kernel_rfl)⟩
   have zM:=ML zt;refine lB 199 zt (ak (aa e [.m 200 17] ?_));have hE1:=hE;rw[show ((((((z.getD (m-1+(lim (b*2^s)).length:Nat) 0:Nat)+(18446744073709551616-F))%18446744073709551616:Nat)+(18446744073709551616-J))%18446744073709551616:Nat))/9223372036854775808=1 by omega] at hE1
   have hgp:=EY hn2 rfl W S hW4 hjn bd hR1 hGd bb hE1;refine lV 201 (mV (H-1)) ?_ (hr:=rU (((H:Int)-(1:Int))) kR (d9 H 1 oM oM));refine lL e [.m 17 201] (lN (bH [(4,sZ),(5,sZ),(8,nV s),(9,qS Q ((lim (b*2^s)).length) X),(10,qS (sB zd) ((z).length) I),(11,nV ((lim (b*2^s)).length)),(12,mV ((lim (b*2^s)).getD (((lim (b*2^s)).length:Nat)-1:Nat) 0)),(13,mV ((lim (b*2^s)).getD (((lim (b*2^s)).length:Nat)-2:Nat) 0)),(14,qS (sB za) (((lim (a*2^s)).length+2)-(lim (b*2^s)).length:Nat) (((lim (a*2^s)).length+2)-(lim (b*2^s)).length:Nat)),(15,iV ((m:Int)-1)),(17,mV (H-1)),(19,mV F)] ?_));refine aa e [.v 19 (uV 0)] (ah (aa e [.v 24 (iV 0)] (a8 ?_)));replace e:=e.rown [⟨139,1,sB zd,I,(z.set (m-1+(lim (b*2^s)).length:Nat) ((((((z.getD (m-1+(lim (b*2^s)).length:Nat) 0:Nat)+(18446744073709551616-F))%18446744073709551616:Nat)+(18446744073709551616-J))%18446744073709551616:Nat)%4294967296:Nat)).length,(z.set (m-1+(lim (b*2^s)).length:Nat) ((((((z.getD (m-1+(lim (b*2^s)).length:Nat) 0:Nat)+(18446744073709551616-F))%18446744073709551616:Nat)+(18446744073709551616-J))%18446744073709551616:Nat)%4294967296:Nat)).flatMap aZ⟩] (by simp only[KP]);refine bH _ (CG.loop (fun Y Γ w_=>∃ (C:Nat) (rbA:Option Addr) (K:Nat) (B:List Nat) (c2:Nat) (L:Hp),Y=(lim (b*2^s)).length-C∧Γ=[(4,sZ),(5,sZ),(8,nV s),(9,qS Q ((lim (b*2^s)).length) X),(10,qS rbA ((B).length) K),(11,nV ((lim (b*2^s)).length)),(12,mV ((lim (b*2^s)).getD (((lim (b*2^s)).length:Nat)-1:Nat) 0)),(13,mV ((lim (b*2^s)).getD (((lim (b*2^s)).length:Nat)-2:Nat) 0)),(14,qS (sB za) (((lim (a*2^s)).length+2)-(lim (b*2^s)).length:Nat) (((lim (a*2^s)).length+2)-(lim (b*2^s)).length:Nat)),(15,iV ((m:Int)-1)),(17,mV (H-1)),(24,nV C),(19,mV c2)]∧SS w h w_ L [⟨za,139,(U).flatMap aZ⟩] [⟨139,1,rbA,K,(B).length,(B).flatMap aZ⟩] [S3 (sB ze) ([0,0]),fun L=>Seg L ze 0 ([uW 0,uW 0]),S3 zk (lim (a*2^s)),fun L=>Seg L zj 0 ([]),S3 Q (lim (b*2^s)),S3 D (lim b),S3 A (lim a)]∧C≤(lim (b*2^s)).length∧B.length=((lim (a*2^s)).length+2)∧Ld B∧c2≤1∧aj 4294967296 B+4294967296^(m-1+C)*c2=aj 4294967296 (z.set (m-1+(lim (b*2^s)).length:Nat) ((((((z.getD (m-1+(lim (b*2^s)).length:Nat) 0:Nat)+(18446744073709551616-F))%18446744073709551616:Nat)+(18446744073709551616-J))%18446744073709551616:Nat)%4294967296:Nat))+4294967296^(m-1)*aj 4294967296 ((lim (b*2^s)).take C)∧Above B u (m-1+(lim (b*2^s)).length+1)) _ ⟨0,sB zd,I,z.set (m-1+(lim (b*2^s)).length:Nat) ((((((z.getD (m-1+(lim (b*2^s)).length:Nat) 0:Nat)+(18446744073709551616-F))%18446744073709551616:Nat)+(18446744073709551616-J))%18446744073709551616:Nat)%4294967296:Nat),0,zu,rfl,(by simp only[KP]<;>rfl),e.to _ _,K7 _,hl4,hW4,oM,(by simp[aj]),bb⟩ ?_);rintro _ _ _ ⟨C,rbA,K,B,c2,yb,bw,rfl,e,hi2,hub,hWb,hc2,bl,bn⟩;refine cQ (aa e [.m 202 24,.m 203 11] ?_);cases zi:(decide ((C:Int)<(((lim (b*2^s)).length:Nat):Int)))
   ·
    have zv:=oF zi;refine lB 204 zi (af (CG.exit ?_))
    show CG _ _ _ _ _ _ _ _
    refine kQ ?_;have b7:=hWb.get (m-1+(lim (b*2^s)).length);refine lL e [.m 231 10,.m 232 15,.m 233 11] (bD 234 (((m:Int)-1)+((lim (b*2^s)).length:Nat)) (m-1+(lim (b*2^s)).length) ?_);refine lL e [.m 235 10,.m 236 15,.m 237 11] (bD 238 (((m:Int)-1)+((lim (b*2^s)).length:Nat)) (m-1+(lim (b*2^s)).length) ?_);obtain ⟨zf,zw⟩:=e.rowA 0 (A:=rbA) (c:=K) (m:=(B).length) (ty:=139) (sz:=1) (cs:=(B).flatMap aZ) oM;subst zw;refine lX 239 (sB zf) ((B).length) K 1 (m-1+(lim (b*2^s)).length:Nat) (m-1+(lim (b*2^s)).length:Nat) rfl (Hy (ty:=139) (sz:=1) (c:=K) (m:=(B).length) (b:=zf) (cs:=(B).flatMap aZ) 240 0 (mW (B.getD (m-1+(lim (b*2^s)).length:Nat) 0)) (aZ (B.getD (m-1+(lim (b*2^s)).length:Nat) 0)) e (fC (f:=aZ) (sz:=1) (fun _=>rfl) 0 B (m-1+(lim (b*2^s)).length:Nat) oM) (lV 241 (mV (B.getD (m-1+(lim (b*2^s)).length:Nat) 0)) ?_ (hr:=rU (((B.getD (m-1+(lim (b*2^s)).length:Nat) 0:Nat):Int)) kR (ba oM oM))));refine lL e [.m 242 19] (lV 243 (mV ((B.getD (m-1+(lim (b*2^s)).length:Nat) 0:Nat)+c2)) ?_ (hr:=rU ((((B.getD (m-1+(lim (b*2^s)).length:Nat) 0:Nat):Int)+(c2:Int))) kR (dD (B.getD (m-1+(lim (b*2^s)).length:Nat) 0:Nat) c2 oM)));refine lV 244 (mW (((B.getD (m-1+(lim (b*2^s)).length:Nat) 0:Nat)+c2:Nat)%4294967296)) ?_ (hr:=rT ((((B.getD (m-1+(lim (b*2^s)).length:Nat) 0:Nat)+c2:Nat):Int)) kR (f4 _));refine lX 245 (sB zf) ((B).length) K 1 (m-1+(lim (b*2^s)).length:Nat) (m-1+(lim (b*2^s)).length:Nat) rfl (EZ (ty:=139) (c:=K) (b:=zf) 0 (m-1+(lim (b*2^s)).length:Nat) 0 ([mW (((B.getD (m-1+(lim (b*2^s)).length:Nat) 0:Nat)+c2:Nat)%4294967296)]) B aZ 1 0 (((B.getD (m-1+(lim (b*2^s)).length:Nat) 0:Nat)+c2:Nat)%4294967296:Nat) e oM (fun _ e=>?_));replace e:=e.to [⟨za,139,(U).flatMap aZ⟩] [⟨139,1,sB zf,K,(B).length,(B.set (m-1+(lim (b*2^s)).length:Nat) (((B.getD (m-1+(lim (b*2^s)).length:Nat) 0:Nat)+c2:Nat)%4294967296:Nat)).flatMap aZ⟩];refine lD ?_;rw[show C=(lim (b*2^s)).length by omega] at bl
    have hE3:=xG (s:=(B.getD (m-1+(lim (b*2^s)).length) 0+c2)%4294967296) (c':=(B.getD (m-1+(lim (b*2^s)).length) 0+c2)/4294967296) oM bl (KO _ _);have hDw:Ld (B.set (m-1+(lim (b*2^s)).length:Nat) (((B.getD (m-1+(lim (b*2^s)).length:Nat) 0:Nat)+c2:Nat)%4294967296:Nat)):=hWb.set _ (A4 _ kD);obtain ⟨hDu,hDe,hDp⟩:=EW hn2 rfl W S hW4 hDw hjn bd hR1 hGd bb (bn.set oM oM) hE1 hE3;have hDg:H-1<4294967296:=by omega
    have hDl:(B.set (m-1+(lim (b*2^s)).length:Nat) (((B.getD (m-1+(lim (b*2^s)).length:Nat) 0:Nat)+c2:Nat)%4294967296:Nat)).length=((lim (a*2^s)).length+2):=by rw[KP];exact hub
    intro a_ V;replace e:=e.rown [⟨139,1,sB zf,K,(B.set (m-1+(lim (b*2^s)).length:Nat) (((B.getD (m-1+(lim (b*2^s)).length:Nat) 0:Nat)+c2:Nat)%4294967296:Nat)).length,(B.set (m-1+(lim (b*2^s)).length:Nat) (((B.getD (m-1+(lim (b*2^s)).length:Nat) 0:Nat)+c2:Nat)%4294967296:Nat)).flatMap aZ⟩] (by simp only[KP]);exact ⟨_,⟨(H-1),sB zf,K,B.set (m-1+(lim (b*2^s)).length:Nat) (((B.getD (m-1+(lim (b*2^s)).length:Nat) 0:Nat)+c2:Nat)%4294967296:Nat),yb,rfl,e.to _ _,hDl,hDw,hDg,hDu,hDe⟩,V.to _ (by simp only[KP];kernel_rfl)⟩
   have zv:=oT zi;refine lB 204 zi (ak (cK (cQ (kZ (cQ (cR 15 [] mixed e ar ?_))))));have cz:=W.get C;have b4:=hWb.get (m-1+C);refine eV 0 207 (mV c2) (eV 1 208 (qS rbA ((B).length) K) (eV 2 209 (iV ((m:Int)-1)) (eV 3 210 (nV C) (jy 4 211 (((m:Int)-1)+(C:Nat)) (m-1+C) ?_))));obtain ⟨zg,zx⟩:=e.rowA 0 (A:=rbA) (c:=K) (m:=(B).length) (ty:=139) (sz:=1) (cs:=(B).flatMap aZ) oM;subst zx;refine eX 5 212 (sB zg) ((B).length) K 1 (m-1+C:Nat) (m-1+C) rfl (FM (ty:=139) (sz:=1) (c:=K) (m:=(B).length) (b:=zg) (cs:=(B).flatMap aZ) 6 213 0 (mW (B.getD (m-1+C) 0)) (aZ (B.getD (m-1+C) 0)) e (fC (f:=aZ) (sz:=1) (fun _=>rfl) 0 B (m-1+C) oM) (eV 7 214 (mV (B.getD (m-1+C) 0)) ?_ (hv:=fun _=>rU (((B.getD (m-1+C) 0:Nat):Int)) kR (ba oM oM))));refine eV 8 215 (mV (c2+(B.getD (m-1+C) 0))) ?_ (hv:=fun _=>rU (((c2:Int)+((B.getD (m-1+C) 0:Nat):Int))) kR (dD c2 (B.getD (m-1+C) 0) oM));refine eV 9 216 (qS Q ((lim (b*2^s)).length) X) (eV 10 217 (nV C) (eX 11 218 Q ((lim (b*2^s)).length) X 1 (C:Nat) C ((e.f.q.1).ok oM) (eH 12 219 (mW ((lim (b*2^s)).getD C 0)) e ((e.f.q.1).el C oM) (eV 13 220 (mV ((lim (b*2^s)).getD C 0)) ?_ (hv:=fun _=>rU ((((lim (b*2^s)).getD C 0:Nat):Int)) kR (ba oM oM))))));refine eV 14 221 (mV ((c2+(B.getD (m-1+C) 0):Nat)+((lim (b*2^s)).getD C 0:Nat))) ?_ (hv:=fun _=>rU ((((c2+(B.getD (m-1+C) 0):Nat):Int)+(((lim (b*2^s)).getD C 0:Nat):Int))) kR (dD (c2+(B.getD (m-1+C) 0):Nat) ((lim (b*2^s)).getD C 0:Nat) oM));refine ck e (fun _ yc e=>tV 15 19 (mV ((c2+(B.getD (m-1+C) 0):Nat)+((lim (b*2^s)).getD C 0:Nat))) (th (lL e [.m 222 10,.m 223 15,.m 224 24] (bD 225 (((m:Int)-1)+(C:Nat)) (m-1+C) ?_))));refine lL e [.m 226 19] (lV 227 (mW (((c2+(B.getD (m-1+C) 0):Nat)+((lim (b*2^s)).getD C 0:Nat):Nat)%4294967296)) ?_ (hr:=rT ((((c2+(B.getD (m-1+C) 0):Nat)+((lim (b*2^s)).getD C 0:Nat):Nat):Int)) kR (f4 _)));refine lX 228 (sB zg) ((B).length) K 1 (m-1+C:Nat) (m-1+C) rfl (EZ (ty:=139) (c:=K) (b:=zg) 0 (m-1+C) 0 ([mW (((c2+(B.getD (m-1+C) 0):Nat)+((lim (b*2^s)).getD C 0:Nat):Nat)%4294967296)]) B aZ 1 0 (((c2+(B.getD (m-1+C) 0):Nat)+((lim (b*2^s)).getD C 0:Nat):Nat)%4294967296:Nat) e oM (fun _ e=>?_));replace e:=e.to [⟨za,139,(U).flatMap aZ⟩] [⟨139,1,sB zg,K,(B).length,(B.set (m-1+C) (((c2+(B.getD (m-1+C) 0):Nat)+((lim (b*2^s)).getD C 0:Nat):Nat)%4294967296:Nat)).flatMap aZ⟩];refine lN (kQ (lL e [.m 229 19] (lV 230 (mV (((c2+(B.getD (m-1+C) 0):Nat)+((lim (b*2^s)).getD C 0:Nat):Nat)/4294967296)) ?_ (hr:=aK (n:=K5 (((c2+(B.getD (m-1+C) 0):Nat)+((lim (b*2^s)).getD C 0:Nat):Nat):Int) 4294967296) kR (dN _ 4294967296)))));refine lL e [.m 19 230] (lN (kQ (lL e [.m 205 24] (bD 206 ((C:Nat)+1) (C+1) ?_))));refine lL e [.m 24 206] (lD ?_);intro a_ V;replace e:=e.rown [⟨139,1,sB zg,K,(B.set (m-1+C) (((c2+(B.getD (m-1+C) 0):Nat)+((lim (b*2^s)).getD C 0:Nat):Nat)%4294967296:Nat)).length,(B.set (m-1+C) (((c2+(B.getD (m-1+C) 0):Nat)+((lim (b*2^s)).getD C 0:Nat):Nat)%4294967296:Nat)).flatMap aZ⟩] (by simp only[KP]);refine ⟨_,_,?_,⟨C+1,sB zg,K,B.set (m-1+C) (((c2+(B.getD (m-1+C) 0):Nat)+((lim (b*2^s)).getD C 0:Nat):Nat)%4294967296:Nat),(((c2+(B.getD (m-1+C) 0):Nat)+((lim (b*2^s)).getD C 0:Nat):Nat)/4294967296:Nat),yc,rfl,rfl,e.to _ _,oM,(by rw[KP];exact hub),(hWb.set _ (A4 _ kD)),oM,(rJ oM bl (KO _ _ |>.trans oM)),(bn.set oM oM)⟩,V.to _ (by simp only[KP];kernel_rfl)⟩
   omega
  rintro _ _ ⟨gz,rzA,rzc,uz,yd,rfl,e,hDl,hDw,hDg,hDu,hDe⟩;refine kQ (lL e [.m 246 14,.m 247 15,.m 248 17] (lV 249 (mW gz) ?_ (hr:=rT ((gz:Int)) kR (nG oM oM))));refine lX 250 (sB za) (((lim (a*2^s)).length+2)-(lim (b*2^s)).length:Nat) (((lim (a*2^s)).length+2)-(lim (b*2^s)).length:Nat) 1 ((m:Int)-1) (m-1) rfl (lW 0 U aZ 1 (m-1) gz e oM (fun _ e=>?_));have zN:((U).set (m-1) gz).length=(((lim (a*2^s)).length+2)-(lim (b*2^s)).length:Nat):=by rw[KP];exact hql
  replace e:=e.to [⟨za,139,((U).set (m-1) gz).flatMap aZ⟩] [⟨139,1,rzA,rzc,(uz).length,(uz).flatMap aZ⟩];refine lN (kQ (lL e [.m 87 15] (lV 88 (iV (((m-1:Nat):Int)-1)) ?_ (hr:=rS ((((m:Int)-1)-1)) kR ((fX oM oM).trans oM)))));refine lL e [.m 15 88] (lD ?_);intro a_ V;refine ⟨_,_,?_,⟨m-1,rzA,rzc,uz,(U).set (m-1) gz,yd,rfl,rfl,e.to _ _,oM,hDl,hDw,zN,(hWq.set _ hDg),hDu,(Fz oM (hq0 _ oM) inv hDe),(fun k hk=>by rw[bF oM,MM oM];exact hq0 k oM)⟩,V.to _ kR⟩
  omega
 have zK:=oT zs;refine lB 144 zs (ak (cK (cQ (kZ (av ?_)))));have hgv:=wG hgl hvi;refine lL e [.m 147 19,.m 148 17,.m 149 9,.m 150 21] (lX 151 Q ((lim (b*2^s)).length) X 1 (i:Nat) i ((e.f.q.1).ok oM) ?_);refine lH 152 (mW ((lim (b*2^s)).getD i 0)) e ((e.f.q.1).el i oM) (lV 153 (mV ((lim (b*2^s)).getD i 0)) ?_ (hr:=rU ((((lim (b*2^s)).getD i 0:Nat):Int)) kR (ba oM oM)));refine lV 154 (mV (H*((lim (b*2^s)).getD i 0:Nat))) ?_ (hr:=rU (((H:Int)*(((lim (b*2^s)).getD i 0:Nat):Int))) kR (fT H ((lim (b*2^s)).getD i 0:Nat) oM));refine lV 155 (mV (F+(H*((lim (b*2^s)).getD i 0:Nat):Nat))) ?_ (hr:=rU (((F:Int)+((H*((lim (b*2^s)).getD i 0:Nat):Nat):Int))) kR (dD F (H*((lim (b*2^s)).getD i 0:Nat):Nat) oM));refine lL e [.m 19 155] (aI (lL e [.m 156 10,.m 157 15,.m 158 21] (bD 159 (((m:Int)-1)+(i:Nat)) (m-1+i) ?_)));obtain ⟨zc,zA⟩:=e.rowA 0 (A:=raA) (c:=I) (m:=(z).length) (ty:=139) (sz:=1) (cs:=(z).flatMap aZ) oM;subst zA;refine lX 160 (sB zc) ((z).length) I 1 (m-1+i:Nat) (m-1+i) rfl (Hy (ty:=139) (sz:=1) (c:=I) (m:=(z).length) (b:=zc) (cs:=(z).flatMap aZ) 161 0 (mW (z.getD (m-1+i) 0)) (aZ (z.getD (m-1+i) 0)) e (fC (f:=aZ) (sz:=1) (fun _=>rfl) 0 z (m-1+i) oM) (lV 162 (mV (z.getD (m-1+i) 0)) ?_ (hr:=rU (((z.getD (m-1+i) 0:Nat):Int)) kR (ba oM oM))));refine lL e [.m 163 19] (lV 164 (mV ((F+(H*((lim (b*2^s)).getD i 0:Nat):Nat):Nat)%4294967296)) ?_ (hr:=qf (t:=34) (u:=34) (x:=.tmp 163) (y:=.const (uV 4294967295)) (a:=(F+(H*((lim (b*2^s)).getD i 0:Nat):Nat):Nat)) (m:=4294967295) 32 kR kR kR oM kD _));refine lV 165 (mV (((z.getD (m-1+i) 0)+(18446744073709551616-((F+(H*((lim (b*2^s)).getD i 0:Nat):Nat):Nat)%4294967296:Nat)))%18446744073709551616)) ?_ (hr:=rU ((((z.getD (m-1+i) 0:Nat):Int)-(((F+(H*((lim (b*2^s)).getD i 0:Nat):Nat):Nat)%4294967296:Nat):Int))) kR (kc (z.getD (m-1+i) 0) ((F+(H*((lim (b*2^s)).getD i 0:Nat):Nat):Nat)%4294967296:Nat) oM));refine lL e [.m 166 20] (lV 167 (mV (((((z.getD (m-1+i) 0)+(18446744073709551616-((F+(H*((lim (b*2^s)).getD i 0:Nat):Nat):Nat)%4294967296:Nat)))%18446744073709551616:Nat)+(18446744073709551616-J))%18446744073709551616)) ?_ (hr:=rU ((((((z.getD (m-1+i) 0)+(18446744073709551616-((F+(H*((lim (b*2^s)).getD i 0:Nat):Nat):Nat)%4294967296:Nat)))%18446744073709551616:Nat):Int)-(J:Int))) kR (kc (((z.getD (m-1+i) 0)+(18446744073709551616-((F+(H*((lim (b*2^s)).getD i 0:Nat):Nat):Nat)%4294967296:Nat)))%18446744073709551616:Nat) J oM)));refine lL e [.m 22 167] (aI ?_);obtain ⟨hS1,hS2⟩:=vi (t:=(((((z.getD (m-1+i) 0)+(18446744073709551616-((F+(H*((lim (b*2^s)).getD i 0:Nat):Nat):Nat)%4294967296:Nat)))%18446744073709551616:Nat)+(18446744073709551616-J))%18446744073709551616:Nat)) (hWa.get (m-1+i)) (A4 ((F+(H*((lim (b*2^s)).getD i 0:Nat):Nat):Nat)) (show 0<4294967296 by decide)) hbo rfl;refine lL e [.m 168 10,.m 169 15,.m 170 21] (bD 171 (((m:Int)-1)+(i:Nat)) (m-1+i) ?_);refine lL e [.m 172 22] (lV 173 (mW ((((((z.getD (m-1+i) 0)+(18446744073709551616-((F+(H*((lim (b*2^s)).getD i 0:Nat):Nat):Nat)%4294967296:Nat)))%18446744073709551616:Nat)+(18446744073709551616-J))%18446744073709551616:Nat)%4294967296)) ?_ (hr:=rT (((((((z.getD (m-1+i) 0)+(18446744073709551616-((F+(H*((lim (b*2^s)).getD i 0:Nat):Nat):Nat)%4294967296:Nat)))%18446744073709551616:Nat)+(18446744073709551616-J))%18446744073709551616:Nat):Int)) kR (f4 _)));refine lX 174 (sB zc) ((z).length) I 1 (m-1+i:Nat) (m-1+i) rfl (EZ (ty:=139) (c:=I) (b:=zc) 0 (m-1+i) 0 ([mW ((((((z.getD (m-1+i) 0)+(18446744073709551616-((F+(H*((lim (b*2^s)).getD i 0:Nat):Nat):Nat)%4294967296:Nat)))%18446744073709551616:Nat)+(18446744073709551616-J))%18446744073709551616:Nat)%4294967296)]) z aZ 1 0 ((((((z.getD (m-1+i) 0)+(18446744073709551616-((F+(H*((lim (b*2^s)).getD i 0:Nat):Nat):Nat)%4294967296:Nat)))%18446744073709551616:Nat)+(18446744073709551616-J))%18446744073709551616:Nat)%4294967296:Nat) e oM (fun _ e=>?_));replace e:=e.to [⟨za,139,(U).flatMap aZ⟩] [⟨139,1,sB zc,I,(z).length,(z.set (m-1+i) ((((((z.getD (m-1+i) 0)+(18446744073709551616-((F+(H*((lim (b*2^s)).getD i 0:Nat):Nat):Nat)%4294967296:Nat)))%18446744073709551616:Nat)+(18446744073709551616-J))%18446744073709551616:Nat)%4294967296:Nat)).flatMap aZ⟩];refine lN (bH [(4,sZ),(5,sZ),(8,nV s),(9,qS Q ((lim (b*2^s)).length) X),(10,qS (sB zc) ((z).length) I),(11,nV ((lim (b*2^s)).length)),(12,mV ((lim (b*2^s)).getD (((lim (b*2^s)).length:Nat)-1:Nat) 0)),(13,mV ((lim (b*2^s)).getD (((lim (b*2^s)).length:Nat)-2:Nat) 0)),(14,qS (sB za) (((lim (a*2^s)).length+2)-(lim (b*2^s)).length:Nat) (((lim (a*2^s)).length+2)-(lim (b*2^s)).length:Nat)),(15,iV ((m:Int)-1)),(17,mV H),(21,nV i),(19,mV (F+(H*((lim (b*2^s)).getD i 0:Nat):Nat))),(20,mV J),(22,mV (((((z.getD (m-1+i) 0)+(18446744073709551616-((F+(H*((lim (b*2^s)).getD i 0:Nat):Nat):Nat)%4294967296:Nat)))%18446744073709551616:Nat)+(18446744073709551616-J))%18446744073709551616))] ?_);refine aa e [.m 175 22] (lV 176 (mV ((((((z.getD (m-1+i) 0)+(18446744073709551616-((F+(H*((lim (b*2^s)).getD i 0:Nat):Nat):Nat)%4294967296:Nat)))%18446744073709551616:Nat)+(18446744073709551616-J))%18446744073709551616:Nat)/9223372036854775808)) ?_ (hr:=aK (n:=K5 ((((((z.getD (m-1+i) 0)+(18446744073709551616-((F+(H*((lim (b*2^s)).getD i 0:Nat):Nat):Nat)%4294967296:Nat)))%18446744073709551616:Nat)+(18446744073709551616-J))%18446744073709551616:Nat):Int) 9223372036854775808) kR (dN _ 9223372036854775808)));refine lL e [.m 20 176] (lN (kQ (lL e [.m 177 19] (lV 178 (mV ((F+(H*((lim (b*2^s)).getD i 0:Nat):Nat):Nat)/4294967296)) ?_ (hr:=aK (n:=K5 ((F+(H*((lim (b*2^s)).getD i 0:Nat):Nat):Nat):Int) 4294967296) kR (dN _ 4294967296))))));refine lL e [.m 19 178] (lN (kQ (lL e [.m 145 21] (bD 146 ((i:Nat)+1) (i+1) ?_))));refine lL e [.m 21 146] (lD ?_);intro a_ V;replace e:=e.rown [⟨139,1,sB zc,I,(z.set (m-1+i) ((((((z.getD (m-1+i) 0)+(18446744073709551616-((F+(H*((lim (b*2^s)).getD i 0:Nat):Nat):Nat)%4294967296:Nat)))%18446744073709551616:Nat)+(18446744073709551616-J))%18446744073709551616:Nat)%4294967296:Nat)).length,(z.set (m-1+i) ((((((z.getD (m-1+i) 0)+(18446744073709551616-((F+(H*((lim (b*2^s)).getD i 0:Nat):Nat):Nat)%4294967296:Nat)))%18446744073709551616:Nat)+(18446744073709551616-J))%18446744073709551616:Nat)%4294967296:Nat)).flatMap aZ⟩] (by simp only[KP]);refine ⟨_,_,?_,⟨i+1,sB zc,I,z.set (m-1+i) ((((((z.getD (m-1+i) 0)+(18446744073709551616-((F+(H*((lim (b*2^s)).getD i 0:Nat):Nat):Nat)%4294967296:Nat)))%18446744073709551616:Nat)+(18446744073709551616-J))%18446744073709551616:Nat)%4294967296:Nat),((F+(H*((lim (b*2^s)).getD i 0:Nat):Nat):Nat)/4294967296:Nat),((((((z.getD (m-1+i) 0)+(18446744073709551616-((F+(H*((lim (b*2^s)).getD i 0:Nat):Nat):Nat)%4294967296:Nat)))%18446744073709551616:Nat)+(18446744073709551616-J))%18446744073709551616:Nat)/9223372036854775808:Nat),zu,rfl,rfl,e.to _ _,oM,(by rw[KP];exact hua),(hWa.set _ (A4 _ kD)),oM,hS2,(sI (t:=((F+(H*((lim (b*2^s)).getD i 0:Nat):Nat):Nat))%4294967296) oM bk (KO _ _ |>.trans oM) oM),(bm.set oM oM)⟩,V.to _ (by simp only[KP];kernel_rfl)⟩
 omega
theorem nU (a:Nat)(A:Option Addr)(c:Nat)(j:(lim a).length≤c)(b:Nat)(D:Option Addr)(d:Nat)(l:(lim b).length≤d)(f:(lim a).length≤3000000000)(e:(lim b).length≤3000000000)(u:0<b)(w:World)(h:Hp)(g:G w h)(k:S3 A (lim a) h)(i:S3 D (lim b) h):CR 170 #[.slice A (lim a).length c,.slice D (lim b).length d] w h (fun v h1=>∃ p o,v=.tuple #[p,o]∧RN h1 p (a/b)∧RN h1 o (a%b)):=by
 have x:=bV.2 u
 rcases ep a b with h1|h1
 ·exact na a A c j b D d l f e h1 w h g k i
 ·rcases ep (lim b).length 2 with h2|h2
  ·exact lg a A c j b D d l f e h1 oM w h g k i
  ·exact oG a A c j b D d l f e h1 h2 _ rfl w h g k i
theorem iK (x y:Nat):La y (x%y)=La x y:=by rw[Lb y,←Nat.gcd_rec,Lb]
theorem Cj (a:Nat)(A:Option Addr)(c:Nat)(Y:(lim a).length≤c)(b:Nat)(D:Option Addr)(d:Nat)(hd:(lim b).length≤d)(I:(lim a).length≤3000000000)(H:(lim b).length≤3000000000)(w:World)(h:Hp)(g:G w h)(Z:S3 A (lim a) h)(V:S3 D (lim b) h):CR 169 #[.slice A ((lim a).length) c,.slice D ((lim b).length) d] w h (fun v h1=>RN h1 v (La a b)):=by
 have e:=(((sS g).aS Z).aS V);refine go Tryz.func169 [(0,qS A ((lim a).length) c),(1,qS D ((lim b).length) d)] rfl (aa e [.v 4 (sZ)] (ah (kZ ?_)));replace e:=e.aS e.f.1;replace e:=e.aS e.f.r.1;refine bH _ (CG.loop (fun B Γ w_=>∃ (x:Nat) (j:Option Addr) (c1:Nat) (y:Nat) (o:Option Addr) (c2:Nat) (F:Hp),B=y∧Γ=[(4,sZ),(0,qS j ((lim x).length) c1),(1,qS o ((lim y).length) c2)]∧SS w h w_ F [] [] [S3 j (lim x),S3 o (lim y),S3 D (lim b),S3 A (lim a)]∧(lim x).length≤c1∧(lim y).length≤c2∧(lim x).length≤3000000000∧(lim y).length≤3000000000∧La x y=La a b) _ ⟨a,A,c,b,D,d,h,rfl,rfl,e.to _ _,Y,hd,I,H,rfl⟩ ?_);rintro _ _ w1 ⟨x,j,c1,y,o,c2,h2,hm3,rfl,e,p,k,U,z,L⟩;refine cQ (aa e [.m 7 1,.v 8 (nV ((lim y).length))] ?_);cases i:(decide ((0:Int)<(((lim y).length:Nat):Int)))
 ·
  have l:=oF i;refine lB 9 i (af (CG.exit ?_))
  show CG _ _ _ _ _ _ _ _
  refine aa e [.m 18 0,.m 4 18] (lN (kX ?_));have C:y=0:=Nat.eq_zero_of_not_pos (fun F=>by have:=bV.2 F;omega);exact e.ret [] (qS j ((lim x).length) c1) (by rw[←L,C,Nat.gcd_zero_right];exact ⟨j,c1,rfl,p,e.f.1⟩)
 have l:=oT i;refine lB 9 i (ak (cK (kZ (aa e [.m 11 0,.m 12 1] (lC 13 e (nU x j c1 p y o c2 k oM oM (bV.1 oM) _ _ e.g e.f.1 e.f.2.1) ?_)))));rintro _ w5 M e ⟨_,_,rfl,⟨O,S,rfl,hcq,hq⟩,⟨K,J,rfl,u,hr⟩⟩;replace e:=e.aS hr;have Q:=A4 x (bV.1 (show 0<(lim y).length by omega));have W:=dg (show x%y≤y by omega);refine lL e [.m 10 13,.v 14 (qS O (lim (x/y)).length S),.v 15 (qS K ((lim (x%y)).length) J),.m 5 14,.m 6 15] (aI (lL e [.m 16 1,.m 0 16] (lN (kQ (lL e [.m 17 6,.m 1 17] (lD ?_))))));intro a_ X;replace e:=((e.tl.tl.tl.aS e.f.1).aS e.f.r.1);refine ⟨_,_,?_,⟨y,o,c2,x%y,K,J,M,rfl,rfl,e.to _ _,k,u,z,oM,(by rw[iK];exact L)⟩,X.to _ kR⟩
 omega
def am (x:Nat):List Value:=[.int .u64 (x:Nat)]
theorem wO {l:List Nat}{m:Nat}(h:0<m)(h0:l.getD (m-1) 0=0):tl l m=tl l (m-1):=by
 obtain ⟨k,rfl⟩:∃ k,m=k+1:=⟨m-1,by omega⟩;rw[kA,MN (by simpa using h0)];rfl
theorem o5 (s:ByteArray)(d:8≤s.size)(w:World)(h:Hp)(g:G w h):CV 128 #[.string s] w h (mV (wv s)):=by
 have c:=sS g;have o:=co s 0;have l:=co s 1;have D:=co s 2;have e:=co s 3;have p:=co s 4;have B:=co s 5;have f:=co s 6;have C:=co s 7;refine go Tryz.func128 [(0,.string s)] rfl (aa c [.v 2 (uV 0)] (ah (cR 38 [] mixed c ar ?_)));refine eV 0 3 (.string s) (eV 1 4 (.int .u8 (aG s 0:Nat)) ?_ (hv:=fun _=>ct (tx:=9) (x:=.tmp 3) (i:=.const (iV 0)) (k:=.i64) (s:=s) (n:=0) (j:=(0:Int)) kR kR kR kR oM oM _));refine eV 2 5 (mV (aG s 0)) ?_ (hv:=fun _=>rU (((aG s 0:Nat):Int)) kR (ba oM oM));refine eV 3 6 (.string s) (eV 4 7 (.int .u8 (aG s 1:Nat)) ?_ (hv:=fun _=>ct (tx:=9) (x:=.tmp 6) (i:=.const (iV 1)) (k:=.i64) (s:=s) (n:=1) (j:=(1:Int)) kR kR kR kR oM oM _));refine eV 5 8 (mV (aG s 1)) ?_ (hv:=fun _=>rU (((aG s 1:Nat):Int)) kR (ba oM oM));refine eV 6 9 (mV ((aG s 1)*256)) ?_ (hv:=fun _=>rU ((((aG s 1:Nat):Int)*256)) kR ((ba oM oM).trans oM));refine eV 7 10 (mV (aG s 0+aG s 1*256)) ?_ (hv:=fun _=>aK (gB (t:=34) (u:=34) (x:=.tmp 5) (y:=.tmp 9) (a:=(aG s 0)) (b:=((aG s 1)*256)) kR kR kR oM oM _) (by rw[f5 8 oM];first|done|omega));refine eV 8 11 (.string s) (eV 9 12 (.int .u8 (aG s 2:Nat)) ?_ (hv:=fun _=>ct (tx:=9) (x:=.tmp 11) (i:=.const (iV 2)) (k:=.i64) (s:=s) (n:=2) (j:=(2:Int)) kR kR kR kR oM oM _));refine eV 10 13 (mV (aG s 2)) ?_ (hv:=fun _=>rU (((aG s 2:Nat):Int)) kR (ba oM oM));refine eV 11 14 (mV ((aG s 2)*65536)) ?_ (hv:=fun _=>rU ((((aG s 2:Nat):Int)*65536)) kR ((ba oM oM).trans oM));refine eV 12 15 (mV (aG s 0+aG s 1*256+aG s 2*65536)) ?_ (hv:=fun _=>aK (gB (t:=34) (u:=34) (x:=.tmp 10) (y:=.tmp 14) (a:=(aG s 0+aG s 1*256)) (b:=((aG s 2)*65536)) kR kR kR oM oM _) (by rw[f5 16 oM];first|done|omega));refine eV 13 16 (.string s) (eV 14 17 (.int .u8 (aG s 3:Nat)) ?_ (hv:=fun _=>ct (tx:=9) (x:=.tmp 16) (i:=.const (iV 3)) (k:=.i64) (s:=s) (n:=3) (j:=(3:Int)) kR kR kR kR oM oM _));refine eV 15 18 (mV (aG s 3)) ?_ (hv:=fun _=>rU (((aG s 3:Nat):Int)) kR (ba oM oM));refine eV 16 19 (mV ((aG s 3)*16777216)) ?_ (hv:=fun _=>rU ((((aG s 3:Nat):Int)*16777216)) kR ((ba oM oM).trans oM));refine eV 17 20 (mV (aG s 0+aG s 1*256+aG s 2*65536+aG s 3*16777216)) ?_ (hv:=fun _=>aK (gB (t:=34) (u:=34) (x:=.tmp 15) (y:=.tmp 19) (a:=(aG s 0+aG s 1*256+aG s 2*65536)) (b:=((aG s 3)*16777216)) kR kR kR oM oM _) (by rw[f5 24 oM];first|done|omega));refine eV 18 21 (.string s) (eV 19 22 (.int .u8 (aG s 4:Nat)) ?_ (hv:=fun _=>ct (tx:=9) (x:=.tmp 21) (i:=.const (iV 4)) (k:=.i64) (s:=s) (n:=4) (j:=(4:Int)) kR kR kR kR oM oM _));refine eV 20 23 (mV (aG s 4)) ?_ (hv:=fun _=>rU (((aG s 4:Nat):Int)) kR (ba oM oM));refine eV 21 24 (mV ((aG s 4)*4294967296)) ?_ (hv:=fun _=>rU ((((aG s 4:Nat):Int)*4294967296)) kR ((ba oM oM).trans oM));refine eV 22 25 (mV (aG s 0+aG s 1*256+aG s 2*65536+aG s 3*16777216+aG s 4*4294967296)) ?_ (hv:=fun _=>aK (gB (t:=34) (u:=34) (x:=.tmp 20) (y:=.tmp 24) (a:=(aG s 0+aG s 1*256+aG s 2*65536+aG s 3*16777216)) (b:=((aG s 4)*4294967296)) kR kR kR oM oM _) (by rw[f5 32 oM];first|done|omega));refine eV 23 26 (.string s) (eV 24 27 (.int .u8 (aG s 5:Nat)) ?_ (hv:=fun _=>ct (tx:=9) (x:=.tmp 26) (i:=.const (iV 5)) (k:=.i64) (s:=s) (n:=5) (j:=(5:Int)) kR kR kR kR oM oM _));refine eV 25 28 (mV (aG s 5)) ?_ (hv:=fun _=>rU (((aG s 5:Nat):Int)) kR (ba oM oM));refine eV 26 29 (mV ((aG s 5)*1099511627776)) ?_ (hv:=fun _=>rU ((((aG s 5:Nat):Int)*1099511627776)) kR ((ba oM oM).trans oM));refine eV 27 30 (mV (aG s 0+aG s 1*256+aG s 2*65536+aG s 3*16777216+aG s 4*4294967296+aG s 5*1099511627776)) ?_ (hv:=fun _=>aK (gB (t:=34) (u:=34) (x:=.tmp 25) (y:=.tmp 29) (a:=(aG s 0+aG s 1*256+aG s 2*65536+aG s 3*16777216+aG s 4*4294967296)) (b:=((aG s 5)*1099511627776)) kR kR kR oM oM _) (by rw[f5 40 oM];first|done|omega));refine eV 28 31 (.string s) (eV 29 32 (.int .u8 (aG s 6:Nat)) ?_ (hv:=fun _=>ct (tx:=9) (x:=.tmp 31) (i:=.const (iV 6)) (k:=.i64) (s:=s) (n:=6) (j:=(6:Int)) kR kR kR kR oM oM _));refine eV 30 33 (mV (aG s 6)) ?_ (hv:=fun _=>rU (((aG s 6:Nat):Int)) kR (ba oM oM));refine eV 31 34 (mV ((aG s 6)*281474976710656)) ?_ (hv:=fun _=>rU ((((aG s 6:Nat):Int)*281474976710656)) kR ((ba oM oM).trans oM));refine eV 32 35 (mV (aG s 0+aG s 1*256+aG s 2*65536+aG s 3*16777216+aG s 4*4294967296+aG s 5*1099511627776+aG s 6*281474976710656)) ?_ (hv:=fun _=>aK (gB (t:=34) (u:=34) (x:=.tmp 30) (y:=.tmp 34) (a:=(aG s 0+aG s 1*256+aG s 2*65536+aG s 3*16777216+aG s 4*4294967296+aG s 5*1099511627776)) (b:=((aG s 6)*281474976710656)) kR kR kR oM oM _) (by rw[f5 48 oM];first|done|omega));refine eV 33 36 (.string s) (eV 34 37 (.int .u8 (aG s 7:Nat)) ?_ (hv:=fun _=>ct (tx:=9) (x:=.tmp 36) (i:=.const (iV 7)) (k:=.i64) (s:=s) (n:=7) (j:=(7:Int)) kR kR kR kR oM oM _));refine eV 35 38 (mV (aG s 7)) ?_ (hv:=fun _=>rU (((aG s 7:Nat):Int)) kR (ba oM oM));refine eV 36 39 (mV ((aG s 7)*72057594037927936)) ?_ (hv:=fun _=>rU ((((aG s 7:Nat):Int)*72057594037927936)) kR ((ba oM oM).trans oM));refine eV 37 40 (mV (aG s 0+aG s 1*256+aG s 2*65536+aG s 3*16777216+aG s 4*4294967296+aG s 5*1099511627776+aG s 6*281474976710656+aG s 7*72057594037927936)) ?_ (hv:=fun _=>aK (gB (t:=34) (u:=34) (x:=.tmp 35) (y:=.tmp 39) (a:=(aG s 0+aG s 1*256+aG s 2*65536+aG s 3*16777216+aG s 4*4294967296+aG s 5*1099511627776+aG s 6*281474976710656)) (b:=((aG s 7)*72057594037927936)) kR kR kR oM oM _) (by rw[f5 56 oM];first|done|omega));exact ck c (fun w1 z c=>tV 38 2 (mV (aG s 0+aG s 1*256+aG s 2*65536+aG s 3*16777216+aG s 4*4294967296+aG s 5*1099511627776+aG s 6*281474976710656+aG s 7*72057594037927936)) (tN (kX (c.ret [] (mV (aG s 0+aG s 1*256+aG s 2*65536+aG s 3*16777216+aG s 4*4294967296+aG s 5*1099511627776+aG s 6*281474976710656+aG s 7*72057594037927936)) rfl))))
end Go.Proofs.YtnflfcbfifhpaaaGreatDoor
