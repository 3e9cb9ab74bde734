/- Laws of this claim, part 2. -/
import Derived.Test.YthfkmhgnndmblaaGreatDoorQf0
set_option maxRecDepth 100000
set_option maxHeartbeats 4000000
namespace Go.Proofs.YthfkmhgnndmblaaGreatDoor
open _root_.Array renaming getElem?_append_left -> ta, getElem?_append_right -> z8, getElem?_eq_none -> ea, getElem?_push_size -> fo, getElem?_replicate -> Ab, getElem?_setIfInBounds_ne -> i2, getElem?_setIfInBounds_self_of_lt -> As, replicate -> s3
open Bool renaming and_eq_true -> i3, true_and -> Mx
open Int renaming fdiv -> Mw, toNat_natCast -> z6
open List renaming all_eq_true -> oi, drop_eq_getElem_cons -> Lx, drop_eq_nil_of_le -> Mq, eq_nil_of_length_eq_zero -> y6, eraseIdx_sublist -> A7, flatMap_cons -> wi, getD_cons_succ -> yY, getD_eq_getElem?_getD -> LM, getElem?_append_left -> uA, getElem?_append_right -> vj, getElem?_drop -> vi, getElem?_eq_none -> s9, getElem?_eq_some_iff -> Ml, getElem?_map -> L0, getElem?_range -> L1, getElem?_take_of_lt -> u9, getElem_eraseIdx -> Aw, getElem_mem -> gp, getElem_set_ne -> Bs, getElem_set_self -> Dw, length -> Mt, length_append -> y4, length_cons -> tq, length_drop -> LZ, length_eraseIdx_of_lt -> AS, length_set -> Mg, length_take -> Lu, map_cons -> Af, map_nil -> Mv, map_toArray -> Mu, mem_cons -> g2, mem_flatMap -> Mm, mem_iff_getElem -> ua, mem_map -> gx, mem_of_mem_eraseIdx -> A6, mem_range -> o0, pairwise_cons -> Mn, pairwise_iff_getElem -> A9, replicate -> zY, set_cons_zero -> Mr, take_length -> yz, take_of_length_le -> LU
open Nat renaming add_assoc -> v7, add_mul -> LS, add_mul_div_left -> LJ, add_mul_mod_self_left -> Mj, add_sub_cancel -> L8, add_zero -> wj, ble -> Mp, div_add_mod -> LX, div_div_eq_div_mul -> LL, div_eq_of_lt -> G3, div_eq_of_lt_le -> L9, div_lt_iff_lt_mul -> L7, div_mul_le_self -> L5, eq_zero_or_pos -> Au, gcd -> MC, gcd_comm -> MD, le_of_ble_eq_true -> D1, le_refl -> eb, le_trans -> ep, lt_div_mul_add -> L6, lt_of_le_of_lt -> Ga, lt_of_lt_of_le -> e4, lt_of_mul_lt_mul_left -> Mk, lt_or_ge -> dS, min_eq_left -> Lv, mod_add_div -> Mf, mod_eq_of_lt -> z1, mod_lt -> z2, mul_add -> Lr, mul_add_div -> Mi, mul_assoc -> Ls, mul_comm -> HA, mul_div_mul_right -> Mc, mul_le_mul -> Md, mul_le_mul_left -> LD, mul_le_mul_right -> y9, mul_lt_mul_of_pos_left -> LO, mul_lt_mul_of_pos_right -> Mb, mul_mod_mul_right -> Me, mul_pos -> Ma, mul_succ -> L3, mul_zero -> Lw, one_mul -> LW, pos_of_ne_zero -> L4, pow_add -> LC, pow_le_pow_right -> LA, pow_mul -> LH, pow_pos -> LK, pow_succ -> Hj, pow_zero -> MA, succ_pos -> MB, two_pow_add_eq_or_of_lt -> L2, two_pow_pos -> Lz, zero_add -> y8, zero_le -> My, zero_mod -> Mh, zero_mul -> y5
open Option renaming map_some -> tj
open Go.RowKit
theorem g8 {s t:ByteArray}(h:kf s t=true):s=t:=by
 have e:=eq_of_beq (show (s.toList == t.toList)=true from h);rw[Lib.toList_data,Lib.toList_data] at e
 cases s;cases t;congr 1;exact Array.toList_inj.1 e
theorem hJ {s t:ByteArray}(h:kf s t=false):¬s=t:=fun e=>by
 subst e;have:kf s s=true:=beq_self_eq_true _;rw[this] at h;cases h
theorem pj {s t:ByteArray}(h:lU s t=true):¬s=t:=hJ (by unfold lU at h;unfold kf;cases e:(s.toList == t.toList)<;>rw[e] at h<;>first|rfl|cases h)
theorem o6 {s t:ByteArray}(h:lU s t=false):s=t:=g8 (by unfold lU at h;unfold kf;cases e:(s.toList == t.toList)<;>rw[e] at h<;>first|rfl|cases h)
def wds (n:Nat):List Nat:=gX 18446744073709551616 n
def aA (l:List Nat):Nat:=ai 18446744073709551616 l
def Wd (l:List Nat):Prop:=Dg 18446744073709551616 l
theorem ay (n:Nat):aA (wds n)=n:=j0 kD n
theorem Wd.wds (n:Nat):Wd (wds n):=AO kD n
theorem Wd.get {l:List Nat}(h:Wd l)(k:Nat):l.getD k 0<18446744073709551616:=Dg.getD h kD k
theorem wM {p : Prop} (h : p := by first | omega | exact Wd.get (by assumption) _ | exact Ff _) : p := h
theorem oR (n k:Nat):(wds n).getD k 0<18446744073709551616:=(Wd.wds n).get k
def b8 (x:Nat):List UInt8:=(List.range 8).map (fun k=>UInt8.ofNat (x/256^k))
theorem kc (x:Nat):(b8 x).length=8:=rfl
theorem FB (m:Nat):b8 (m%18446744073709551616)=b8 m:=by
 unfold b8
 apply List.map_congr_left
 intro k hk;have a:k<8:=o0.1 hk
 apply UInt8.toNat_inj.1
 show (m%18446744073709551616/256^k)%256=(m/256^k)%256
 have:k=0\/k=1\/k=2\/k=3\/k=4\/k=5\/k=6\/k=7:=by omega
 rcases this with rfl|rfl|rfl|rfl|rfl|rfl|rfl|rfl<;>omega
theorem x6:∀ (f m:Nat),m<=f->wb f m=(gX 18446744073709551616 m).flatMap b8
  | 0,m,h=>by
    have:m=0:=by omega
    subst this;rfl
  | f+1,m,h=>by
    unfold wb
    split
    . rename_i h0;subst h0;rfl
    . rw[eM kD oM,wi,FB,x6 f _ oM];rfl
theorem DP (n:Nat):gX 18446744073709551616 (n/18446744073709551616)=(gX 18446744073709551616 n).drop 1:=by
 rcases Au n with h|h
 ·subst h;rfl
 ·conv=>rhs;rw[eM kD h]
  rfl
theorem oZ (n:Nat):(hi n).data.toList=((wds n).drop 1).flatMap b8:=by
 unfold hi wds
 rw[x6 _ _ oM,DP]
theorem n3 (l:List Nat):(l.flatMap b8).length=8*l.length:=by
 induction l with
 | nil=>rfl
 | cons x l ih=>rw[wi,y4,ih,kc,tq];omega
theorem iY (n:Nat):(hi n).size=8*((wds n).length-1):=by
 have:(hi n).size=(hi n).data.toList.length:=by rw[Array.length_toList];rfl
 rw[this,oZ,n3,LZ]
theorem n9:∀ (l:List Nat) (j k:Nat),j<l.length->k<8->(l.flatMap b8).getD (8*j+k) 0=(b8 (l.getD j 0)).getD k 0
  | [],j,k,hj,_=>by simp at hj
  | x::l,0,k,hj,hk=>by
    rw[wi]
    simp only[LM]
    rw[uA (by rw[kc];omega)]
    simp
  | x::l,j+1,k,hj,hk=>by
    rw[wi,yY,<-n9 l j k (by simpa using hj) hk]
    simp only[LM]
    rw[vj (by rw[kc];omega),kc]
    congr 2
    omega
theorem Hb (x k:Nat)(hk:k<8):((b8 x).getD k 0).toNat=x/256^k%256:=by
 unfold b8
 simp only[LM,L0,L1 hk]
 rfl
theorem F9 (n j k:Nat)(a:j+1<(wds n).length)(hk:k<8):aU (hi n) (8*j+k)=(wds n).getD (j+1) 0/256^k%256:=by
 unfold aU
 rw[oZ,n9 _ _ _ (by rw[LZ];omega) hk,Hb _ _ hk,bE,Nat.add_comm 1 j]
theorem Jw {s:ByteArray}{x:Nat}(a:x<18446744073709551616)(h:∀ k,k<8->aU s k=x/256^k%256):wv s=x:=by
 unfold wv
 rw[h 0 oM,h 1 oM,h 2 oM,h 3 oM,h 4 oM,h 5 oM,h 6 oM,h 7 oM]
 simp only[Nat.reducePow,Nat.div_one]
 omega
theorem jx (n j:Nat)(a:j+1<(wds n).length):wv ((hi n).extract (8*j) (hi n).size)=(wds n).getD (j+1) 0 :=
 Jw (oR n _) (fun k hk=>by rw[qE,F9 n j k a hk])
theorem fg {n:Nat}(h:n<18446744073709551616):hi n=⟨#[]⟩:=ll h
theorem de {n:Nat}(h:18446744073709551616<=n):2<=(wds n).length:=by
 rcases dS (wds n).length 2 with h1|h1
 ·have a:=jp (b:=18446744073709551616) kD n
  have:(18446744073709551616:Nat)^(gX 18446744073709551616 n).length<=18446744073709551616^1:=LA kD (by show (wds n).length<=1;omega)
  omega
 ·exact h1
theorem fE {n:Nat}(h:18446744073709551616<=n):(hi n).size≠0:=by rw[iY];have:=de h;omega
theorem kj {n:Nat}(h0:0<n)(h:n<18446744073709551616):wds n=[n]:=by
 unfold wds
 rw[eM kD h0,z1 h,G3 h,jO]
theorem mr:wds 0=[]:=rfl
theorem lg {n:Nat}:0<(wds n).length↔0<n:=oB kD
theorem sa (n:Nat):lo n=(((wds n).getD 0 0:Nat):Int):=by
 unfold lo wds
 rcases Au n with h|h
 ·subst h;rfl
 ·rw[eM kD h];rfl
theorem og {l:List Nat}(h:Wd l):wds (aA l)=l.take (tl l l.length):=HL kD h
theorem lj {n:Nat}(h:0<n):(wds n).getD ((wds n).length-1) 0≠0:=lZ kD n h
theorem Ix {n:Nat}{l:List UInt8}(h:l=((wds n).drop 1).flatMap b8):(⟨l.toArray⟩:ByteArray)=hi n:=by
 have:(hi n).data.toList=l:=by rw[oZ,h]
 cases e:hi n with
 | mk d=>rw[e] at this;rw[<-this]
theorem dJ (n:Nat):n<18446744073709551616^(wds n).length:=jp kD n
theorem dg {a b:Nat}(h:a<=b):(wds a).length<=(wds b).length:=gd kD (Ga h (dJ b))
theorem gN {a b:Nat}(k:Nat)(h:a<2^k):a ||| b*2^k=a+b*2^k:=by
 have:=L2 h b;rw[Nat.or_comm,HA b,<-this];omega
def bZ (a b:Nat):Int:=if a<b then -1 else if b<a then 1 else 0
theorem dZ {a b:Nat}(h:a<b):bZ a b = -1:=by simp[bZ,h]
theorem fK {a b:Nat}(h:b<a):bZ a b=1:=by unfold bZ;rw[if_neg oM,if_pos h]
theorem iy {a b:Nat}(h:a=b):bZ a b=0:=by unfold bZ;rw[if_neg oM,if_neg oM]
theorem fF {a b:Nat}(h:b<=a):bZ a b=0\/bZ a b=1:=by
 unfold bZ
 rw[if_neg oM]
 split<;>simp
theorem gF {a b:Nat}(h:(wds a).length<(wds b).length):a<b:=by
 rcases dS a b with hl|hl
 ·exact hl
 ·have:=dg hl;omega
theorem lw {a b k:Nat}(d:(wds a).length=(wds b).length)(hk:k<(wds a).length)(f:(wds a).drop (k+1)=(wds b).drop (k+1))(c:(wds a).getD k 0<(wds b).getD k 0):a<b:=by
 have h:=bP 18446744073709551616 (l:=wds a) (k:=k+1) oM;have i:=bP 18446744073709551616 (l:=wds b) (k:=k+1) oM;have e1:ai 18446744073709551616 (wds a)=a:=ay a;have e2:ai 18446744073709551616 (wds b)=b:=ay b;have j:=aN 18446744073709551616 (l:=wds a) (k:=k) hk;have p:=aN 18446744073709551616 (l:=wds b) (k:=k) oM;have e:=bM (Dg.take (Wd.wds a) k);rw[Lu,Lv oM] at e
 have o:18446744073709551616^k*(wds a).getD k 0+18446744073709551616^k<=18446744073709551616^k*(wds b).getD k 0:=by
  rw[<-L3];exact LD _ c
 rw[f] at h
 omega
theorem kV {a b k:Nat}(c:(wds a).length=(wds b).length)(hk:k<(wds a).length)(d:(wds a).drop (k+1)=(wds b).drop (k+1))(e:(wds a).getD k 0≠(wds b).getD k 0):bZ ((wds a).getD k 0) ((wds b).getD k 0)=bZ a b:=by
 rcases dS ((wds a).getD k 0) ((wds b).getD k 0) with h|h
 ·rw[dZ h,dZ (lw c hk d h)]
 ·rw[fK oM,fK (lw c.symm oM d.symm oM)]
theorem fO {l m:List Nat}{k:Nat}(c:l.length=m.length)(hk:k<l.length)(b:l.drop (k+1)=m.drop (k+1))(a:l.getD k 0=m.getD k 0):l.drop k=m.drop k:=by
 rw[Lx hk,Lx (l:=m) (i:=k) oM,b]
 simp[hk,show k<m.length by omega] at a
 rw[a]
theorem tZ (n:Nat):n%18446744073709551616=(wds n).getD 0 0:=Int.ofNat.inj (sa n)
theorem ot {a b:Nat}(c:(wds a).length=(wds b).length)(d:(wds a).drop 1=(wds b).drop 1):bZ (a%18446744073709551616) (b%18446744073709551616)=bZ a b:=by
  rw[tZ,tZ]
  by_cases h:(wds a).getD 0 0=(wds b).getD 0 0
  . have:a=b:=by
      rcases Au (wds a).length with h0|h0
      . have e1:=ay a
        have e2:=ay b;have f:wds a=[]:=y6 h0;have e:wds b=[]:=y6 oM;rw[f] at e1
        rw[e] at e2
        exact e1.symm.trans e2
      . have:=fO c h0 d h
        simp only[List.drop_zero] at this
        rw[<-ay a,<-ay b,this]
    rw[h,iy rfl,iy this]
  . refine kV c ?_ d h
    rcases Au (wds a).length with h0|h0
    . exfalso;apply h
      have e1:wds a=[]:=y6 h0;have e2:wds b=[]:=y6 oM;rw[e1,e2]
    . exact h0
theorem tA {n:Nat}(h:(wds n).length<=1):n<18446744073709551616:=by
 rcases dS n 18446744073709551616 with h1|h1
 ·exact h1
 ·have:=de h1;omega
theorem qQ {a b:Nat}(c:(wds a).length-1=(wds b).length-1)(d:(wds a).drop 1=(wds b).drop 1):bZ (a%18446744073709551616) (b%18446744073709551616)=bZ a b:=by
 rcases dS 1 (wds a).length with h|h
 ·exact ot oM d
 ·rw[z1 (tA h),z1 (tA oM)]
theorem AW {n:Nat}(h:0<n):nb n=64*((wds n).length-1)+nb ((wds n).getD ((wds n).length-1) 0):=by
 have b:=lg.2 h;have e:=aN 18446744073709551616 (l:=wds n) (k:=(wds n).length-1) oM;rw[show (wds n).length-1+1=(wds n).length by omega,yz] at e
 have e1:ai 18446744073709551616 (wds n)=n:=ay n;have a:=bM (Dg.take (Wd.wds n) ((wds n).length-1));rw[Lu,Lv oM] at a
 have e2:(18446744073709551616:Nat)^((wds n).length-1)=2^(64*((wds n).length-1)):=by rw[LH]
 rw[e1,e2] at e
 rw[e2] at a
 have:=xf a (L4 (lj h));rw[<-e] at this
 exact this
theorem js {n:Nat}(h:n<18446744073709551616):Value.agg #[.int .u64 (n:Int),.string ⟨#[]⟩]=nv n:=by unfold nv;rw[mS h,ll h]
theorem eE {n:Nat}:(wds n).length<=1↔n<18446744073709551616:=by
 constructor
 ·intro h
  rcases dS n 18446744073709551616 with h1|h1
  ·exact h1
  ·have:=de h1;omega
 ·intro h
  rcases Au n with h0|h0
  ·subst h0;simp[mr]
  ·rw[kj h0 h];simp
structure HalfQ (Y y1 y0 u u1 q r:Nat):Prop where
  e:q*y1+r=u
  lt:u*4294967296+u1<(q+1)*Y
  qb:q<=4294967297
theorem mD {Y y1 y0 u u1:Nat}(c:Y=y1*4294967296+y0)(h1:u1<4294967296)(hn:2147483648<=y1)(h0:y0<4294967296)(f:u<Y):HalfQ Y y1 y0 u u1 (u/y1) (u-u/y1*y1):=by
 have h:u/y1*y1<=u:=L5 u y1
 have d:u<(u/y1+1)*y1:=by
  have:=L6 (a:=u) (b:=y1) oM;rw[LS,LW];exact this
 refine ⟨by omega,?_,?_⟩
 ·have:(u/y1+1)*Y=(u/y1+1)*y1*4294967296+(u/y1+1)*y0:=by rw[c,Lr,Ls]
  omega
 ·have e:u/y1<4294967298:=by
   rw[L7 oM]
   omega
  omega
theorem np {u y1:Nat}(h:0<y1):u-u/y1*y1<y1:=by
 have:=L6 (a:=u) (b:=y1) h;have c:u/y1*y1<=u:=L5 u y1
 omega
theorem HalfQ.dec {Y y1 y0 u u1 q r:Nat}(h:HalfQ Y y1 y0 u u1 q r)(b:Y=y1*4294967296+y0)(h1:u1<4294967296)(c:u<Y)(a:4294967296<=q\/4294967296*r+u1<q*y0):HalfQ Y y1 y0 u u1 (q-1) (r+y1):=by
 have d:0<q:=by
  rcases a with h2|h2
  ·omega
  ·rcases Au q with h3|h3
   ·subst h3;omega
   ·exact h3
 obtain ⟨p,rfl⟩:∃ p,q=p+1:=⟨q-1,by omega⟩;have e:=h.e;rw[LS,LW] at e
 refine ⟨by rw[L8];omega,?_,by have:=h.qb;omega⟩;rw[L8]
 rcases a with h2|h2
 ·have:4294967296*Y<=(p+1)*Y:=y9 _ h2
  omega
 ·have:(p+1)*Y=(p+1)*y1*4294967296+(p+1)*y0:=by rw[b,Lr,Ls]
  rw[LS p 1 y1,LW] at this
  omega
theorem HalfQ.fin {Y y1 y0 u u1 q r:Nat}(h:HalfQ Y y1 y0 u u1 q r)(d:Y=y1*4294967296+y0)(f:¬4294967296*r+u1<q*y0):q=(u*4294967296+u1)/Y/\(u*4294967296+u1)-q*Y=(u*4294967296+u1)%Y/\q*Y<=u*4294967296+u1:=by
 have a:q*Y<=u*4294967296+u1:=by
  have:q*Y=q*y1*4294967296+q*y0:=by rw[d,Lr,Ls]
  have:=h.e
  omega
 have b:q=(u*4294967296+u1)/Y:=(L9 a h.lt).symm;have c:=LX (u*4294967296+u1) Y;rw[<-b,HA] at c
 exact ⟨b,by omega,a⟩
theorem HalfQ.brk {Y y1 y0 u u1 q r:Nat}(h:HalfQ Y y1 y0 u u1 q r)(b:Y=y1*4294967296+y0)(h0:y0<4294967296)(hr:4294967296<=r)(a:q<=4294967296):q=(u*4294967296+u1)/Y/\(u*4294967296+u1)-q*Y=(u*4294967296+u1)%Y/\q*Y<=u*4294967296+u1 :=
 h.fin b (by
  have:q*y0<=4294967296*y0:=y9 _ a
  omega)
theorem ku {A y s Y Q R:Nat}(b:Y=y*2^s)(c:A*2^s=Y*Q+R)(h:R<Y):A=y*Q+R/2^s/\R/2^s<y:=by
 have d:0<2^s:=Lz s;have e:y*Q*2^s=Y*Q:=by rw[b];ac_rfl
 have f:y*Q<=A:=by
  have:y*Q*2^s<=A*2^s:=by rw[c,e];omega
  exact Nat.le_of_mul_le_mul_right this d
 have a:R=(A-y*Q)*2^s:=by rw[Nat.sub_mul,c,e];omega
 rw[a,Nat.mul_div_cancel _ d];refine ⟨by omega,?_⟩;have:(A-y*Q)*2^s<y*2^s:=by rw[<-a,<-b];exact h
 exact Nat.lt_of_mul_lt_mul_right this
theorem vF {A y s a c Y u1 h o f l R:Nat}(b:Y=y*2^s)(p:A*2^s=a*18446744073709551616+c)(d:c=u1*4294967296+h)(j:0<y)
  (e1:o=(a*4294967296+u1)/Y)(e2:f=(a*4294967296+u1)%Y)(x:l=(f*4294967296+h)/Y)(i:R=(f*4294967296+h)%Y) :
  A=y*(o*4294967296+l)+R/2^s/\R/2^s<y:=by
 have e:0<Y:=by rw[b];exact Ma j (Lz s)
 have z:=LX (a*4294967296+u1) Y;have B:=LX (f*4294967296+h) Y;rw[<-e1,<-e2] at z
 rw[<-x,<-i] at B
 have u:R<Y:=by rw[i];exact z2 _ e
 refine ku b ?_ u;rw[p,d,Lr,<-Ls]
 clear e1 e2 x i p d u b e j
 omega
theorem uR {y:Nat}(h0:0<y)(h:y<18446744073709551616):9223372036854775808<=y*2^(64-nb y)/\y*2^(64-nb y)<18446744073709551616:=by
 obtain ⟨c,a,f⟩:=cB h0;have b:nb y<=64:=kL (k:=64) h
 have e1:(2:Nat)^(nb y-1)*2^(64-nb y)=9223372036854775808:=by
  rw[<-LC,show nb y-1+(64-nb y)=63 by omega]
 have e2:(2:Nat)^nb y*2^(64-nb y)=18446744073709551616:=by
  rw[<-LC,show nb y+(64-nb y)=64 by omega]
 have e:=y9 (2^(64-nb y)) c;have d:=Mb a (Lz (64-nb y))
 omega
theorem Cf {hi lo s:Nat}(c:s<=64)(b:lo<18446744073709551616):(hi*18446744073709551616+lo)*2^s=(hi*2^s+lo/2^(64-s))*18446744073709551616+lo*2^s%18446744073709551616/\lo/2^(64-s)<2^s:=by
 have e:(18446744073709551616:Nat)=2^(64-s)*2^s:=by rw[<-LC,show 64-s+s=64 by omega]
 have h1:lo*2^s/18446744073709551616=lo/2^(64-s):=by
  rw[e,Mc _ _ (Lz s)]
 have a:=LX (lo*2^s) 18446744073709551616;rw[h1] at a
 constructor
 ·rw[LS,LS]
  have:hi*18446744073709551616*2^s=hi*2^s*18446744073709551616:=by ac_rfl
  omega
 ·rw[L7 (Lz _),HA,<-e];exact b
theorem nU {a b q Y r:Nat}(h:q*Y<=a*4294967296+b)(hr:a*4294967296+b-q*Y=r)(c:r<18446744073709551616):((a*4294967296%18446744073709551616+b)%18446744073709551616+(18446744073709551616-q*Y%18446744073709551616))%18446744073709551616=r:=by
 generalize q*Y=m at *
 omega
theorem EI {a b:Nat}(ha:a<4294967296)(c:b<4294967296):a*b<18446744073709551616:=by
 have:a*b<=4294967295*4294967295:=Md oM oM
 omega
theorem dV {a b c:Nat}(h:c<a*b):0<a:=by
 rcases Au a with h0|h0
 ·rw[h0,y5] at h;omega
 ·exact h0
theorem qL {u u1 Y:Nat}(h:u<Y)(h1:u1<4294967296):(u*4294967296+u1)/Y<4294967296:=by
 rw[L7 oM];have:(u+1)*4294967296<=Y*4294967296:=y9 _ h
 omega
theorem Bk {p:Nat}(h:p<=64):(18446744073709551616:Nat)=2^(64-p)*2^p:=by rw[<-LC,show 64-p+p=64 by omega]
theorem Ad {x p o:Nat}(f:p<=64)(c:x<18446744073709551616)(d:o<2^p) :
  o ||| (x*2^p%18446744073709551616)=o+x*2^p%18446744073709551616/\o+x*2^p%18446744073709551616<18446744073709551616/\x*2^p%18446744073709551616+18446744073709551616*(x/2^(64-p))=x*2^p/\x/2^(64-p)<2^p:=by
 have e:=Bk f
 have b:x*2^p%18446744073709551616=x%2^(64-p)*2^p:=by
  conv=>lhs;rw[e]
  exact Me _ _ _
 have a:x%2^(64-p)<2^(64-p):=z2 _ (Lz _);refine ⟨by rw[b];exact gN p d,?_,?_,?_⟩
 ·rw[b]
  have:(x%2^(64-p)+1)*2^p<=2^(64-p)*2^p:=y9 _ a;rw[<-e,LS] at this
  omega
 ·have h1:x*2^p/18446744073709551616=x/2^(64-p):=by
   conv=>lhs;rw[e]
   exact Mc _ _ (Lz _)
  rw[<-h1];exact Mf _ _
 ·rw[L7 (Lz _),HA,<-e];exact c
theorem x3 {l w:List Nat}{i q p x o a c:Nat}(u:i+q+1<l.length)(hv:aA l=2^p*(18446744073709551616^q*ai 18446744073709551616 (w.take i)))(h0:l.getD (i+q+1) 0=0)(h:a+18446744073709551616*c=x*2^p)(e:x=w.getD i 0)(f:o=l.getD (i+q) 0) :
  aA ((l.set (i+q) (o+a)).set (i+q+1) c)=2^p*(18446744073709551616^q*ai 18446744073709551616 (w.take (i+1))):=by
 have d:=cI 18446744073709551616 (l:=l) (k:=i+q) (o+a) oM;have b:=cI 18446744073709551616 (l:=l.set (i+q) (o+a)) (k:=i+q+1) c (by rw[Mg];omega);rw[bC oM,if_neg oM,h0] at b
 rw[<-f] at d
 have j:2^p*(18446744073709551616^q*ai 18446744073709551616 (w.take (i+1)))=aA l+18446744073709551616^(i+q)*(x*2^p):=by
  rw[aF,hv,<-e,Lr,Lr,LC]
  congr 1
  ac_rfl
 rw[j,<-h];rw[Hj] at b
 show ai 18446744073709551616 _=ai 18446744073709551616 l+_
 simp only[Lr,<-Ls] at d b ⊢
 omega
theorem xZ (n:Nat):(2:Nat)^n=18446744073709551616^(n/64)*2^(n%64):=by
 have:n=64*(n/64)+n%64:=by omega
 conv=>lhs;rw[this,LC,LH]
theorem pM {x y p:Nat}(h:p<=64)(d:x<18446744073709551616) :
  (x/2^p) ||| (y*2^(64-p)%18446744073709551616)=x/2^p+y*2^(64-p)%18446744073709551616/\x/2^p+y*2^(64-p)%18446744073709551616<18446744073709551616/\2^p*(x/2^p+y*2^(64-p)%18446744073709551616)+x%2^p=x+18446744073709551616*(y%2^p):=by
 have e:=Bk h;have c:(18446744073709551616:Nat)=2^p*2^(64-p):=by rw[HA];exact e
 have b:y*2^(64-p)%18446744073709551616=y%2^p*2^(64-p):=by
  conv=>lhs;rw[c]
  exact Me _ _ _
 have f:x/2^p<2^(64-p):=by rw[L7 (Lz _),<-e];exact d
 have a:y%2^p<2^p:=z2 _ (Lz _);refine ⟨by rw[b];exact gN (64-p) f,?_,?_⟩
 ·rw[b]
  have:(y%2^p+1)*2^(64-p)<=2^p*2^(64-p):=y9 _ a;rw[<-c,LS] at this
  omega
 ·rw[b,Lr]
  have h1:=LX x (2^p);have i:2^p*(y%2^p*2^(64-p))=18446744073709551616*(y%2^p):=by rw[c];ac_rfl
  omega
theorem pV {l W:List Nat}{i p d a:Nat}(f:i<l.length)(inv:2^p*ai 18446744073709551616 l+a=ai 18446744073709551616 (W.take i)+18446744073709551616^i*(W.getD i 0%2^p))(h0:l.getD i 0=0)(b:2^p*d+W.getD i 0%2^p=W.getD i 0+18446744073709551616*(W.getD (i+1) 0%2^p)) :
  2^p*ai 18446744073709551616 (l.set i d)+a=ai 18446744073709551616 (W.take (i+1))+18446744073709551616^(i+1)*(W.getD (i+1) 0%2^p):=by
 have c:=cI 18446744073709551616 (l:=l) (k:=i) d f;rw[h0] at c
 rw[aF,Hj];have e1:18446744073709551616^i*(2^p*d+W.getD i 0%2^p)=18446744073709551616^i*(W.getD i 0+18446744073709551616*(W.getD (i+1) 0%2^p)):=by rw[b]
 have e2:ai 18446744073709551616 (l.set i d)=ai 18446744073709551616 l+18446744073709551616^i*d:=by omega
 rw[e2,Lr];have e:2^p*(18446744073709551616^i*d)=18446744073709551616^i*(2^p*d):=by ac_rfl
 rw[e]
 simp only[Lr,<-Ls] at e1 ⊢
 simp only[Ls] at e1 inv ⊢
 omega
theorem Dp {l W:List Nat}{p m:Nat}(b:W.length<=m)(inv:2^p*ai 18446744073709551616 l+W.getD 0 0%2^p=ai 18446744073709551616 (W.take m)+18446744073709551616^m*(W.getD m 0%2^p)):aA l=aA W/2^p:=by
 rw[LU b] at inv
 have h0:W.getD m 0=0:=by simp[s9 b]
 rw[h0,Mh,Lw,wj] at inv
 have a:=Lz p;have c:=z2 (W.getD 0 0) a
 show ai _ l=ai _ W/_
 rw[<-inv,Mi a,G3 c,wj]
theorem nH {w:List Nat}(b:Wd w){q:Nat}(a:q<=w.length):aA (w.drop q)=aA w/18446744073709551616^q:=by
 have e:=bP 18446744073709551616 a;have h1:=bM (Dg.take b q);rw[Lu,Lv a] at h1
 show ai _ _=ai _ w/_
 rw[e,LJ _ _ (LK kD),G3 h1,y8]
def ne (x:Nat):List Value:=[.int .u8 (x:Nat)]
theorem s8 {b:Nat}(a:0<b){l:List Nat}(h:Dg b l)(j:Nat):l.getD j 0=ai b l/b^j%b:=by
 rcases dS j l.length with hj|hj
 ·have h1:=bP b (l:=l) (k:=j) oM
  have d:=fT b (l:=l) (k:=j) hj;have c:=bM (Dg.take h j);rw[Lu,Lv oM] at c
  have e:0<b^j:=LK a;rw[h1,LJ _ _ e,G3 c,y8,d,Mj,z1 (h.getD a j)]
 ·rw[cn hj,G3,Mh]
  exact e4 (bM h) (LA a hj)
theorem xG {b:Nat}{l:List Nat}{k P:Nat}(hk:k<l.length)(d:0<b)(h:ai b l<b^k*P):l.getD k 0<P:=by
 have h1:=bP b (l:=l) (k:=k) oM;have c:=fT b (l:=l) (k:=k) hk;have f:0<b^k:=LK d;refine Mk (a:=b^k) ?_;have e:b^k*l.getD k 0<=b^k*ai b (l.drop k):=LD _ (by rw[c];omega)
 omega
theorem sw (k:Nat):(256:Nat)^k=18446744073709551616^(k/8)*2^(8*(k%8)):=by
 have:k=8*(k/8)+k%8:=by omega
 conv=>lhs;rw[this,LC,LH]
 rw[LH 2 8]
theorem q9 {l:List Nat}(a:Wd l)(k:Nat):l.getD (k/8) 0/2^(8*(k%8))%256=aA l/256^k%256:=by
 rw[s8 kD a (k/8),sw,<-LL]
 show _=ai 18446744073709551616 l/_/_%256
 generalize ai 18446744073709551616 l/18446744073709551616^(k/8)=y
 have:k%8=0\/k%8=1\/k%8=2\/k%8=3\/k%8=4\/k%8=5\/k%8=6\/k%8=7:=by omega
 rcases this with h|h|h|h|h|h|h|h<;>rw[h]<;>omega
theorem wn (n k:Nat):(wds n).getD (k/8) 0/2^(8*(k%8))%256=n/256^k%256:=by
 rw[q9 (Wd.wds n),ay]
theorem AM {b k:Nat}(a:b<256):b*2^(8*(k%8))<18446744073709551616:=by
 have:k%8=0\/k%8=1\/k%8=2\/k%8=3\/k%8=4\/k%8=5\/k%8=6\/k%8=7:=by omega
 rcases this with h|h|h|h|h|h|h|h<;>rw[h]<;>omega
theorem vq {a b k:Nat}(ha:a<2^(8*(k%8)))(c:b<256):a+b*2^(8*(k%8))<18446744073709551616:=by
 have:k%8=0\/k%8=1\/k%8=2\/k%8=3\/k%8=4\/k%8=5\/k%8=6\/k%8=7:=by omega
 rcases this with h|h|h|h|h|h|h|h<;>rw[h] at ha ⊢ <;> omega
theorem tG {l:List Nat}{n k x:Nat}(hk:k/8<l.length)(inv:aA l=n%256^k)(d:x=n/256^k%256) :
  (l.getD (k/8) 0 ||| x*2^(8*(k%8))%18446744073709551616)=l.getD (k/8) 0+x*2^(8*(k%8))/\l.getD (k/8) 0+x*2^(8*(k%8))<18446744073709551616 /\
  aA (l.set (k/8) (l.getD (k/8) 0+x*2^(8*(k%8))))=n%256^(k+1):=by
 have f:x<256:=by rw[d];exact z2 _ oM
 have a:aA l<256^k:=by rw[inv];exact z2 _ (LK oM)
 have c:l.getD (k/8) 0<2^(8*(k%8)):=xG (b:=18446744073709551616) hk kD (by rw[<-sw];exact a);refine ⟨?_,vq c f,?_⟩
 ·rw[z1 (AM f)];exact gN _ c
 ·have e:=cI 18446744073709551616 (l:=l) (k:=k/8) (l.getD (k/8) 0+x*2^(8*(k%8))) hk
  rw[AC,<-d,<-inv]
  show ai _ _=ai _ l+_
  have e2:256^k*x=18446744073709551616^(k/8)*(x*2^(8*(k%8))):=by rw[sw k];ac_rfl
  rw[Lr] at e
  rw[e2]
  omega
theorem xj (n:Nat):n<256^((nb n+7)/8):=by
 have h:=Io n;have e:(256:Nat)^((nb n+7)/8)=2^(8*((nb n+7)/8)):=by rw[LH]
 rw[e];exact e4 h (LA oM oM)
theorem mH (n:Nat):nb n<=64*(wds n).length:=by
 apply kL
 have:=dJ n
 rwa [show (18446744073709551616:Nat)=2^64 by rfl,<-LH] at this
theorem mR (n:Nat):(wds n).length=(nb n+63)/64:=by
 rcases Au n with h|h
 ·subst h;rfl
 ·have h1:=AW h
  have a:=lj h;have b:=oR n ((wds n).length-1);have e:=lg.2 h
  generalize (wds n).getD ((wds n).length-1) 0=t at *
  have c:=(cB (L4 a)).2.2;have d:nb t<=64:=kL (k:=64) b
  omega
def Nw (K:Nat)(h:Hp)(b:Nat)(t:TypeId)(cs:List Value):Prop:=K<=b/\t≠0/\h[b]?=some (.cells cs.toArray t (0,0))
theorem Nw.gw {K:Nat}{h d:Hp}{b:Nat}{t:TypeId}{cs:List Value}(x:Nw K h b t cs)(u:Gw h d):Nw K d b t cs:=by
 obtain ⟨h1,c,a⟩:=x;refine ⟨h1,c,?_⟩
 rcases u.blk b (aR a) with e|e
 ·exact e.trans a
 ·rw[e] at a
  injection a with a
  unfold be at a
  injection a with _ h4
  exact absurd h4.symm c
theorem Nw.mono {K a:Nat}{h:Hp}{b:Nat}{t:TypeId}{cs:List Value}(x:Nw a h b t cs)(k:K<=a):Nw K h b t cs:=⟨ep k x.1,x.2⟩
theorem Nw.seg {K:Nat}{h:Hp}{b:Nat}{t:TypeId}{cs sp:List Value}(x:Nw K h b t (cs++sp)):Seg h b 0 cs:=fun i v hv=>by
 unfold dP
 rw[x.2.2];have hi:i<cs.length:=(Ml.1 hv).1
 simp only[y8,List.getElem?_toArray]
 rw[uA hi];exact hv
theorem Nw.seg0 {K:Nat}{h:Hp}{b:Nat}{t:TypeId}{cs:List Value}(x:Nw K h b t cs):Seg h b 0 cs:=Nw.seg (sp:=[]) (by rw[List.append_nil];exact x)
section ss
variable {w0:World}{h0:Hp}{w:World}{h:Hp}{B:List Bx}{R:List Rw}{F:List (Hp->Prop)}
theorem SS.pubn (s:SS w0 h0 w h B R F)(j:Nat){ty:TypeId}{sz c:Nat}{A:Z9}{α:Type}{f:α->List Value}{l:List α}(U:0<l.length)(hr:R.getD j default=⟨ty,sz,A,c,l.length,l.flatMap f⟩:=by kernel_rfl)(V:decide (j<R.length)=true:=by kernel_rfl)(M:(ty == 0)=false:=by kernel_rfl) :
  ∃ W b sp,SS w0 h0 w W B (R.eraseIdx j) ((fun h=>Nw h0.size h b ty (l.flatMap f++sp))::F)/\A=some ⟨b,0,none⟩/\l.length<=c:=by
 have a:=oT V;have Q:R[j]=⟨ty,sz,A,c,l.length,l.flatMap f⟩:=by rw[<-hr];simp[a]
 have X:R[j]∈R:=gp a;have H:=s.ro _ X;rw[Q] at H
 have L:∀ r∈R.eraseIdx j,Apart r.v R[j].v:=by
  intro r hr;obtain ⟨i,hi,J⟩:=ua.1 hr;rw[Aw] at J
  have d:=A9.1 s.ap
  split at J
  ·rename_i S;rw[<-J];exact d i j oM a S
  ·rename_i S
   rw[<-J];have O:i+1<R.length:=by rw[AS a] at hi;omega
   exact (d j (i+1) a O oM).symm
 have z:ty≠0:=by simpa using M
 rcases H.own with ⟨h1,⟨e,e2⟩|⟨b,cap',cur,e,hbb,hg,hn,hm2,hs,ht⟩⟩
 ·simp only[] at e2;omega
 ·simp only[Rw.v] at e
  injection e with e1 e2 e3
  subst e1 e3;have y:=H.jk b rfl;have C:=aR y;have o:∀ x∈B,x.b≠b:=fun x I e=>H.ap b rfl (gx.2 ⟨x,I,e⟩)
  have gw:Gw h (h.setIfInBounds b (.cells cur ty)):=⟨by simp,fun c K=>by
   by_cases e:b=c
   ·subst e;exact .inr y
   ·left;rw[i2 e]⟩
  have D:cur.toList=l.flatMap f++cur.toList.drop (l.length*sz):=by
   simp only[] at ht
   rw[<-ht,List.take_append_drop]
  refine ⟨h.setIfInBounds b (.cells cur ty),b,cur.toList.drop (l.length*sz),⟨s.g0,⟨⟨s.st.up.ext,⟨by simp;exact s.st.up.gr.size,fun c K=>?_⟩,⟨by simp;exact s.st.up.g.size,fun c=>?_⟩⟩,s.st.own,?_,s.st.lo,s.st.nd⟩,?_,s.ap.sublist (A7 R j),?_,⟨hbb,z,?_⟩,s.f.gw s.mo gw⟩,rfl,hn⟩
  ·rw[i2 oM];exact s.st.up.gr.blk c K
  ·by_cases e:b=c
   ·subst e;left;rw[As C];exact hg.symm
   ·rw[i2 e];exact s.st.up.g.blk c
  ·intro x I
   rw[i2 (Ne.symm (o x I))];exact s.st.jk x I
  ·intro r hr
   refine (s.ro r (A6 hr)).pubo (u:=.slice (some ⟨b,0,none⟩) l.length c) (fun c' K=>?_) (by have:=L r hr;rw[Q] at this;exact this);rw[i2 (fun e=>K (by rw[<-e];rfl))]
  ·intro p d
   rcases g2.1 d with rfl|d
   ·exact fun _ _ u x=>x.gw u
   ·exact s.mo p d
  ·rw[<-D,As C]
end ss
theorem ni {vs cs:List Value}{o:Nat}(h:(vs.drop o).take cs.length=cs)(i:Nat)(v:Value)(hv:cs[i]?=some v):vs[o+i]?=some v:=by
 have hi:i<cs.length:=(Ml.1 hv).1;rw[<-h,u9 hi,vi] at hv
 exact hv
section laws
variable {M:Ms}{P:Program}{n:Nat}{N R:Po}{X:Nat->Po}{ops:Array Oper}{k k0:Nat}{hr:Hp}{AL:List Al}{L:Array Bool}{Γ:cl}{w:World}{h:Hp}{w0:World}{h0:Hp}{B:List Bx}{Rs:List Rw}{F:List (Hp->Prop)}
theorem ko:∀ (cs vs:List Value) (o:Nat),(bY vs o cs).length=vs.length
 | [],_,_=>rfl
 | c::cs,vs,o=>by show (bY (vs.set o c) (o+1) cs).length=_;rw[ko,Mg]
theorem SlO.flat {α:Type}{sz:Nat}{f:α->List Value}{d:α}{A:Z9}:∀ {l:List α},(∀ x,(f x).length=sz)->SlO sz f d h A l->Seg h (aB A) (aO A) (l.flatMap f)
  | l,hf,s=>fun i v hv=>by
    have hi:i<(l.flatMap f).length:=(Ml.1 hv).1;rw[bX hf] at hi
    rcases Au sz with h0'|hp
    . subst h0';simp at hi
    . have hk:i/sz<l.length:=(L7 hp).2 hi
      have hr:i%sz<sz:=z2 _ hp;have c:=s.el (i/sz) hk (i%sz) v;have b:=fS hf d l (i/sz) hk;have a:i/sz*sz+i%sz=i:=by rw[HA];exact LX i sz
      have:=c (by rw[<-b,u9 hr,vi,a];exact hv)
      rwa [v7,a] at this
theorem gT {b o:Nat}{news:List Value}(g:G w h)(c:Seg h b o news):∀ j u,news[j]?=some u->w.cell? ((⟨b,o,none⟩:Addr).add j)=some u:=by
 intro j u a;have:=jY g (c j u a)
 unfold Addr.add
 split
 ·rename_i h0;subst h0;exact this
 ·exact this
theorem qg {α:Type}{f:α->List Value}{l m:List α}:l.flatMap f++m.flatMap f=(l++m).flatMap f:=by simp
theorem KW {α:Type}(t j:Nat)(ty:TypeId)(sz c:Nat)(A:Z9)(l:List α)(f:α->List Value)(d:α)(C:Z9)(m:List α)(c2 y:Nat)(z:Value)(s:SS w0 h0 w h B Rs F)(so:SlO sz f d h C m)(o:0<m.length)
  (H:∀ e c' w' p,SS w0 h0 w' p B (Rs.set j ⟨ty,sz,e,c',(l++m).length,(l++m).flatMap f⟩) F->LG P n N R X ops (k+1) ((t,.slice e (l++m).length c')::Γ) w')
  (M:cL ops Γ k t n=true:=by kernel_rfl)(I:pr P (ev Γ) (ak ops k)=some (.slice A l.length c,.slice C m.length c2,ty,z,sz,y):=by kernel_rfl)(hf:∀ x,(f x).length=sz:=by intro _;rfl)(h1:∀ x,(f x).all (·.oneCell')=true:=by intro _;kernel_rfl)(i:z.cells.size=sz:=by kernel_rfl)(a:0<sz:=by decide)
  (hr:Rs.getD j default=⟨ty,sz,A,c,l.length,l.flatMap f⟩:=by kernel_rfl)(L:decide (j<Rs.length)=true:=by kernel_rfl)(S:l.length+m.length<=1099511627776:=by omega)(K:(l.length+m.length)*y<=140737488355328:=by omega):LG P n N R X ops k Γ w:=by
 have b:=oT L;have Q:=so.ok o;rw[Q] at I
 refine Kj t j (m.flatMap f) s (gT s.g (so.flat hf)) (bX hf m) (fun u O=>?_) b (eL hr b) M I i a S K (fun e c' w' p D=>?_)
 ·obtain ⟨x,_,J⟩:=Mm.1 O
  exact (oi.1 (h1 x)) u J
 ·have e1:l.length+m.length=(l++m).length:=by simp
  rw[qg,e1] at D
  rw[e1];exact H e c' w' p D
theorem SS.newr {α:Type}{f:α->List Value}{l:List α}{sz:Nat}(s:SS w0 h0 w h B Rs F)(ty:TypeId)(hf:∀ x,(f x).length=sz)(i:l.length<=maxLen):SS w0 h0 (w.alloc (.cells (l.flatMap f).toArray ty (0,0))) (h.push be) B (⟨ty,sz,some ⟨w.heap.size,0,none⟩,l.length,l.length,l.flatMap f⟩::Rs) F:=by
  have u:Up w h (w.alloc (.cells (l.flatMap f).toArray ty (0,0))) (h.push be):=Up.allocAny s.g _ _ (.inr rfl);have c:=s.step u;refine ⟨c.g0,c.st,fun r hr=>?_,Mn.2 ⟨fun r hr=>?_,c.ap⟩,c.mo,c.f⟩
  . rcases g2.1 hr with rfl|hr
    . refine ⟨⟨bX hf l,.inr ⟨w.heap.size,l.length,(l.flatMap f).toArray,rfl,by rw[s.g.size];exact s.st.sz,?_,eb _,i,?_,?_⟩⟩,fun b a=>?_,fun b a i=>?_⟩
      . rw[heap_alloc];exact fo
      . simp[<-bX hf l]
      . show List.take (l.length*sz) (l.flatMap f)=_
        rw[<-bX hf l];exact yz
      . simp[Rw.v,Value.ownBlock] at a
        subst a;rw[s.g.size];exact fo
      . simp[Rw.v,Value.ownBlock] at a
        obtain ⟨x,j,e⟩:=gx.1 i;have:=(s.st.own x j).lt;have o:x.b=b:=e
        omega
    . exact c.ro r hr
  . intro b a d
    have:=jv (s.ro r hr).own d
    simp[Rw.v,Value.ownBlock] at a
    omega
theorem HO {α:Type}(t:Nat)(ty:TypeId)(sz:Nat)(f:α->List Value)(l:List α)(s:SS w0 h0 w h B Rs F)(H:∀ b w' h',SS w0 h0 w' h' B (⟨ty,sz,some ⟨b,0,none⟩,l.length,l.length,l.flatMap f⟩::Rs) F->LG P n N R X ops (k+1) ((t,.slice (some ⟨b,0,none⟩) l.length l.length)::Γ) w')(a:cL ops Γ k t n=true:=by kernel_rfl)
  (hr:(execOp (ev Γ) (ak ops k)).run P w=.ok (.value (.slice (some ⟨w.heap.size,0,none⟩) l.length l.length)) (w.alloc (.cells (l.flatMap f).toArray ty (0,0))):=by kernel_rfl)(hf:∀ x,(f x).length=sz:=by intro _;rfl)(c:Mp l.length 1000=true:=by kernel_rfl):LG P n N R X ops k Γ w :=
 LG.val t _ _ (bQ a).1 (bQ a).2 hr (H _ _ _ (s.newr ty hf (by have:=D1 c;unfold maxLen;omega)))
theorem nC (j o:Nat)(cs:List Value)(s:SS w0 h0 w h B Rs F)(H:∀ w',Put (av B j).b w w'->SS w0 h0 w' h (gl B j o cs) Rs F->LG P n N R X ops (k+1) Γ w')(c:cS ops Γ k=true:=by kernel_rfl)
  (a:(decide (j<B.length) && decide (o+cs.length<=(av B j).vs.length))=true:=by kernel_rfl)(e:dE P (execOp (ev Γ) (ak ops k))=some (.skip,lf (av B j).b o cs):=by kernel_rfl):LG P n N R X ops k Γ w :=
 LG.put j o cs s.st s.g0 (iu c).1 (iu c).2 a e (fun w' p d=>H w' p (s.put0 (oT (i3 _ _▸a).1) p d (mM (oT (i3 _ _▸a).1))))
theorem tX (i t:Nat)(A:Z9)(len a sz:Nat)(x:Int)(j:Nat)(d:A=some ⟨aB A,aO A,none⟩)(H:AG M P n N R X ops k0 (L.setIfInBounds i true) ((t,.pointer (some ⟨aB A,aO A+j*sz,none⟩))::Γ) w)(c:cT n ops k0 L Γ i t=true:=by kernel_rfl)(e:CD P (ev Γ) (ak ops i)=some (.slice A len a,.int .i64 x,sz):=by kernel_rfl)(hk:x=j:=by omega)(b:j<len:=by omega):AG M P n N R X ops k0 L Γ w :=
 T.val i t _ w (iA c).1 (iA c).2 (ik e d hk b w) H
theorem eK {α:Type}(i t:Nat)(ty:TypeId)(m sz y:Nat)(z:Value)(f:α->List Value)(d:α)(s:SS w0 h0 w h B Rs F)(H:∀ b w' h',SS w0 h0 w' h' (⟨b,ty,(zY m d).flatMap f⟩::B) Rs F->EG M P n N R X ops k0 hr AL (L.setIfInBounds i true) ((t,.slice (some ⟨b,0,none⟩) m m)::Γ) w' h')(C:EV n ops k0 AL L Γ i t=true:=by kernel_rfl)
  (D:JT P (ev Γ) (ak ops i)=some (.int .i64 (m:Int),.int .i64 (m:Int),ty,z,sz,y):=by kernel_rfl)(p:z.cells.toList=f d:=by kernel_rfl)(j:z.cells.size=sz:=by kernel_rfl)(c:0<sz:=by decide)(I:y*m<=140737488355328:=by omega)(o:m<9223372036854775808:=by omega):EG M P n N R X ops k0 hr AL L Γ w h :=
 Rg.event i t (ji C).1 (ji C).2 (fun w1 h1 u=>by
  have a:=s.step u;have e:Up w1 h1 (w1.alloc (.cells ((zY m d).flatMap f).toArray ty (0,0))) (h1.push be):=Up.allocAny a.g _ _ (.inr rfl);refine .inl ⟨_,_,_,tI D p j c I o w1,e.m M.l,H _ _ _ (a.new e (by rw[a.g.size];exact eb _) (St.new1 (x:=⟨0,0,.cells ((zY m d).flatMap f).toArray ty (0,0)⟩) a.st (a.st.step e) ⟨?_,?_,?_⟩ ty _ rfl))⟩
  ·rw[heap_alloc];exact fo
  ·rw[a.g.size];exact fo
  ·show h1.size<=w1.heap.size;rw[a.g.size];exact eb _)
theorem SS.blkp {F1:List (Hp->Prop)}{wr:World}{x:Al}{b:Nat}(a:List Bx)(j:SS w0 h0 wr hr B Rs F1)(s:SS w0 h0 w h (a++B) Rs F)(k:Blk hr w h (x,b))(t:TypeId)(vs:List Value)(p:x.o=.cells vs.toArray t (0,0))(z:a.all (fun y=>y.t != t)=true):SS w0 h0 w h (⟨b,t,vs⟩::(a++B)) Rs F :=
 ⟨s.g0,St.new j.st s.st (fun y d=>by
  rcases List.mem_append.1 d with d|d
  ·right
   intro e;have h1:=s.st.own y (List.mem_append_left _ d);have l:w.heap[b]?=some x.o:=k.1
   unfold Own at h1
   rw[e,l,p] at h1
   injection h1 with h1
   injection h1 with _ h3
   have:=(oi.1 z) y d
   simp only[bne_iff_ne,ne_eq] at this
   exact this h3.symm
  ·exact .inl (aR (j.st.jk y d))) k t vs p,fun r i=>(s.ro r i).new b (fun c u e=>by
  have h1:=(j.ro r i).lt u;have l:hr.size<=b:=k.2.2
  omega),s.ap,s.mo,s.f⟩
theorem fL {F1:List (Hp->Prop)}{wr:World}{x:Al}(a:List Bx)(d:SS w0 h0 wr hr B Rs F1)(s:SS w0 h0 w h (a++B) Rs F)(t:TypeId)(vs:List Value)(H:∀ w' c b,SS w0 h0 w' c (⟨b,t,vs⟩::(a++B)) Rs F->AG M P n N R X ops k0 (L.setIfInBounds x.i true) ((x.t,.pointer (some ⟨b,0,none⟩))::Γ) w')(e:(gI ops [x] L && decide (x.t<n))=true:=by kernel_rfl)(f:x.o=.cells vs.toArray t (0,0):=by kernel_rfl)(j:a.all (fun y=>y.t != t)=true:=by kernel_rfl):EG M P n N R X ops k0 hr [x] L Γ w h :=
 Rg.fin1 e (fun w' c b u k=>H w' c b (SS.blkp a d (s.step u) k t vs f j))
end laws
theorem SS.at_ {w:World}{h:Hp}{rb:Nat}{t:TypeId}{vs:List Value}(g:G w h)(o:Own w rb t vs)(j:h[rb]?=some be):∃ w0 h0,SS w0 h0 w h [⟨rb,t,vs⟩] [] []:=by
 obtain ⟨w0,h0,b,c⟩:=St.at_ g o j;exact ⟨w0,h0,b,c,fun _ a=>(by cases a),.nil,fun _ a=>(by cases a),trivial⟩
theorem SlO.take {α:Type}{sz:Nat}{f:α->List Value}{d:α}{h:Hp}{A:Z9}{l:List α}(s:SlO sz f d h A l)(k:Nat):SlO sz f d h A (l.take k) :=
 ⟨fun a=>s.ok (by rw[Lu] at a;omega),fun i hi=>by
  rw[Lu] at hi
  have:=s.el i oM
  rwa [LM,u9 oM,<-LM]⟩
theorem SlO.drop {α:Type}{sz:Nat}{f:α->List Value}{d:α}{h:Hp}{A:Z9}{l:List α}(s:SlO sz f d h A l)(k c:Nat)(j:l.length<=c):SlO sz f d h (if c=k then A else A.map (·.add (k*sz))) (l.drop k):=by
 rcases dS k l.length with hk|hk
 ·rw[if_neg oM]
  have b:=s.ok oM
  have a:(⟨aB A,aO A,none⟩:Addr).add (k*sz)=⟨aB A,aO A+k*sz,none⟩:=by
   unfold Addr.add
   split
   ·rename_i h0;rw[h0];rfl
   ·rfl
  have e:A.map (·.add (k*sz))=some ⟨aB A,aO A+k*sz,none⟩:=by rw[b];simp only[tj,aB,aO] at a ⊢;rw[<-a]
  refine ⟨fun _=>by rw[e];rfl,fun i hi=>?_⟩;rw[e]
  show Seg h (aB A) (aO A+k*sz+i*sz) _
  rw[LZ] at hi
  have:=s.el (k+i) oM;rw[LS,<-v7] at this
  rwa [LM,vi,<-LM]
 ·rw[Mq hk];exact SlO.nil
section ss
variable {w0:World}{h0:Hp}{w:World}{h:Hp}{B:List Bx}{R:List Rw}{F:List (Hp->Prop)}
theorem SS.rowA (s:SS w0 h0 w h B R F)(j:Nat){ty:TypeId}{sz c m:Nat}{A:Z9}{cs:List Value}(d:0<m)(hr:R.getD j default=⟨ty,sz,A,c,m,cs⟩:=by kernel_rfl)(f:decide (j<R.length)=true:=by kernel_rfl):∃ b,A=some ⟨b,0,none⟩:=by
 have a:=oT f;have r:=s.ro _ (gp a);rw[eL hr a] at r
 rcases r.own with ⟨_,⟨_,e⟩|⟨b,cap,cur,e,_⟩⟩
 ·simp only[] at e;omega
 ·simp only[Rw.v] at e
  injection e with e
  exact ⟨b,e⟩
theorem SS.rowO (s:SS w0 h0 w h B R F)(j:Nat){ty:TypeId}{sz c m b:Nat}{cs:List Value}(hr:R.getD j default=⟨ty,sz,some ⟨b,0,none⟩,c,m,cs⟩)(a:j<R.length):∃ vs:List Value,Own w b ty vs/\vs.take (m*sz)=cs/\cs.length=m*sz/\h0.size<=b/\m<=c/\c<=maxLen/\vs.length=c*sz:=by
 have r:=s.ro _ (gp a);rw[eL hr a] at r
 rcases r.own with ⟨h1,⟨e,_⟩|⟨g,cap,cur,e,hb,hg,hn,hm,hs,ht⟩⟩
 ·simp[Rw.v] at e
 ·simp only[Rw.v] at e
  injection e with e1 e2 e3
  injection e1 with e1
  injection e1 with e1
  subst e1 e3;exact ⟨cur.toList,by simpa [Own] using hg,ht,h1,hb,hn,hm,by simpa using hs⟩
theorem xa {vs cs:List Value}{k i:Nat}{v:Value}(h:vs.take k=cs)(hv:cs[i]?=some v):vs[i]?=some v:=by
 have hi:i<cs.length:=(Ml.1 hv).1;rw[<-h] at hi
 rw[Lu] at hi
 rw[<-h,u9 oM] at hv
 exact hv
theorem m8:∀ (cs vs:List Value) (o k:Nat),o+cs.length<=k->(bY vs o cs).take k=bY (vs.take k) o cs
  | [],_,_,_,_=>rfl
  | c::cs,vs,o,k,h=>by
    show (bY (vs.set o c) (o+1) cs).take k=bY ((vs.take k).set o c) (o+1) cs
    rw[m8 cs _ _ _ (by simp only[tq] at h;omega),List.take_set]
theorem SS.rowput (s:SS w0 h0 w h B R F)(j:Nat){ty:TypeId}{sz c m b o:Nat}{cs l:List Value}{w':World}{vs:List Value}(hr:R.getD j default=⟨ty,sz,some ⟨b,0,none⟩,c,m,cs⟩)(y:j<R.length)(p:Put b w w')(X:Own w' b ty (bY vs o l))(hv:vs.take (m*sz)=cs)(L:vs.length=c*sz)(Z:o+l.length<=cs.length):SS w0 h0 w' h B (R.set j ⟨ty,sz,some ⟨b,0,none⟩,c,m,bY cs o l⟩) F:=by
  have D:=eL hr y;have r:=s.ro _ (gp y);rw[D] at r
  have K:=r.jk b rfl;obtain ⟨_,_,_,V,C,S,J,_⟩:=s.rowO j hr y;have M:∀ x∈B,x.b≠b:=fun x u e=>r.ap b rfl (gx.2 ⟨x,u,e⟩)
  have O:=A9.1 s.ap;refine ⟨s.g0,⟨s.st.up.put p K C s.g0.size,?_,s.st.jk,s.st.lo,s.st.nd⟩,?_,?_,s.mo,s.f⟩
  . intro x u
    show w'.heap[x.b]?=_
    rw[p.blk _ (M x u)];exact s.st.own x u
  . intro x u
    obtain ⟨i,hi,H⟩:=ua.1 u;have a:i<R.length:=by simpa using hi
    by_cases e:j=i
    . subst e
      simp only[Dw] at H
      rw[<-H];refine ⟨⟨?_,.inr ⟨b,c,(bY vs o l).toArray,rfl,C,X,S,J,by simp[ko,L],?_⟩⟩,r.jk,r.ap⟩
      . show (bY cs o l).length=m*sz;rw[ko];exact V
      . show (bY vs o l).take (m*sz)=bY cs o l
        rw[m8 _ _ _ _ oM,hv]
    . rw[Bs e] at H
      rw[<-H]
      have z:Apart R[i].v R[j].v:=by
        rcases Nat.lt_or_gt_of_ne e with hl'|hl'
        . exact (O j i y a hl').symm
        . exact O i j a y hl'
      rw[D] at z
      have I:=s.ro _ (gp a);exact ⟨eD I.own (fun d W=>p.blk d (fun Y=>z d W (by rw[Y];rfl))),I.jk,I.ap⟩
  . refine A9.2 (fun i k hi hk Q=>?_)
    have a:i<R.length:=by simpa using hi
    have U:k<R.length:=by simpa using hk
    have:=O i k a U Q
    by_cases e:j=i
    . subst e
      rw[Dw,Bs oM];rw[D] at this
      exact this
    . by_cases e2:j=k
      . subst e2
        rw[Dw,Bs oM];rw[D] at this
        exact this
      . rw[Bs e,Bs e2]
        exact this
theorem SS.rown (s:SS w0 h0 w h B R F)(R':List Rw)(e:R=R'):SS w0 h0 w h B R' F:=e▸s
end ss
theorem jA {α:Type}{f:α->List Value}{sz:Nat}(hf:∀ x,(f x).length=sz)(d:α){o:Nat}{cs:List Value}:∀ (l:List α) (k:Nat) (x:α),k<l.length->o+cs.length<=sz->bY (f (l.getD k d)) o cs=f x->bY (l.flatMap f) (k*sz+o) cs=(l.set k x).flatMap f
  | [],k,x,h,_,_=>by simp at h
  | y::l,0,x,h,ho,e=>by
    simp only[wi,y5,y8,Mr,List.getD_cons_zero] at e ⊢
    rw[<-e];exact putAt_left _ _ _ _ (by rw[hf];exact ho)
  | y::l,k+1,x,h,ho,e=>by
    simp only[wi,List.set_cons_succ,yY] at e ⊢
    rw[Nat.succ_mul,show k*sz+sz+o=(f y).length+(k*sz+o) by rw[hf];omega,fM,jA hf d l k x (by simpa using h) ho e]
where
  putAt_left:∀ (cs a b:List Value) (o:Nat),o+cs.length<=a.length->bY (a++b) o cs=bY a o cs++b
    | [],_,_,_,_=>rfl
    | c::cs,a,b,o,h=>by
      show bY ((a++b).set o c) (o+1) cs=bY (a.set o c) (o+1) cs++b
      simp only[tq] at h
      rw[List.set_append_left _ _ oM,putAt_left cs _ b _ (by rw[Mg];omega)]
section laws
variable {M:Ms}{P:Program}{n:Nat}{N R:Po}{X:Nat->Po}{ops:Array Oper}{k k0:Nat}{hr:Hp}{AL:List Al}{L:Array Bool}{Γ:cl}{w:World}{h:Hp}{w0:World}{h0:Hp}{B:List Bx}{Rs:List Rw}{F:List (Hp->Prop)}
theorem SS.rowrun {α:Type}{w':World}{d:Sem α}{r:α}(s:SS w0 h0 w h B Rs F)(j:Nat){ty:TypeId}{sz c m b o:Nat}{cs e:List Value}(p:Rs.getD j default=⟨ty,sz,some ⟨b,0,none⟩,c,m,cs⟩)(z:j<Rs.length)(f:(cs.drop o).take e.length=e)(x:Ext w w')(y:bS P d e=some (r,kF b o e.length)):d.run P w'=.ok r w':=by
 obtain ⟨vs,u,hv,_⟩:=s.rowO j p z;exact bR _ _ _ _ y (fun i a v ha l=>by rw[eZ _ _ _ _ _ ha,(u.ext x).cell];exact xa hv (ni f i v l))
theorem JM (t j:Nat)(v:Value)(a:List Value){ty:TypeId}{sz c m b o:Nat}{cs:List Value}(s:SS w0 h0 w h B Rs F)(e:(cs.drop o).take a.length=a)(H:LG P n N R X ops (k+1) ((t,v)::Γ) w)(d:Rs.getD j default=⟨ty,sz,some ⟨b,0,none⟩,c,m,cs⟩:=by kernel_rfl)(i:decide (j<Rs.length)=true:=by kernel_rfl)(f:cL ops Γ k t n=true:=by kernel_rfl)(l:bS P (execOp (ev Γ) (ak ops k)) a=some (.value v,kF b o a.length):=by kernel_rfl):LG P n N R X ops k Γ w :=
 LG.val t v w (bQ f).1 (bQ f).2 (s.rowrun j d (oT i) e (Ext.refl _) l) H
theorem K8 (j o:Nat)(a:List Value){ty:TypeId}{sz c m b:Nat}{cs:List Value}(s:SS w0 h0 w h B Rs F)(z:o+a.length<=cs.length)(H:∀ w',SS w0 h0 w' h B (Rs.set j ⟨ty,sz,some ⟨b,0,none⟩,c,m,bY cs o a⟩) F->LG P n N R X ops (k+1) Γ w')(e:Rs.getD j default=⟨ty,sz,some ⟨b,0,none⟩,c,m,cs⟩:=by kernel_rfl)(C:decide (j<Rs.length)=true:=by kernel_rfl)(u:cS ops Γ k=true:=by kernel_rfl)
  (y:dE P (execOp (ev Γ) (ak ops k))=some (.skip,lf b o a):=by kernel_rfl):LG P n N R X ops k Γ w:=by
 have f:=oT C;obtain ⟨vs,x,hv,J,_,I,_,i⟩:=s.rowO j e f
 have p:o+a.length<=vs.length:=by
  have:=congrArg Mt hv;rw[Lu] at this
  omega
 obtain ⟨w',d,D,l⟩:=fd _ _ o a vs w y x p;exact LG.store w' (iu u).1 (iu u).2 d (H w' (s.rowput j e f D l hv i z))
theorem Lc (i j o:Nat)(a:List Value){ty:TypeId}{sz c m b:Nat}{cs:List Value}(s:SS w0 h0 w h B Rs F)(I:o+a.length<=cs.length)(H:∀ w',SS w0 h0 w' h B (Rs.set j ⟨ty,sz,some ⟨b,0,none⟩,c,m,bY cs o a⟩) F->AG M P n N R X ops k0 (L.setIfInBounds i true) Γ w')(f:Rs.getD j default=⟨ty,sz,some ⟨b,0,none⟩,c,m,cs⟩:=by kernel_rfl)(J:decide (j<Rs.length)=true:=by kernel_rfl)
  (O:(g6 ops k0 L i && aY Γ (ak ops i) && ((ak ops i).dst == none))=true:=by kernel_rfl)(Q:bg ops Γ (ak ops i)=some true:=by kernel_rfl)
  (D:dE P (execOp (ev Γ) (ak ops i))=some (.skip,lf b o a):=by kernel_rfl)(hz:∀ K bs,M.z=some (K,bs)->K<=b\/b∈bs:=by intro _ _ e;cases e):AG M P n N R X ops k0 L Γ w:=by
 have l:=oT J;obtain ⟨vs,C,hv,U,_,S,_,p⟩:=s.rowO j f l
 have x:o+a.length<=vs.length:=by
  have:=congrArg Mt hv;rw[Lu] at this
  omega
 obtain ⟨w',d,y,u⟩:=fd _ _ o a vs w D C x;exact T.store i w' O Q d (y.tl hz) (H w' (s.rowput j f l y u hv p I))
theorem EO (i t j:Nat)(v:Value)(a:List Value){ty:TypeId}{sz c m b o:Nat}{cs:List Value}(s:SS w0 h0 w h B Rs F)(d:(cs.drop o).take a.length=a)(H:EG ⟨[],none⟩ P n N R X ops k0 hr AL (L.setIfInBounds i true) ((t,v)::Γ) w h)(e:Rs.getD j default=⟨ty,sz,some ⟨b,0,none⟩,c,m,cs⟩:=by kernel_rfl)(u:decide (j<Rs.length)=true:=by kernel_rfl)(f:B4 n ops k0 AL L Γ i t=true:=by kernel_rfl)(p:bS P (execOp (ev Γ) (ak ops i)) a=some (.value v,kF b o a.length):=by kernel_rfl):EG ⟨[],none⟩ P n N R X ops k0 hr AL L Γ w h :=
 Rg.load i t v (iH f).1 (iH f).2 (fun _ l=>s.rowrun j e (oT u) d l.ext p) H
end laws
theorem pQ (x y:Int):(if y>x then y else x)=max x y:=by omega
theorem fC (x y:Int):(if y<x then y else x)=min x y:=by omega
section z
variable {bs:List Nat}{P:Program}{n:Nat}{N R:Po}{X:Nat->Po}{ops:Array Oper}{k0:Nat}{hr:Hp}{AL:List Al}{L:Array Bool}{Γ:cl}{w wr:World}{h:Hp}{w0:World}{h0:Hp}{B:List Bx}{Rs:List Rw}{F F1:List (Hp->Prop)}
abbrev Mz (hr:Hp)(bs:List Nat):Ms:=⟨[],some (hr.size,bs)⟩
theorem Ci {id:Nat}{d:Bool}(k0:Nat)(AL:List Al)(bs:List Nat)(c:P.follows .mixedOrders=true)(s:SS w0 h0 w h B Rs F)(b:∀ x∈AL,AlOk P ops k0 x)(H:EG (Mz h bs) P n N R X ops k0 h AL (s3 ops.size false) Γ w h)(a:kU ops=true:=by kernel_rfl):CG P n N R X (.region id ops d) Γ w :=
 CG.region (Mz h bs) k0 AL c a s.g b (fun _ e=>by cases e) H
theorem Im (c:SS w0 h0 wr hr B Rs F1)(s:SS w0 h0 w h B Rs F){w':World}(d:∀ b,b<hr.size->b ∉ bs->b ∉ ([]:List Nat)->w'.heap[b]?=w.heap[b]?):∀ x∈B,x.b ∉ bs->Own w' x.b x.t x.vs:=fun x a e =>
 (d x.b (aR (c.st.jk x a)) e List.not_mem_nil).trans (s.st.own x a)
theorem By (i t:Nat)(ps:List (Nat × Nat × Nat))(v:Value)(c:SS w0 h0 wr hr B Rs F1)(s:SS w0 h0 w h B Rs F)(H:EG (Mz hr bs) P n N R X ops k0 hr AL (L.setIfInBounds i true) ((t,v)::Γ) w h)(hM:∀ p∈ps,(av B p.1).b ∉ bs:=by intro _ _;exact List.not_mem_nil)(a:cE n ops k0 AL L Γ i t=true:=by kernel_rfl)(e:cC B ps=true:=by kernel_rfl)(f:bS P (execOp (ev Γ) (ak ops i)) (dj B ps)=some (.value v,cc B ps):=by kernel_rfl):EG (Mz hr bs) P n N R X ops k0 hr AL L Γ w h :=
 Rg.loadZ i t v rfl (iJ a).1 (iJ a).2 (fun w' d=>bR _ _ _ _ f (gY hM (Im c s d) ps (fun _ h=>h) e)) H
theorem KY (i t:Nat)(v:Value){b o:Nat}{cs:List Value}(s:SS w0 h0 w h B Rs F)(e:Seg h b o cs)(j:b<hr.size)(H:EG (Mz hr bs) P n N R X ops k0 hr AL (L.setIfInBounds i true) ((t,v)::Γ) w h)(hM:b ∉ bs:=by exact List.not_mem_nil)(c:cE n ops k0 AL L Γ i t=true:=by kernel_rfl)(f:bS P (execOp (ev Γ) (ak ops i)) cs=some (.value v,kF b o cs.length):=by kernel_rfl):EG (Mz hr bs) P n N R X ops k0 hr AL L Γ w h :=
 Rg.loadZ i t v rfl (iJ c).1 (iJ c).2 (fun w' d=>bR _ _ _ _ f (fun q a u ha l=>by
  rw[eZ _ _ _ _ _ ha];have:=jY s.g (e q u l)
  unfold World.cell? at this ⊢
  rw[d b j hM List.not_mem_nil];exact this)) H
theorem Gq {x y:Al}(I:SS w0 h0 wr hr B Rs F)(s:SS w0 h0 w h B Rs F)(t:TypeId)(vs:List Value)(l:TypeId)(a:List Value)(H:∀ w' D b c,hr.size<=b->hr.size<=c->SS w0 h0 w' D (⟨b,t,vs⟩::⟨c,l,a⟩::B) Rs F->AG (Mz hr bs) P n N R X ops k0 ((L.setIfInBounds y.i true).setIfInBounds x.i true) ((x.t,.pointer (some ⟨b,0,none⟩))::(y.t,.pointer (some ⟨c,0,none⟩))::Γ) w')(M:(gI ops [x,y] L && decide (x.t<n) && decide (y.t<n) && (x.t != y.t) && (x.i != y.i))=true:=by kernel_rfl)(K:x.o=.cells vs.toArray t (0,0):=by kernel_rfl)(p:y.o=.cells a.toArray l (0,0):=by kernel_rfl):EG (Mz hr bs) P n N R X ops k0 hr [x,y] L Γ w h :=
 Rg.fin2 M (fun w' D b c u k k2 C=>H w' D b c k.2.2 k2.2.2 ⟨s.g0,St.new2 I.st (s.st.step u) k k2 C t vs K l a p,fun r j=>(((s.step u).ro r j).new c (fun d z e=>by
  have h1:=(I.ro r j).lt z;have J:hr.size<=c:=k2.2.2
  omega)).new b (fun d z e=>by
  have h1:=(I.ro r j).lt z;have J:hr.size<=b:=k.2.2
  omega),s.ap,s.mo,(s.step u).f⟩)
theorem iz {b:Nat}(c:hr.size<=b):∀ K a,(Mz hr bs).z=some (K,a)->K<=b\/b∈a:=fun K a e=>by
 injection e with e
 injection e with e1 e2
 subst e1;exact .inl c
theorem fi {b:Nat}(c:b∈bs):∀ K a,(Mz hr bs).z=some (K,a)->K<=b\/b∈a:=fun K a e=>by
 injection e with e
 injection e with e1 e2
 subst e2;exact .inr c
end z
theorem fw {α:Type}{f:α->List Value}{sz:Nat}(hf:∀ x,(f x).length=sz)(d:α)(l:List α)(k:Nat)(hk:k<l.length):((l.flatMap f).drop (0+k*sz)).take (f (l.getD k d)).length=f (l.getD k d):=by
 rw[y8,hf];exact fS hf d l k hk
section row
variable {P:Program}{n:Nat}{N R:Po}{X:Nat->Po}{ops:Array Oper}{k:Nat}{Γ:cl}{w:World}{h:Hp}{w0:World}{h0:Hp}{B:List Bx}{Rs:List Rw}{F:List (Hp->Prop)}
theorem Hh {α:Type}(j e i:Nat)(a:List Value)(l:List α)(f:α->List Value)(sz:Nat)(d x:α){ty:TypeId}{c b:Nat}(s:SS w0 h0 w h B Rs F)(hk:e<l.length)(H:∀ w',SS w0 h0 w' h B (Rs.set j ⟨ty,sz,some ⟨b,0,none⟩,c,l.length,(l.set e x).flatMap f⟩) F->LG P n N R X ops (k+1) Γ w')
  (y:bY (f (l.getD e d)) i a=f x:=by rfl)(hf:∀ x,(f x).length=sz:=by intro _;rfl)(z:Mp (i+a.length) sz=true:=by kernel_rfl)(o:Rs.getD j default=⟨ty,sz,some ⟨b,0,none⟩,c,l.length,l.flatMap f⟩:=by kernel_rfl)(D:decide (j<Rs.length)=true:=by kernel_rfl)(I:cS ops Γ k=true:=by kernel_rfl)
  (C:dE P (execOp (ev Γ) (ak ops k))=some (.skip,lf b (0+e*sz+i) a):=by kernel_rfl):LG P n N R X ops k Γ w:=by
 have p:=D1 z;refine K8 j (0+e*sz+i) a s ?_ (fun w' u=>H w' ?_) o D I C
 ·rw[bX hf,y8]
  have:(e+1)*sz<=l.length*sz:=y9 _ hk;rw[LS,LW] at this
  omega
 ·rw[y8,jA hf d l e x hk p y] at u
  exact u
end row
theorem qh {P:Program}(w:World)(t ty e:TypeId)(i:TypeInfo)(z:Value)(d:P.underlying t=some (.slice e))(hi:P.info? e=some i)(hz:i.zero=some z)(h a:Addr)(m c:Nat)(news:List Value)(f:news.length=m*i.size)(b:∀ j u,news[j]?=some u->w.cell? (a.add j)=some u)(p:0<m)(l:m<=1099511627776)(o:m*i.bytes<=140737488355328) :
  (Builtin.append_ #[t,t] ty #[.slice (some h) 0 0,.slice (some a) m c]).run P w=(Builtin.append_ #[t,t] ty #[.slice none 0 0,.slice (some a) m c]).run P w:=by
 rw[run_append_grow (P:=P) w t ty e i z d hi hz h 0 0 [] (by simp) (by simp) a m c news f b oM oM (growslice_fits oM (by simpa using o)),
  run_append_nil (P:=P) w t ty e i z d hi hz a m c news f b oM oM oM]
 simp
section app
variable {M:Ms}{P:Program}{n:Nat}{N R:Po}{X:Nat->Po}{ops:Array Oper}{k k0:Nat}{hr:Hp}{AL:List Al}{L:Array Bool}{Γ:cl}{w:World}{h:Hp}{w0:World}{h0:Hp}{B:List Bx}{Rs:List Rw}{F:List (Hp->Prop)}
theorem rp {o:Oper}{x y:Operand}{t e:TypeId}{z:Value}{sz p m2 c:Nat}{news:List Value}{L a:Addr}(V:o.op=.call { callee:=.builtin .append,args:=#[x,y],argTypes:=#[t,t] })
    (O:ev Γ x=.slice (some L) 0 0)(M:ev Γ y=.slice (some a) m2 c)(K:P.underlying t=some (.slice e))(hi:(P.info? e).map (fun i=>(i.zero,i.size,i.bytes))=some (some z,sz,p))(C:z.cells.size=sz)(l:0<sz)
    (s:St w0 h0 w h B)(H:news.length=m2*sz)(d:∀ j u,news[j]?=some u->w.cell? (a.add j)=some u)(h1:∀ u∈news,u.oneCell'=true)(D:0<m2)
    (W:m2<=1099511627776)(F:m2*p<=140737488355328) :
    ∃ v' w',(execOp (ev Γ) o).run P w=.ok (.value v') w'/\w'.ownsRow h0.size e sz v' (0+m2) ([]++news)/\w.grownBy w' (Value.slice none 0 0).ownBlock/\(v'.ownBlock=(Value.slice none 0 0).ownBlock\/v'.ownBlock=some w.heap.size):=by
  cases b:P.info? e with
  | none=>rw[b] at hi;cases hi
  | some inf =>
    rw[b] at hi
    simp only[tj,Option.some.injEq,Prod.mk.injEq] at hi
    obtain ⟨i1,I,J⟩:=hi;obtain ⟨v',w',f,S,U,X,Q⟩:=run_append_own_at (P:=P) w h0.size t o.type e inf z sz p K b i1 I J C l (.slice none 0 0) 0 [] (World.ownsRow_nil _ _ _ _) a m2 c news H d h1 (by unfold maxLen;omega) (by rw[y8];exact F) (by rw[s.g.size];exact s.sz);refine ⟨v',w',?_,S,U,Q⟩;rw[<-qh (P:=P) w t o.type e inf z K b i1 L a m2 c news (by rw[I];exact H) d D W (by rw[J];exact F)] at f
    unfold execOp
    simp only[V,resolve,invoke,builtin,Sem.run_bind,Sem.run_pure,Result.andThen_ok,Mu,Af,Mv,O,M,f]
theorem SS.appE (s:SS w0 h0 w h B Rs F){o:Oper}{ty:TypeId}{sz K c2 S:Nat}{z:Value}{α:Type}{f:α->List Value}{d:α}{L:Z9}{m:List α}(O:pr P (ev Γ) o=some (.slice (some ⟨S,0,none⟩) 0 0,.slice L m.length c2,ty,z,sz,K))(so:SlO sz f d h L m)(i:0<m.length)(h1:∀ x∈m,(f x).all (·.oneCell')=true)(hf:∀ x,(f x).length=sz)(H:z.cells.size=sz)(l:0<sz)(Y:m.length<=1099511627776)(V:m.length*K<=140737488355328) :
  ∃ p c' w' C,(execOp (ev Γ) o).run P w=.ok (.value (.slice p m.length c')) w'/\Up w h w' C/\SS w0 h0 w' C B (⟨ty,sz,p,c',m.length,m.flatMap f⟩::Rs) F:=by
 rw[so.ok i] at O
 obtain ⟨x',y,X,U,D,Q,I,hi⟩:=jE O
 obtain ⟨v',w',e,Z,a,b⟩:=rp (P:=P) U D Q I hi H l s.st (bX hf m) (gT s.g (so.flat hf)) (fun u I=>by
  obtain ⟨x,J,D⟩:=Mm.1 I;exact (oi.1 (h1 x J)) u D) i Y V
 obtain ⟨C,p,c',rfl,e2,M⟩:=(s.nil ty sz).grown (j:=0) (by simp) (w':=w') (v':=v') (m2:=m.length) (news:=m.flatMap f) Z a b;refine ⟨p,c',w',C,?_,⟨⟨a.os,a.tape,a.output,a.size,fun c W=>a.block c W (by simp[Value.ownBlock])⟩,e2,M.g⟩,?_⟩
 ·rw[e];simp
 ·simpa using M
theorem KZ {α:Type}(t:Nat)(ty:TypeId)(sz:Nat)(f:α->List Value)(d:α)(u:Nat)(o:Z9)(m:List α)(c2 l:Nat)(z:Value)(s:SS w0 h0 w h B Rs F)(so:SlO sz f d h o m)(i:0<m.length)(h1:∀ x∈m,(f x).all (·.oneCell')=true)
  (H:∀ c c' w' j,SS w0 h0 w' j B (⟨ty,sz,c,c',m.length,m.flatMap f⟩::Rs) F->LG P n N R X ops (k+1) ((t,.slice c m.length c')::Γ) w')
  (p:cL ops Γ k t n=true:=by kernel_rfl)(C:pr P (ev Γ) (ak ops k)=some (.slice (some ⟨u,0,none⟩) 0 0,.slice o m.length c2,ty,z,sz,l):=by kernel_rfl)(hf:∀ x,(f x).length=sz:=by intro _;rfl)(e:z.cells.size=sz:=by kernel_rfl)(b:0<sz:=by decide)(I:m.length<=1099511627776:=by omega)(D:m.length*l<=140737488355328:=by omega):LG P n N R X ops k Γ w:=by
 obtain ⟨c,c',w',j,a,_,y⟩:=s.appE (P:=P) C so i h1 hf e b I D;exact LG.val t _ w' (bQ p).1 (bQ p).2 a (H c c' w' j y)
end app
def az (x:Nat):List Value:=[.int .u32 (x:Nat)]
abbrev S3 (A:Z9)(l:List Nat):Hp->Prop:=fun h_=>SlO 1 az 0 h_ A l
theorem n5:∀ f n:Nat,qB f n=qU 4294967296 f n
  | 0,_=>rfl
  | f+1,n=>by
    unfold qB qU
    split
    . rfl
    . rw[n5 f]
theorem tQ (n:Nat):lim n=gX 4294967296 n:=n5 n n
def Ld (l:List Nat):Prop:=Dg 4294967296 l
theorem Ld.lim (n:Nat):Ld (lim n):=fun x a=>kb n x a
theorem Ld.get {l:List Nat}(h:Ld l)(k:Nat):l.getD k 0<4294967296:=Dg.getD h kD k
theorem Ld.set {l:List Nat}(h:Ld l)(k:Nat){x:Nat}(a:x<4294967296):Ld (l.set k x):=Dg.set h k a
theorem Ld.rep (n:Nat):Ld (zY n 0):=Dg.rep kD
theorem di (n:Nat):ai 4294967296 (lim n)=n:=by rw[<-kw];exact f5 n
theorem rV {l:List Nat}(h:Ld l){n:Nat}(e:ai 4294967296 l=n):lim n=l.take (tl l l.length):=by
 rw[<-e,<-kw];exact AU h
theorem mq {l:List Nat}(h:Ld l){n:Nat}(e:ai 4294967296 l=n):(lim n).length=tl l l.length:=by
 rw[rV h e,Lu];have:=iq l l.length;omega
theorem cG (n:Nat):n<4294967296^(lim n).length:=by rw[tQ];exact jp kD n
theorem dH {a b:Nat}(h:a<=b):(lim a).length<=(lim b).length:=ej (Ga h (cG b))
theorem gt {a b k:Nat}(h:a<=b)(c:(lim b).length<=k):(lim a).length<=k:=ep (dH h) c
theorem iG {a b k:Nat}(ha:(lim a).length<=k)(c:(lim b).length<=k):(lim (a+b)).length<=k+1:=by
 refine ej ?_;have h1:=cG a;have d:=cG b;have e:4294967296^(lim a).length<=4294967296^k:=LA kD ha;have f:4294967296^(lim b).length<=4294967296^k:=LA kD c;rw[Hj]
 omega
theorem gm {a b:Nat}:(lim (a*b)).length<=(lim a).length+(lim b).length:=by
 refine ej ?_;rw[LC];exact Nat.mul_lt_mul'' (cG a) (cG b)
theorem uB (n:Nat):(lim n).length<=2*(wds n).length:=by
 refine ej ?_;have:=dJ n
 rwa [show (18446744073709551616:Nat)=4294967296^2 by rfl,<-LH] at this
theorem C8 (n:Nat):(wds n).length<=(lim n).length:=by
 refine gd kD ?_;have:=cG n;exact e4 this (Nat.pow_le_pow_left kD _)
theorem gB {a b:Nat}(h:(lim a).length<(lim b).length):a<b:=by
 rcases dS a b with hl|hl
 ·exact hl
 ·have:=dH hl;omega
theorem CX {a b:Nat}(h:lim a=lim b):a=b:=by rw[<-f5 a,<-f5 b,h]
theorem g7 {a b k:Nat}(e:(lim a).length=(lim b).length)(hk:k<(lim a).length)(h:(lim a).drop (k+1)=(lim b).drop (k+1))(c:(lim a).getD k 0<(lim b).getD k 0):a<b:=by
 have d:=bP 4294967296 (l:=lim a) (k:=k+1) oM;have i:=bP 4294967296 (l:=lim b) (k:=k+1) oM;rw[di] at d i
 rw[h] at d
 have j:=aN 4294967296 (l:=lim a) (k:=k) hk;have p:=aN 4294967296 (l:=lim b) (k:=k) oM;have f:=bM (Dg.take (Ld.lim a) k);rw[Lu,Lv oM] at f
 have o:4294967296^k*(lim a).getD k 0+4294967296^k<=4294967296^k*(lim b).getD k 0:=by
  rw[<-L3];exact LD _ c
 omega
def RN (h:Hp)(v:Value)(n:Nat):Prop:=JR 1 az 0 h v (lim n)
def RI (h:Hp)(v:Value)(z:Int):Prop:=∃ A c,v=.agg #[.bool (af z),.slice A (lim (ab z)).length c]/\(lim (ab z)).length<=c/\SlO 1 az 0 h A (lim (ab z))
def RP (h:Hp)(v:Value)(z:Int)(n:Nat):Prop:=∃ A c B d,v=.agg #[.bool (af z),.slice A (lim (ab z)).length c,.slice B (lim n).length d]/\(lim (ab z)).length<=c/\(lim n).length<=d/\SlO 1 az 0 h A (lim (ab z))/\SlO 1 az 0 h B (lim n)
def RQ (h:Hp)(v:Value)(q:Rat):Prop:=RP h v q.num q.den
theorem RP.gw {h a:Hp}{v:Value}{z:Int}{n:Nat}(r:RP h v z n)(u:Gw h a):RP a v z n:=by
 obtain ⟨A,c,B,d,h1,e,f,i,b⟩:=r;exact ⟨A,c,B,d,h1,e,f,i.gw u,b.gw u⟩
theorem RQ.gw {h a:Hp}{v:Value}{q:Rat}(r:RQ h v q)(u:Gw h a):RQ a v q:=RP.gw r u
theorem RN.trim {h:Hp}{A:Z9}{l:List Nat}{n m a:Nat}(b:Ld l)(e:ai 4294967296 l=n)(c:l.length=m)(d:m<=a)(s:SlO 1 az 0 h A l):RN h (.slice A (tl l m) a) n:=by
 subst c;have e1:=mq b e;have:=iq l l.length;refine ⟨A,a,by rw[e1],by omega,?_⟩;rw[rV b e];exact s.take _
theorem s7 {h:Hp}{p b:Bool}{n a:Nat}{A:Z9}(e:b=(p && decide (0<n)))(d:(lim n).length<=a)(c:SlO 1 az 0 h A (lim n)):RI h (.agg #[.bool b,.slice A (lim n).length a]) (bB p n):=by
 subst e;refine ⟨A,a,?_,?_,?_⟩
 ·rw[jM,ft]
 ·rw[ft];exact d
 ·rw[ft];exact c
theorem Ed {l:List Nat}{m:Nat}(h:0<m)(h0:l.getD (m-1) 0=0):tl l m=tl l (m-1):=by
 obtain ⟨k,rfl⟩:∃ k,m=k+1:=⟨m-1,by omega⟩;rw[li,if_pos (by simpa using h0)];rfl
theorem BN {b:Nat}{z:List Nat}{i c c' s t X:Nat}(hi:i<z.length)(h0:z.getD i 0=0)(inv:ai b z+b^i*c=X)(e:s+b*c'=c+t):ai b (z.set i s)+b^(i+1)*c'=X+b^i*t:=by
 have h1:=cI b s hi;rw[h0,Lw,wj] at h1
 have e2:=congrArg (b^i * ·) e
 simp only[Lr] at e2
 rw[Hj,Ls,h1]
 omega
theorem tK {b:Nat}{z:List Nat}{c v:Nat}(inv:ai b z+b^z.length*c=v)(h:v<b^z.length):ai b z=v:=by
 rcases Au c with hc|hc
 ·subst hc;rw[Lw,wj] at inv;exact inv
 ·have:b^z.length*1<=b^z.length*c:=LD _ hc
  omega
theorem pH {l:List Nat}{k x:Nat}(hk:k<l.length)(h:∀ i,k<=i->l.getD i 0=0):∀ i,k+1<=i->(l.set k x).getD i 0=0:=fun i hi=>by rw[bC hk,if_neg oM];exact h i oM
theorem xJ {b:Nat}{z:List Nat}{x y c:Nat}(a:Dg b z)(inv:ai b z+y=x+b^z.length*c)(d:y<=x):ai b z=x-y:=by
 have h1:=bM a
 rcases Au c with hc|hc
 ·subst hc;rw[Lw,wj] at inv;omega
 ·have:b^z.length*1<=b^z.length*c:=LD _ hc
  omega
theorem CU {b:Nat}{z y x:List Nat}{i c c' s:Nat}(hi:i<z.length)(h0:z.getD i 0=0)(inv:ai b z+ai b (y.take i)=ai b (x.take i)+b^i*c)(e:s+y.getD i 0+c=x.getD i 0+b*c') :
  ai b (z.set i s)+ai b (y.take (i+1))=ai b (x.take (i+1))+b^(i+1)*c':=by
 have h1:=cI b s hi;rw[h0,Lw,wj] at h1
 have e2:=congrArg (b^i * ·) e
 simp only[Lr] at e2
 rw[aF,aF,Hj,Ls,h1]
 omega
theorem AN {x y c t:Nat}(e:x<4294967296)(b:y<4294967296)(d:c<=1)(a:t=((x+(18446744073709551616-y))%18446744073709551616+(18446744073709551616-c))%18446744073709551616):t%4294967296+y+c=x+4294967296*(t/9223372036854775808)/\t/9223372036854775808<=1:=by
 subst a
 omega
theorem rO {r x:Nat}(a:x<4294967296):r*4294967296 ||| x=r*4294967296+x:=by
 have:=L2 (i:=32) (b:=x) oM r;rw[HA];exact this.symm
theorem wd {r x d:Nat}(a:0<d)(hr:r<d)(c:x<4294967296)(b:d<4294967296) :
  (r*4294967296+x)/d%4294967296=(r*4294967296+x)/d/\r*4294967296+x=d*((r*4294967296+x)/d)+(r*4294967296+x)%d/\(r*4294967296+x)%d<d:=by
 refine ⟨z1 ?_,(LX _ _).symm,z2 _ a⟩;rw[L7 a];have h1:(r+1)*4294967296<=d*4294967296:=y9 _ hr;rw[HA]
 omega
theorem wT {b:Nat}{l z:List Nat}{m d r a q X:Nat}(i:0<m)(f:m-1<z.length)(h0:z.getD (m-1) 0=0)(inv:X=d*ai b z+(b^m*r+ai b (l.take m)))(e:r*b+l.getD (m-1) 0=d*q+a) :
  X=d*ai b (z.set (m-1) q)+(b^(m-1)*a+ai b (l.take (m-1))):=by
 obtain ⟨k,rfl⟩:∃ k,m=k+1:=⟨m-1,by omega⟩;rw[L8] at *
 have h1:=cI b q f;rw[h0,Lw,wj] at h1
 have e2:=congrArg (b^k * ·) e
 simp only[Lr] at e2
 rw[inv,h1,aF,Hj,Lr];have h:b^k*(r*b)=b^k*b*r:=by rw[HA r b,Ls]
 have c:b^k*(d*q)=d*(b^k*q):=by ac_rfl
 rw[h,c] at e2
 omega
theorem x5 (k:Nat):(2:Nat)^k=4294967296^(k/32)*2^(k%32):=by
 have:k=32*(k/32)+k%32:=by omega
 conv=>lhs;rw[this,LC,LH]
theorem H8 {x p c:Nat}(e:p<32)(d:x<4294967296)(b:c<2^p) :
  (c ||| x*2^p%18446744073709551616)=c+x*2^p/\c+x*2^p<18446744073709551616/\(c+x*2^p)/4294967296<2^p:=by
 have h0:2^p<=2^31:=LA kD oM;have h1:x*2^p<=4294967295*2^p:=y9 _ oM;have a:x*2^p<18446744073709551616:=by omega
 refine ⟨?_,by omega,?_⟩
 ·rw[z1 a];exact gN p b
 ·rw[L7 kD];omega
theorem xE {b:Nat}{l:List Nat}{i c P Q s x:Nat}{a:List Nat}(h:0<b)(inv:ai b l+b^l.length*c=b^Q*(P*ai b (a.take i)))(f:l.length=Q+i)(e:s=c+x*P)(d:x=a.getD i 0) :
  ai b (l++[s%b])+b^(l++[s%b]).length*(s/b)=b^Q*(P*ai b (a.take (i+1))):=by
 have e1:b^l.length*s=b^l.length*(s%b)+b^l.length*(b*(s/b)):=by rw[<-Lr,Mf]
 have e2:b^l.length*s=b^l.length*c+b^Q*(P*(b^i*x)):=by
  rw[e,Lr,f,LC]
  congr 1
  ac_rfl
 rw[cV,y4,aF,<-d,Lr P,Lr (b^Q),<-inv]
 show _+b^l.length*(s%b+b*0)+b^(l.length+1)*_=_
 rw[Lw,wj,Hj,Ls]
 omega
theorem Ld.app {l:List Nat}(h:Ld l){x:Nat}(a:x<4294967296):Ld (l++[x]):=Dg.append h (Dg.one a)
theorem wc {a n q m p:Nat}(h:a<4294967296^n)(c:p<=32)(d:m=q+(n+1)):a*(4294967296^q*2^p)<4294967296^m:=by
 have h1:(2:Nat)^p<=4294967296:=ep (LA kD c) (eb (2^32));subst d;rw[LC,Hj];have b:a*2^p<4294967296^n*4294967296:=e4 (Mb h (Lz p)) (LD _ h1);have e:a*(4294967296^q*2^p)=4294967296^q*(a*2^p):=by ac_rfl
 rw[e];exact LO b (LK kD)
theorem IE {x y p:Nat}(o:p<32)(l:x<4294967296)(j:y<4294967296) :
  (x ||| y*4294967296%18446744073709551616)=x+y*4294967296/\x+y*4294967296<18446744073709551616 /\
  2^p*((x+y*4294967296)/2^p%4294967296)+x%2^p=x+4294967296*(y%2^p):=by
 have h0:2^p*2^(32-p)=4294967296:=by rw[<-LC,show p+(32-p)=32 by omega]
 have b:=Lz p;refine ⟨?_,by omega,?_⟩
 ·rw[z1 oM]
  exact gN 32 oM
 ·-- y=2^p*y1+y0
  have f:=LX y (2^p);have h:=LX x (2^p)
  generalize y/2^p=y1 at *
  generalize hy0:y%2^p=y0 at *
  generalize hxq:x/2^p=x1 at *
  generalize hx0:x%2^p=x0 at *
  have c:x0<2^p:=by rw[<-hx0];exact z2 _ b
  have d:y0<2^p:=by rw[<-hy0];exact z2 _ b
  have i:x1<2^(32-p):=by
   refine Mk (a:=2^p) ?_
   omega
  have e:x+y*4294967296=2^p*(x1+2^(32-p)*(2^p*y1+y0))+x0:=by
   rw[<-h,<-f,Lr,<-Ls (2^p) (2^(32-p)),h0]
   generalize 2^p*y1+y0=Y
   omega
  rw[e,Mi b,G3 c,wj]
  have e2:x1+2^(32-p)*(2^p*y1+y0)=(x1+2^(32-p)*y0)+4294967296*y1:=by
   rw[Lr,<-Ls,HA (2^(32-p)) (2^p),h0];omega
  have u:2^(32-p)*y0+2^(32-p)<=4294967296:=by
   have:2^(32-p)*(y0+1)<=2^(32-p)*2^p:=LD _ d;rw[HA (2^(32-p)) (2^p),h0,Lr] at this
   omega
  rw[e2,Mj,z1 oM,Lr,<-Ls,h0]
  omega
theorem F4 {b:Nat}{l X:List Nat}{j P d a:Nat}(i:l.length=j)(inv:P*ai b l+a=ai b (X.take j)+b^j*(X.getD j 0%P))(e:P*d+X.getD j 0%P=X.getD j 0+b*(X.getD (j+1) 0%P)) :
  P*ai b (l++[d])+a=ai b (X.take (j+1))+b^(j+1)*(X.getD (j+1) 0%P):=by
 have e1:ai b (l++[d])=ai b l+b^j*d:=by
  rw[cV,i];show _+b^j*(d+b*0)=_;rw[Lw,wj]
 have h:=congrArg (b^j * ·) e
 simp only[Lr] at h
 rw[e1,aF,Hj,Lr];have f:P*(b^j*d)=b^j*(P*d):=by ac_rfl
 have c:b^j*b*(X.getD (j+1) 0%P)=b^j*(b*(X.getD (j+1) 0%P)):=by ac_rfl
 rw[f,c]
 omega
theorem Hl {a k:Nat}{l:List Nat}(f:(lim a).length<=k/32+l.length)(inv:2^(k%32)*ai 4294967296 l+((lim a).drop (k/32)).getD 0 0%2^(k%32)=ai 4294967296 (((lim a).drop (k/32)).take l.length)+4294967296^l.length*(((lim a).drop (k/32)).getD l.length 0%2^(k%32))):ai 4294967296 l=a/2^k:=by
 have b:((lim a).drop (k/32)).length<=l.length:=by rw[LZ];omega
 rw[LU b,cn b,Mh,Lw,wj] at inv
 have d:ai 4294967296 ((lim a).drop (k/32))=a/4294967296^(k/32):=by
  rcases dS (lim a).length (k/32) with h|h
  ·rw[Mq oM,G3]
   ·rfl
   ·exact e4 (cG a) (LA kD oM)
  ·have e:=bP 4294967296 (l:=lim a) (k:=k/32) h
   rw[di] at e
   have h1:=bM (Dg.take (Ld.lim a) (k/32));rw[Lu,Lv h] at h1
   have c:a/4294967296^(k/32)=(ai 4294967296 ((lim a).take (k/32))+4294967296^(k/32)*ai 4294967296 ((lim a).drop (k/32)))/4294967296^(k/32):=by rw[<-e]
   rw[c,LJ _ _ (LK kD),G3 h1,y8]
 rw[x5 k,<-LL,<-d,<-inv,Mi (Lz _),G3 (z2 _ (Lz _)),wj]
section bld
variable {P:Program}{n:Nat}{N R:Po}{X:Nat->Po}{ops:Array Oper}{k:Nat}{Γ:cl}{w0:World}{h0:Hp}{B:List Bx}{Rs:List Rw}{F:List (Hp->Prop)}{wB:World}{hB:Hp}
theorem SS.liftJ (s:SS w0 h0 wB hB B Rs F){w:World}(x:Ext wB w):∃ c,SS w0 h0 w c B Rs F/\∀ b,wB.heap.size<=b->b<w.heap.size->c[b]?=some be:=by
 have f:=x.size;have h:=s.g.size;refine ⟨hB++s3 (w.heap.size-wB.heap.size) be,s.step ⟨x,⟨by simp,fun b a=>ta a⟩,⟨by simp;omega,fun b=>?_⟩⟩,fun b h1 d=>?_⟩
 ·rcases dS b hB.size with a|a
  ·rw[ta a]
   have e:=Below.block x b oM
   rcases s.g.blk b with h1|h1
   ·exact .inl (h1.trans e.symm)
   ·exact .inr h1
  ·rw[z8 a,Ab]
   by_cases hl:b<w.heap.size
   ·right;rw[if_pos oM]
   ·left;rw[if_neg oM,ea oM]
 ·rw[z8 oM,Ab,if_pos oM]
theorem Lq (t:Nat)(ty:TypeId)(vs:List Value){w:World}{h:Hp}(s:SS w0 h0 w h B Rs F)(H:∀ w',Ext w w'->w.heap.size<=w'.heap.size->w'.heap[w.heap.size]?=some (.cells vs.toArray ty (0,0))->LG P n N R X ops (k+1) ((t,.pointer (some ⟨w.heap.size,0,none⟩))::Γ) w')(a:cL ops Γ k t n=true:=by kernel_rfl)
  (hr:(execOp (ev Γ) (ak ops k)).run P w=.ok (.value (.pointer (some ⟨w.heap.size,0,none⟩))) (w.alloc (.cells vs.toArray ty (0,0))):=by kernel_rfl):LG P n N R X ops k Γ w :=
 LG.val t _ (w.alloc (.cells vs.toArray ty (0,0))) (bQ a).1 (bQ a).2 hr (H _ ((Ext.refl _).alloc _) (by rw[heap_alloc];simp) (by rw[heap_alloc];simp))
theorem KU (t:Nat){f:FuncId}{args:Array Value}{V:Value}{Q:World->Prop}{w:World}(s:SS w0 h0 wB hB B Rs F)(x:Ext wB w)(c:Calls P f args w fun e w'=>e=.returned V/\(Q w'/\Below wB.heap.size w w'))(H:∀ w' a,SS w0 h0 w' a B Rs F->Ext wB w'->Q w'->LG P n N R X ops (k+1) ((t,V)::Γ) w')(h:cL ops Γ k t n=true:=by kernel_rfl)
  (hr:(execOp (ev Γ) (ak ops k)).run P w=.ok (.enter f args) w:=by kernel_rfl):LG P n N R X ops k Γ w :=
 LG.call t f args (bQ h).1 (bQ h).2 hr (c.mono fun e w' ⟨j,q,b⟩=>by
  have d:Ext wB w':=Below.trans x b;obtain ⟨a,i,_⟩:=s.liftJ d;exact ⟨V,j,H w' a i d q⟩)
def Dl (a b:Nat):List Nat:=(List.range b).filter (fun c=>decide (a<=c))
theorem mF {a b c:Nat}:c∈Dl a b↔a<=c/\c<b:=by
 unfold Dl;rw[List.mem_filter,o0];simp;omega
theorem A.takeK {M:Ms}{Q:Exit->Act->World->Prop}{k0:Nat}{L:Array Bool}{a:Act}{w:World}{i:Nat}{o:Oper}{v:Value}{S:World->Prop}
  (hi:ops[i]?=some o)(hk:i<k0)(d:Region.noSelect ops=true)(hf:Region.free .any ops L i=true)(hr:i∈Region.ready .any ops L)(y:∀ c a w,¬Q (.panic c) a w)
  (u:∀ w w',S w->Mo M.l w w'->S w')(z:S w)(x:YieldsIf P ops S o v a)
  (b:(∀ w,S w)\/(∀ w w',S w->Tl M w w'->S w')\/∀ j f,ops[j]?=some f->k0<=j->j≠i->∃ e∈f.after,Region.binds .any e=true/\e.on=i)
  (H:A M P ops Q k0 (L.setIfInBounds i true) (a.put o.dst v) w):A M P ops Q k0 L a w:=by
 unfold A at *
 rw[fU hr]
 exact mN hi (Region.noSelect_spec d) (fun c a w B=>absurd B (y _ _ _)) u _ _ _ _
  (fun j f C p h=>Region.free_spec hi hf j f C p h) b hr x z H hk
variable {M:Ms}{k0:Nat}{L:Array Bool}{w:World}
theorem aV (i t:Nat)(v:Value)(H:AG M P n N R X ops k0 (L.setIfInBounds i true) ((t,v)::Γ) w)(e:cE n ops k0 [] L Γ i t=true:=by kernel_rfl)(hv:∀ w,(execOp (ev Γ) (ak ops i)).run P w=.ok (.value v) w:=by intro _;kernel_rfl):AG M P n N R X ops k0 L Γ w:=by
 obtain ⟨b,f⟩:=iJ e;rw[i3] at b
 have c:=dX b.1;intro a d;have e1:=d.exec (Region.noSelect_spec c.sel i _ · · c.get) b.2;refine A.takeK (v:=v) (S:=fun _=>True) c.get c.lt c.sel c.free c.ready (fun _ _ _ h=>h) (fun _ _ _ _=>trivial) trivial (.inl ⟨d.want f,fun w _=>by rw[e1];exact hv w⟩) (.inl fun _=>trivial) ?_;rw[c.dst];exact H _ (d.put c.tn v)
theorem aL (i t:Nat)(v:Value)(hr:∀ w',Mo M.l w w'->(execOp (ev Γ) (ak ops i)).run P w'=.ok (.value v) w')(H:AG M P n N R X ops k0 (L.setIfInBounds i true) ((t,v)::Γ) w)(u:B4 n ops k0 [] L Γ i t=true:=by kernel_rfl):AG M P n N R X ops k0 L Γ w:=by
 obtain ⟨b,x⟩:=iH u;rw[i3,i3] at b
 obtain ⟨⟨e,d⟩,f⟩:=b;have c:=dX e;intro a h;have e1:=h.exec (Region.noSelect_spec c.sel i _ · · c.get) d;refine A.takeK (v:=v) (S:=fun w'=>Mo M.l w w') c.get c.lt c.sel c.free c.ready (fun _ _ _ p=>p) (fun _ _ h1 o=>h1.trans o) (Mo.refl _ _) (.inl ⟨h.want x,fun w' j=>by rw[e1];exact hr w' j⟩) (.inr (.inr (jW f))) ?_;rw[c.dst];exact H _ (h.put c.tn v)
theorem aH (i t:Nat)(v:Value){h:Hp}{b o:Nat}{cs:List Value}(s:SS w0 h0 w h B Rs F)(d:Seg h b o cs)(H:AG M P n N R X ops k0 (L.setIfInBounds i true) ((t,v)::Γ) w)(hM:∀ b∈M.l,h[b]?=some be)(a:B4 n ops k0 [] L Γ i t=true:=by kernel_rfl)(e:bS P (execOp (ev Γ) (ak ops i)) cs=some (.value v,kF b o cs.length):=by kernel_rfl):AG M P n N R X ops k0 L Γ w :=
 aL i t v (fun _ c=>Seg.runM d s.g hM c e) H a
def H0 (ops:Array Oper)(k0:Nat)(L:Array Bool)(i:Nat):Bool:=decide (i<ops.size) && decide (i<k0) && Region.noSelect ops && (Region.ready .any ops L == [i])
theorem aC (i t:Nat){f:FuncId}{args:Array Value}(c:Calls P f args w fun e w'=>∃ v,e=.returned v/\Mo M.l w w'/\AG M P n N R X ops k0 (L.setIfInBounds i true) ((t,v)::Γ) w')(p:(H0 ops k0 L i && aY Γ (ak ops i) && ((ak ops i).dst == some t) && decide (t<n))=true:=by kernel_rfl)(z:bg ops Γ (ak ops i)=some true:=by kernel_rfl)
  (hr:(execOp (ev Γ) (ak ops i)).run P w=.ok (.enter f args) w:=by kernel_rfl):AG M P n N R X ops k0 L Γ w:=by
 simp only[i3,decide_eq_true_eq,beq_iff_eq] at p
 obtain ⟨⟨⟨h1,x⟩,y⟩,u⟩:=p
 unfold H0 at h1
 simp only[i3,decide_eq_true_eq,beq_iff_eq] at h1
 have d:=bv (ops:=ops) h1.1.1.1;intro a b;refine A.intro (fun h0=>by rw[h1.2] at h0;cases h0) (fun j o=>?_);rw[h1.2,List.mem_singleton] at o
 subst o;refine OpR.wpOp (R:=fun v w'=>Mo M.l w w'/\AG M P n N R X ops k0 (L.setIfInBounds j true) ((t,v)::Γ) w') d ⟨b.want z,.inr (.inr ⟨f,args,?_,c⟩)⟩ (fun v w' h=>⟨Rl.mo h1.1.1.2 h.1,?_⟩)
 ·rw[b.exec (Region.noSelect_spec h1.1.2 j _ · · d) x];exact hr
 ·rw[y];exact h.2 _ (b.put u v)
theorem vk {id:Nat}(M:Ms)(k0:Nat)(c:P.follows .mixedOrders=true)(H:AG M P n N R X ops k0 (s3 ops.size false) Γ w.drew):CG P n N R X (.region id ops true) Γ w:=by
 intro a b;refine wp_region_any c ?_;have h1:=H a b
 unfold A at h1
 rw[jn] at h1
 exact mL _ _ _ _ _ _ _ _ _ h1
theorem SS.drew {h:Hp}(s:SS w0 h0 w h B Rs F):SS w0 h0 w.drew h B Rs F:=s.step (Up.drew (Up.refl s.g))
theorem xV {K:Nat}{w w':World}(x:Below K w w'):Mo (Dl K w.heap.size) w w':=⟨x.os,x.tape,x.output,x.size,fun c a hn=>by
 rcases dS c K with h|h
 ·exact Below.block x c h
 ·exact absurd (mF.2 ⟨h,a⟩) hn⟩
theorem rM {K:Nat}{T e:TypeId}{b:Nat}{bs:List Value}{w w1:World}(h:Lib.IsBuilder T e K b bs w)(x:Ext w w1):Lib.IsBuilder T e K b bs w1:=by
 have key:∀ p,Lib.BuilderAt T e K b p bs w->Lib.BuilderAt T e K b p bs w1:=by
  rintro p ⟨h1,v,a,f,i⟩
  have d:b<w.heap.size:=by
   rcases dS b w.heap.size with h'|h'
   ·exact h'
   ·rw[ea h'] at a;cases a
  exact ⟨h1,v,(Below.block x b d).trans a,eD f (fun c j=>Below.block x c (jv f j)),i⟩
 rcases h with h|h
 ·exact .inl (key _ h)
 ·exact .inr (key _ h)
theorem aX (i t:Nat)(A:Z9)(len a sz:Nat)(x:Int)(j:Nat)(c:A=some ⟨aB A,aO A,none⟩)(H:AG M P n N R X ops k0 (L.setIfInBounds i true) ((t,.pointer (some ⟨aB A,aO A+j*sz,none⟩))::Γ) w)(d:cE n ops k0 [] L Γ i t=true:=by kernel_rfl)(e:CD P (ev Γ) (ak ops i)=some (.slice A len a,.int .i64 x,sz):=by kernel_rfl)(hk:x=j:=by omega)(b:j<len:=by omega):AG M P n N R X ops k0 L Γ w :=
 aV i t _ H d (fun w=>ik e c hk b w)
theorem sT {P:List UInt8}{x m:Nat}(a:m<8):Lib.byteCells (P++(b8 x).take m)++[.int .u8 ((x/2^(8*m)%256:Nat):Int)]=Lib.byteCells (P++(b8 x).take (m+1)):=by
 have e:(b8 x).take (m+1)=(b8 x).take m++[UInt8.ofNat (x/256^m)]:=by
  rw[List.take_add_one]
  congr 1
  unfold b8
  rw[L0,L1 a];rfl
 rw[e,<-List.append_assoc]
 unfold Lib.byteCells
 rw[List.map_append (l₁:=P++_)]
 congr 1
 show _=[Value.int .u8 ((x/256^m%256:Nat):Int)]
 rw[LH]
theorem vw {l:List Nat}{k:Nat}(hk:k<l.length):((l.take k).flatMap b8)++(b8 (l.getD k 0)).take 8=(l.take (k+1)).flatMap b8:=by
 have e:(b8 (l.getD k 0)).take 8=b8 (l.getD k 0):=LU (by rw[kc];omega);rw[iS hk,List.flatMap_append,e];simp
theorem vM {l:List Nat}{k m x:Nat}(hk:k<=l.length)(a:m<=8)(b:l.length<=1099511627776):(Lib.byteCells ((l.take k).flatMap b8++(b8 x).take m)).length+1<=140737488355328:=by
 rw[Lib.byteCells_length,y4,n3,Lu,Lu,kc];omega
theorem D6 {l:List Nat}(h:tl l l.length=0):Value.agg #[.int .u64 0,.string ⟨#[]⟩]=nv (aA l):=by
 have e:=jS 18446744073709551616 l l.length (eb _);rw[h,yz] at e
 have:aA l=0:=e.symm;rw[this];rfl
theorem Hc {l:List Nat}(a:Wd l)(h:tl l l.length=1):Value.agg #[.int .u64 (l.getD 0 0:Nat),.string ⟨#[]⟩]=nv (aA l):=by
 have e:=jS 18446744073709551616 l l.length (eb _);have b:=iq l l.length;rw[h,yz,aF] at e
 have e2:aA l=l.getD 0 0:=by show ai _ l=_;rw[<-e];simp[ai]
 rw[e2];have:=a.get 0
 unfold nv
 rw[mS this,ll this]
theorem Ex {l:List Nat}(a:Wd l)(h:0<tl l l.length):Value.agg #[.int .u64 (l.getD 0 0:Nat),.string ⟨(((l.drop 1).take (tl l l.length-1)).flatMap b8).toArray⟩]=nv (aA l):=by
 have e:=og a;have e1:((l.drop 1).take (tl l l.length-1))=(wds (aA l)).drop 1:=by rw[e,List.drop_take]
 unfold nv
 rw[Ix (n:=aA l) (by rw[e1]),sa,e,ju h]
end bld
section
variable {P:Program}{Γ:cl}{o:Oper}
theorem ef {f:FuncId}{args:Array Value}{v:Value}{w:World}(h:(execOp (ev Γ) o).run P w=(callFunc f args).run P w)(k:(callFunc f args).run P w=.ok (.value v) w):(execOp (ev Γ) o).run P w=.ok (.value v) w:=h.trans k
end
theorem fa (x y c:Nat)(d:x<18446744073709551616)(a:y<18446744073709551616)(b:c<=1):∃ s c':Nat,s+18446744073709551616*c'=x+y+c/\s<18446744073709551616/\c'<=1/\∀ w,(callFunc 159 #[.int .u64 x,.int .u64 y,.int .u64 c]).run Tryz.prog w=.ok (.value (.tuple #[.int .u64 s,.int .u64 c'])) w:=by
 refine ⟨(x+y+c)%18446744073709551616,(x+y+c)/18446744073709551616,by omega,by omega,by omega,fun w=>?_⟩;rw[run_callFunc_extern Tryz.func159 kR kR kR (e:=add64Entry) kR,run_add64 x y c oM oM oM oM]
 simp only[Result.andThen]
 congr 5<;>omega
theorem jw (x y b:Nat)(f:x<18446744073709551616)(d:y<18446744073709551616)(c:b<=1):∃ s a:Nat,s+y+b=x+18446744073709551616*a/\s<18446744073709551616/\a<=1/\∀ w,(callFunc 160 #[.int .u64 x,.int .u64 y,.int .u64 b]).run Tryz.prog w=.ok (.value (.tuple #[.int .u64 s,.int .u64 a])) w:=by
 refine ⟨(x+18446744073709551616-y-b)%18446744073709551616,if x<y+b then 1 else 0,by split<;>omega,by omega,by split<;>omega,fun w=>?_⟩;rw[run_callFunc_extern Tryz.func160 kR kR kR (e:=sub64Entry) kR,run_sub64 x y b c]
 rfl
theorem Ret.of_same {f:FuncId}{args:Array Value}{V:Value}{P:Program}{w:World}{h:Hp}(g:G w h)(c:Calls P f args w fun e w'=>e=.returned V/\w'=w):Calls P f args w (Ret w h fun v _=>v=V) :=
 c.mono fun e w' ⟨b,a⟩=>by subst a;exact ⟨V,h,b,Up.refl g,rfl⟩
theorem pi (x y:Nat)(c:x<18446744073709551616)(a:y<18446744073709551616)(w:World)(h:Hp)(g:G w h):CR 130 #[uV x,uV y] w h (fun v _=>∃ hi lo:Nat,v=.tuple #[uV hi,uV lo]/\lo+18446744073709551616*hi=x*y/\lo<18446744073709551616/\hi<18446744073709551616/\hi<=18446744073709551614):=by
 refine (Ret.of_same g (Tryz.bits_Mul64 x y c a w)).mono ?_;rintro e w' ⟨v,b,d,u,rfl⟩;have h1:x*y<=18446744073709551615*18446744073709551615:=Md oM oM;exact ⟨_,b,d,u,x*y/18446744073709551616,x*y%18446744073709551616,rfl,by omega,by omega,by omega,by omega⟩
theorem nY {n:Nat}(h:n<18446744073709551616):Lib.bitLen n=nb n:=by
 rcases Au n with h0|h0
 ·subst h0;rfl
 ·obtain ⟨b,c,d⟩:=cB h0
  have a:nb n<=64:=kL (k:=64) h;have:=Lib.bitLen_shift (nb n-1) n b h
  have h1:n/2^(nb n-1)=1:=by
   have:n<2^(nb n-1)*2:=by rw[<-Hj];rwa [show (nb n-1).succ=nb n by omega]
   refine L9 oM oM
  rw[h1] at this
  have e1:Lib.bitLen 1=1:=by decide
  omega
theorem Ai (x:Nat)(a:x<18446744073709551616)(w:World)(h:Hp)(g:G w h):CV 134 #[uV x] w h (nV (nb x)):=by
 have:=Ret.of_same g (Tryz.bits_Len64 x w oM oM);rw[z6,nY a] at this
 exact this
theorem Fh (x:Nat)(a:x<18446744073709551616)(w:World)(h:Hp)(g:G w h):CV 187 #[uV x] w h (nV (64-nb x)):=by
 have:=Ret.of_same g (Tryz.bits_LeadingZeros64 x w oM oM);have b:nb x<=64:=kL (k:=64) a;rw[z6,nY a,show (64:Int)-(nb x:Nat)=((64-nb x:Nat):Int) by omega] at this
 exact this
theorem jT {a b:Nat}(ha:a<18446744073709551616)(d:b<18446744073709551616):a*b<=340282366920938463426481119284349108225:=by
 have h1:a<=18446744073709551615:=by omega
 have c:b<=18446744073709551615:=by omega
 exact Md h1 c
theorem jh (A:Z9)(c:Nat)(l:List Nat)(m:Nat)(F:l.length=m)(B:l.length<=1099511627776)(D:l.length<=c)(w:World)(h:Hp)(g:G w h)(y:S3 A l h):CV 90 #[.slice A m c] w h (.slice A (tl l m) c):=by
 have a:=((sS g).aS y);refine go Tryz.func90 [(0,qS A m c)] rfl (aa a ac (aG (lL a [.c,.v (nV m),.c] (ag (kZ ?_)))));refine bH _ (CG.loop (fun o Γ p=>∃ (n:Nat)(h_:Hp),o=n/\Γ=[(0,qS A m c),(2,sZ),(3,nV n)]/\SS w h p h_ [] [] [S3 A l]/\n<=m/\tl l m=tl l n) _ ⟨m,h,rfl,rfl,a.to _ _,nR _,rfl⟩ ?_);rintro _ _ w1 ⟨n,u,x,rfl,a,hn,j⟩;refine cQ (aa a ac ?_);cases b:(decide ((0:Int)<(n:Int)))
 .
  have e:=oF b;refine lB 7 b (lL a ac (lG 9 ?_));refine lG 10 (lG 11 (lG 12 (lG 13 (lG 14 (lL a [.v qF] (ah (CG.exit ?_)))))))
  show CG _ _ _ _ _ _ _ _
  refine aa a aD (lT 20 A m c 1 (n:Nat) n ?_);exact lL a ac (ae a [] (qS A n c) (by rw[j,nr oM]))
 have e:=oT b;refine lB 7 b (lL a dl (bp 11 ((n:Nat)-1) (n-1) ?_));refine lX 12 A m c 1 (n-1:Nat) (n-1) ((a.f.1).ok oM) (lH 13 (mW (l.getD (n-1) 0)) a ((a.f.1).el (n-1) oM) ?_);cases d:(((l.getD (n-1) 0:Nat):Int) == (0:Int))
 .
  have i:=aj d;refine lB 14 d (lL a [.v qF] (ah (CG.exit ?_)))
  show CG _ _ _ _ _ _ _ _
  refine aa a aD (lT 20 A m c 1 (n:Nat) n ?_);exact lL a ac (ae a [] (qS A n c) (by rw[j,nr oM]))
 have i:=eq_of_beq d;refine lB 14 d (lL a [.v qT] (am (cK (kZ (kQ (lL a ac (bp 17 ((n:Nat)-1) (n-1) ?_)))))));refine lL a ac (lD ?_);intro C z;refine ⟨_,_,?_,⟨n-1,u,rfl,rfl,a.to _ _,oM,(by rw[j];exact Ed oM oM)⟩,z.to _ kR⟩
 omega
theorem vD {h:Hp}{A:Z9}{n a:Nat}(hn:n<18446744073709551616)(b:2<=a)(s:SlO 1 az 0 h A [n%4294967296,n/4294967296]):RN h (.slice A (tl [n%4294967296,n/4294967296] 2) a) n :=
 RN.trim (Dg.cons oM (Dg.one oM)) (by simp only[ai];omega) rfl b s
theorem oo (n:Nat)(hn:n<18446744073709551616)(w:World)(h:Hp)(g:G w h):CR 45 #[mV n] w h (fun v h=>RN h v n):=by
 have a:=sS g;refine go Tryz.func45 [(0,mV n)] rfl (aa a ac (aG (lL a ac (lV 4 (mW (n%4294967296)) ?_ (hr:=rT ((n:Int)) kR (gW _))))));refine lL a ac (lV 6 (mV (n/4294967296)) ?_ (hr:=aK (n:=Mw (n:Int) 4294967296) kR (ei _ 4294967296)));refine lV 7 (mW (n/4294967296)) ?_ (hr:=rT (((n/4294967296:Nat):Int)) kR (oU oM oM));refine lR 8 141 2 ([mW (n%4294967296),mW (n/4294967296)]) a (fun b w2 c a=>?_);replace a:=a.aS (SlO.of_flat (sz:=1) (f:=az) (d:=0) (l:=[(n%4294967296),(n/4294967296)]) (fun _=>rfl) a.f.1);exact aq 9 a (jh (sB b) 2 ([(n%4294967296),(n/4294967296)]) 2 (by first|rfl|omega|assumption) (by simp) (by simp) _ _ a.g a.f.1) (fun e i a=>lL a ac (ae a [] (qS (sB b) (tl ([(n%4294967296),(n/4294967296)]) 2) 2) (vD hn oM a.f.1)))
theorem J2 (n:Nat)(A:Z9)(a:Nat)(e:(lim n).length<=a)(w:World)(h:Hp)(g:G w h)(d:S3 A (lim n) h):CR 89 #[.bool false,.slice A ((lim n).length) a] w h (fun v h=>RI h v (bB false n)):=by
 have b:=((sS g).aS d);refine go Tryz.func89 [(0,qF),(1,qS A ((lim n).length) a)] rfl (ax (lA 4 26 ([qF,sZ]) b (fun i w2 j b=>aG (lL b aD (lG 7 ?_)))));exact lG 8 (lG 9 (lL b [.v qF,.c,.v (.agg #[qF,qS A ((lim n).length) a])] (lP 0 0 ([qF,qS A ((lim n).length) a]) b (fun l b=>ae b [(0,0,2)] (.agg #[qF,qS A ((lim n).length) a]) (s7 rfl e b.f.1)))))
theorem KC (n:Nat)(A:Z9)(a:Nat)(i:(lim n).length<=a)(w:World)(h:Hp)(g:G w h)(j:S3 A (lim n) h):CR 89 #[.bool true,.slice A ((lim n).length) a] w h (fun v h=>RI h v (bB true n)):=by
 have b:=((sS g).aS j);have u:=@bT n;refine go Tryz.func89 [(0,qT),(1,qS A ((lim n).length) a)] rfl (ax (lA 4 26 ([qF,sZ]) b (fun o w2 p b=>aG (lL b [.c,.c,.c,.v (nV ((lim n).length))] ?_))));cases d:(decide ((0:Int)<(((lim n).length:Nat):Int)))
 .
  have e:=oF d;exact lB 9 d (lL b [.v qF,.c,.v (.agg #[qF,qS A ((lim n).length) a])] (lP 0 0 ([qF,qS A ((lim n).length) a]) b (fun l b=>ae b [(0,0,2)] (.agg #[qF,qS A ((lim n).length) a]) (s7 (by simp only[Mx];first|(symm;exact decide_eq_true oM)|(symm;exact decide_eq_false oM)) i b.f.1))))
 have e:=oT d;exact lB 9 d (lL b [.v qT,.c,.v (.agg #[qT,qS A ((lim n).length) a])] (lP 0 0 ([qT,qS A ((lim n).length) a]) b (fun x b=>ae b [(0,0,2)] (.agg #[qT,qS A ((lim n).length) a]) (s7 (by simp only[Mx];first|(symm;exact decide_eq_true oM)|(symm;exact decide_eq_false oM)) i b.f.1))))
theorem rI (p:Bool)(n:Nat)(A:Z9)(a:Nat)(c:(lim n).length<=a)(w:World)(h:Hp)(g:G w h)(b:S3 A (lim n) h):CR 89 #[.bool p,.slice A (lim n).length a] w h (fun v h=>RI h v (bB p n)):=by
 cases p
 ·exact J2 n A a c w h g b
 ·exact KC n A a c w h g b
theorem sY (z:Int)(h0:z<0)(h1 : -9223372036854775808<=z)(w:World)(h:Hp)(g:G w h):CR 44 #[iV z] w h (fun v h=>RI h v (bB true (ab z))):=by
 have a:=sS g;have hi:ab z<=9223372036854775808:=by unfold ab;omega
 refine go Tryz.func44 [(0,iV z)] rfl (ax (lA 2 26 ([qF,sZ]) a (fun y w2 B a=>ag (aa a ac ?_))));have ⟨b,e⟩:=dT (p:=(z:Int)<(0:Int)) oM;refine lB 4 b (am (aa a ac (lV 6 (mV (18446744073709551616-ab z)) ?_ (hr:=rU (z) kR (by rw[IntKind.wrap_u64];unfold ab;omega)))));refine lV 7 (mV (ab z)) ?_ (hr:=rU ((0-((18446744073709551616-ab z:Nat):Int))) kR (by rw[IntKind.wrap_u64];omega));refine lC 8 a (oo (ab z) oM _ _ a.g) ?_;rintro _ C _ a ⟨u,l,rfl,c,d⟩;replace a:=a.aS d;refine lC 9 a (rI true (ab z) u l c _ _ a.g a.f.1) ?_;rintro _ _ _ a ⟨i,j,rfl,x,o⟩;replace a:=a.aS o;exact lP 0 0 ([.bool (af (bB true (ab z))),qS i ((lim (ab (bB true (ab z)))).length) j]) a (fun _ a=>ae a [(0,0,2)] (.agg #[.bool (af (bB true (ab z))),qS i ((lim (ab (bB true (ab z)))).length) j]) (⟨_,_,rfl,x,a.f.1⟩))
theorem sQ (z:Nat)(h1:z<9223372036854775808)(w:World)(h:Hp)(g:G w h):CR 44 #[nV z] w h (fun v h=>RI h v (bB false z)):=by
 have a:=sS g;refine go Tryz.func44 [(0,nV z)] rfl (ax (lA 2 26 ([qF,sZ]) a (fun y w2 B a=>ag (aa a ac ?_))));have ⟨b,e⟩:=dF (p:=(z:Int)<(0:Int)) oM;refine lB 4 b (ah (cK (aa a ac (lV 11 (mV z) ?_ (hr:=rU ((z:Int)) kR (bc oM oM))))));refine lC 12 a (oo z oM _ _ a.g) ?_;rintro _ C _ a ⟨u,l,rfl,c,d⟩;replace a:=a.aS d;refine lC 13 a (rI false z u l c _ _ a.g a.f.1) ?_;rintro _ _ _ a ⟨i,j,rfl,x,o⟩;replace a:=a.aS o;exact lP 0 0 ([.bool (af (bB false z)),qS i ((lim (ab (bB false z))).length) j]) a (fun _ a=>ae a [(0,0,2)] (.agg #[.bool (af (bB false z)),qS i ((lim (ab (bB false z))).length) j]) (⟨_,_,rfl,x,a.f.1⟩))
theorem sN (z:Int)(h0 : -9223372036854775808<=z)(h1:z<9223372036854775808)(w:World)(h:Hp)(g:G w h):CR 44 #[iV z] w h (fun v h=>RI h v z):=by
 rcases Int.lt_or_le z 0 with hz|hz
 ·have e:bB true (ab z)=z:=by unfold bB ab;simp;omega
  have:=sY z hz h0 w h g;rw[e] at this
  exact this
 ·obtain ⟨n,rfl⟩:=Int.eq_ofNat_of_zero_le hz
  exact sQ n oM w h g
theorem gy (a:Nat)(A:Z9)(c:Nat)(Y:(lim a).length<=c)(b:Nat)(D:Z9)(d:Nat)(V:(lim b).length<=d)(S:(lim a).length<=4000000000)(J:(lim b).length<=4000000000)(w:World)(h:Hp)(g:G w h)(M:S3 A (lim a) h)(H:S3 D (lim b) h):CV 34 #[.slice A ((lim a).length) c,.slice D ((lim b).length) d] w h (iV (bZ a b)):=by
 have e:=(((sS g).aS M).aS H);refine go Tryz.func34 [(0,qS A ((lim a).length) c),(1,qS D ((lim b).length) d)] rfl (aa e ac (ag (aa e [.c,.v (nV ((lim a).length)),.c,.v (nV ((lim b).length))] ?_)));cases l:((((lim a).length:Nat):Int) != (((lim b).length:Nat):Int))
 .
  have x:=aJ l;refine lB 10 l (ah (cK (cQ (aa e [.c,.v (nV ((lim a).length))] (lV 18 (iV ((((lim a).length:Nat):Int)-1)) ?_ (hr:=rS ((((lim a).length:Nat)-1)) kR ((gK oM oM).trans oM)))))));refine lL e ac (aZ ?_);refine bH _ (CG.loop (fun C Γ F=>∃ (m:Nat)(h_:Hp),C=m/\Γ=[(0,qS A ((lim a).length) c),(1,qS D ((lim b).length) d),(5,iV ((m:Int)-1))]/\SS w h F h_ [] [] [S3 D (lim b),S3 A (lim a)]/\m<=(lim a).length/\(lim a).length=(lim b).length/\(lim a).drop m=(lim b).drop m) _ ⟨(lim a).length,h,rfl,rfl,e.to _ _,nR _,oM,(by rw[Mq oM,Mq oM])⟩ ?_);rintro _ _ w2 ⟨m,W,I,rfl,e,Z,p,i⟩;refine cQ (aa e ac ?_);cases j:(decide ((0:Int)<=((m:Int)-1:Int)))
  .
   have y:=oF j;refine lB 20 j (ah (CG.exit ?_))
   show CG _ _ _ _ _ _ _ _
   exact aa e ac (ae e [] (iV 0) (by rw[iy (CX (by obtain rfl:m=0:=oM;simpa using i))]))
  have y:=oT j;refine lB 20 j (am (cK (cQ (kZ (cQ (cR 9 [] mixed e ao ?_))))));refine eV 0 23 (qS A ((lim a).length) c) (eV 1 24 (iV ((m:Int)-1)) (eX 2 25 A ((lim a).length) c 1 ((m:Int)-1) (m-1) ((e.f.2.1).ok oM) (eH 3 26 (mW ((lim a).getD (m-1) 0)) e ((e.f.2.1).el (m-1) oM) (eV 4 27 (qS D ((lim b).length) d) (eV 5 28 (iV ((m:Int)-1)) (eX 6 29 D ((lim b).length) d 1 ((m:Int)-1) (m-1) ((e.f.1).ok oM) (eH 7 30 (mW ((lim b).getD (m-1) 0)) e ((e.f.1).el (m-1) oM) ?_)))))));cases o:((((lim a).getD (m-1) 0:Nat):Int) != (((lim b).getD (m-1) 0:Nat):Int))
  .
   have u:=aJ o;refine eB 8 31 o (bU e (fun U K e=>tN (dD (cK (kQ (lL e ac (lV 22 (iV (((m-1:Nat):Int)-1)) ?_ (hr:=rS ((((m:Int)-1)-1)) kR ((gK oM oM).trans oM)))))))));refine lL e ac (lD ?_);intro X Q;refine ⟨_,_,?_,⟨m-1,K,rfl,rfl,e.to _ _,oM,p,(fO (k:=m-1) p oM (by rw[show m-1+1=m by omega];exact i) oM)⟩,Q.to _ kR⟩
   omega
  have u:=aI o;refine eB 8 31 o (bU e (fun _ _ e=>tN (ct (cQ (cQ (cR 9 [] mixed e ao ?_))))));refine eV 0 32 (qS A ((lim a).length) c) (eV 1 33 (iV ((m:Int)-1)) (eX 2 34 A ((lim a).length) c 1 ((m:Int)-1) (m-1) ((e.f.2.1).ok oM) (eH 3 35 (mW ((lim a).getD (m-1) 0)) e ((e.f.2.1).el (m-1) oM) (eV 4 36 (qS D ((lim b).length) d) (eV 5 37 (iV ((m:Int)-1)) (eX 6 38 D ((lim b).length) d 1 ((m:Int)-1) (m-1) ((e.f.1).ok oM) (eH 7 39 (mW ((lim b).getD (m-1) 0)) e ((e.f.1).el (m-1) oM) ?_)))))));cases z:(decide ((((lim a).getD (m-1) 0:Nat):Int)<(((lim b).getD (m-1) 0:Nat):Int)))
  .
   have O:=oF z;exact eB 8 40 z (bU e (fun _ _ e=>tN (dD (cK (aa e ac (ae e [] (iV 1) (by rw[fK (by first|exact gB oM|exact g7 (k:=m-1) oM oM (by rw[show m-1+1=m by omega];exact i.symm) oM)])))))))
  have O:=oT z;exact eB 8 40 z (bU e (fun _ _ e=>tN (ct (aa e ac (ae e [] (iV (-1)) (by rw[dZ (by first|exact gB oM|exact g7 (k:=m-1) oM oM (by rw[show m-1+1=m by omega];exact i) oM)]))))))
 have x:=aI l;refine lB 10 l (am (cQ (aa e [.c,.v (nV ((lim a).length)),.c,.v (nV ((lim b).length))] ?_)));cases B:(decide ((((lim a).length:Nat):Int)<(((lim b).length:Nat):Int)))
 .
  have L:=oF B;exact lB 15 B (ah (cK (aa e ac (ae e [] (iV 1) (by rw[fK (by first|exact gB oM|exact g7 (k:=m-1) oM oM (by rw[show m-1+1=m by omega];exact i.symm) oM)])))))
 have L:=oT B;exact lB 15 B (am (aa e ac (ae e [] (iV (-1)) (by rw[dZ (by first|exact gB oM|exact g7 (k:=m-1) oM oM (by rw[show m-1+1=m by omega];exact i) oM)]))))
theorem HR (A:Z9)(c:Nat)(l:List Nat)(m:Nat)(p:l.length=m)(i:Nat)(hi:i<=1099511627776)(j:Ld l)(w:World)(h:Hp)(g:G w h)(e:S3 A l h):CV 211 #[.slice A m c,nV i] w h (mV (l.getD i 0)):=by
 have a:=((sS g).aS e);have o:=j.get i;refine go Tryz.func211 [(0,qS A m c),(1,nV i)] rfl (aa a ac (ag (aa a [.c,.c,.v (nV m)] ?_)));cases b:(decide ((i:Int)<(m:Int)))
 .
  have d:=oF b;exact lB 8 b (ah (cK (aa a ac (ae a [] (uV 0) (by rw[cn oM];rfl)))))
 have d:=oT b;refine lB 8 b (am (aa a aD (lX 11 A m c 1 (i:Nat) i ((a.f.1).ok oM) ?_)));refine lH 12 (mW (l.getD i 0)) a ((a.f.1).el i oM) (lV 13 (mV (l.getD i 0)) ?_ (hr:=rU (((l.getD i 0:Nat):Int)) kR (bc oM oM)));exact lL a ac (ae a [] (mV (l.getD i 0)) rfl)
theorem uY (a:Nat)(A:Z9)(c:Nat)(hc:(lim a).length<=c)(b:Nat)(D:Z9)(d:Nat)(hd:(lim b).length<=d)(hLa:(lim a).length<=4000000000)(U:(lim b).length<=4000000000)(w:World)(h:Hp)(g:G w h)(V:S3 A (lim a) h)(O:S3 D (lim b) h):CR 205 #[.slice A ((lim a).length) c,.slice D ((lim b).length) d] w h (fun v h1=>RN h1 v (a+b)):=by
 have e:=(((sS g).aS V).aS O);refine go Tryz.func205 [(0,qS A ((lim a).length) c),(1,qS D ((lim b).length) d)] rfl (aa e ac (aG (lL e [.c,.v (nV ((lim a).length)),.c,.v (nV ((lim b).length))] (lV 13 (nV (max (lim a).length (lim b).length)) ?_ (hr:=aK (n:=if (((lim b).length:Nat):Int)>(((lim a).length:Nat):Int) then (((lim b).length:Nat):Int) else (((lim a).length:Nat):Int)) kR (by split<;>omega))))));refine lL e ac (aG (lL e ac (bp 15 (((max (lim a).length (lim b).length):Nat)+1) (((max (lim a).length (lim b).length):Nat)+1) ?_)));refine lK 16 141 (((max (lim a).length (lim b).length):Nat)+1:Nat) 1 4 (uW 0) az 0 e (fun x w2 S e=>?_);have C:(zY (((max (lim a).length (lim b).length):Nat)+1:Nat) 0).length=(((max (lim a).length (lim b).length):Nat)+1:Nat):=by simp
 refine lL e ac (aG (lL e ac (ag (aa e ac (aZ ?_)))));refine bH _ (CG.loop (fun F Γ L=>∃ (i:Nat)(z:List Nat)(j:Nat)(h_:Hp),F=(max (lim a).length (lim b).length)+1-i/\Γ=[(0,qS A ((lim a).length) c),(1,qS D ((lim b).length) d),(4,sZ),(5,nV (max (lim a).length (lim b).length)),(6,qS (sB x) (((max (lim a).length (lim b).length):Nat)+1:Nat) (((max (lim a).length (lim b).length):Nat)+1:Nat)),(8,nV i),(7,mV j)]/\SS w h L h_ [⟨x,141,(z).flatMap az⟩] [] [S3 D (lim b),S3 A (lim a)]/\i<=(max (lim a).length (lim b).length)+1/\z.length=(max (lim a).length (lim b).length)+1/\Ld z/\j<=1/\ai 4294967296 z+4294967296^i*j=ai 4294967296 ((lim a).take i)+ai 4294967296 ((lim b).take i)/\(∀ k,i<=k->z.getD k 0=0)) _ ⟨0,zY (((max (lim a).length (lim b).length):Nat)+1:Nat) 0,0,S,rfl,rfl,e.to _ _,My _,C,Ld.rep _,oM,(by rw[dN];simp[ai]),fun k _=>eg⟩ ?_);rintro _ _ w5 ⟨i,z,j,h6,hm7,rfl,e,hi,p,I,M,inv,hz⟩;have W:=(Ld.lim a).get i;have X:=(Ld.lim b).get i;refine cQ (aa e aD ?_);cases u:(decide ((i:Int)<=(((max (lim a).length (lim b).length):Nat):Int)))
 .
  have B:=oF u;refine lB 19 u (ah (CG.exit ?_))
  show CG _ _ _ _ _ _ _ _
  refine aa e ac ?_;have H:i=(max (lim a).length (lim b).length)+1:=by omega
  rw[LU (show (lim a).length<=i by omega),LU (show (lim b).length<=i by omega),di,di,H,<-p] at inv
  have Q:ai 4294967296 z=a+b:=tK inv (by rw[p];exact e4 (cG _) (LA kD (iG oM oM)));obtain ⟨h9,e,y,J,K⟩:=e.pub 0;replace e:=(e.to [] []).aS (SlO.of_flat (sz:=1) (f:=az) (d:=0) (b:=x) (o:=0) (l:=z) (fun _=>rfl) y);exact aq 39 e (jh (sB x) (((max (lim a).length (lim b).length):Nat)+1:Nat) z (((max (lim a).length (lim b).length):Nat)+1:Nat) p oM oM _ _ e.g e.f.1) (fun _ _ e=>lL e ac (ae e [] (qS (sB x) (tl z (((max (lim a).length (lim b).length):Nat)+1:Nat)) (((max (lim a).length (lim b).length):Nat)+1:Nat)) (RN.trim I Q p (nR _) e.f.1)))
 have B:=oT u;refine lB 19 u (am (cK (cQ (kZ (aa e dl (aq 25 e (HR A c (lim a) ((lim a).length) rfl i oM (Ld.lim _) _ _ e.g e.f.2.1) (fun _ _ e=>lV 26 (mV (j+((lim a).getD i 0))) ?_ (hr:=rU (((j:Int)+(((lim a).getD i 0:Nat):Int))) kR (eA j ((lim a).getD i 0) oM)))))))));refine lL e aD (aq 29 e (HR D d (lim b) ((lim b).length) rfl i oM (Ld.lim _) _ _ e.g e.f.1) (fun _ zb e=>lV 30 (mV ((j+((lim a).getD i 0):Nat)+((lim b).getD i 0))) ?_ (hr:=rU ((((j+((lim a).getD i 0):Nat):Int)+(((lim b).getD i 0:Nat):Int))) kR (eA (j+((lim a).getD i 0):Nat) ((lim b).getD i 0) oM))));refine lL e ac (aG (lL e dl (lV 34 (mW (((j+((lim a).getD i 0):Nat)+((lim b).getD i 0):Nat)%4294967296)) ?_ (hr:=rT ((((j+((lim a).getD i 0):Nat)+((lim b).getD i 0):Nat):Int)) kR (gW _)))));refine lX 35 (sB x) (((max (lim a).length (lim b).length):Nat)+1:Nat) (((max (lim a).length (lim b).length):Nat)+1:Nat) 1 (i:Nat) i rfl (lW 0 z az 1 i (((j+((lim a).getD i 0):Nat)+((lim b).getD i 0):Nat)%4294967296:Nat) e oM (fun _ e=>?_));have Z:((z).set i (((j+((lim a).getD i 0):Nat)+((lim b).getD i 0):Nat)%4294967296:Nat)).length=(((max (lim a).length (lim b).length):Nat)+1:Nat):=by rw[Mg];exact p
 replace e:=e.to [⟨x,141,((z).set i (((j+((lim a).getD i 0):Nat)+((lim b).getD i 0):Nat)%4294967296:Nat)).flatMap az⟩] [];refine lN (kQ (lL e ac (lV 37 (mV (((j+((lim a).getD i 0):Nat)+((lim b).getD i 0):Nat)/4294967296)) ?_ (hr:=aK (n:=Mw (((j+((lim a).getD i 0):Nat)+((lim b).getD i 0):Nat):Int) 4294967296) kR (ei _ 4294967296)))));refine lL e ac (lN (kQ (lL e ac (bp 21 ((i:Nat)+1) (i+1) ?_))));refine lL e ac (lD ?_);intro a_ Y;refine ⟨_,_,?_,⟨i+1,(z).set i (((j+((lim a).getD i 0):Nat)+((lim b).getD i 0):Nat)%4294967296:Nat),(((j+((lim a).getD i 0):Nat)+((lim b).getD i 0):Nat)/4294967296:Nat),zb,rfl,rfl,e.to _ _,oM,Z,(I.set _ oM),oM,(by rw[BN (t:=(lim a).getD i 0+(lim b).getD i 0) oM (hz i (nR _)) inv oM,aF,aF,Lr];omega),(pH oM hz)⟩,Y.to _ kR⟩
 omega
theorem kz (a:Nat)(A:Z9)(c:Nat)(hc:(lim a).length<=c)(b:Nat)(D:Z9)(d:Nat)(hd:(lim b).length<=d)(hLa:(lim a).length<=4000000000)(Z:(lim b).length<=4000000000)(B:b<=a)(w:World)(h:Hp)(g:G w h)(hA:S3 A (lim a) h)(W:S3 D (lim b) h):CR 206 #[.slice A ((lim a).length) c,.slice D ((lim b).length) d] w h (fun v h1=>RN h1 v (a-b)):=by
 have e:=(((sS g).aS hA).aS W);have hlm:=dH B;refine go Tryz.func206 [(0,qS A ((lim a).length) c),(1,qS D ((lim b).length) d)] rfl (aa e ac (aG (lL e [.c,.v (nV ((lim a).length))] (lK 11 141 ((lim a).length) 1 4 (uW 0) az 0 e (fun x w2 Y e=>?_)))));have J:(zY ((lim a).length) 0).length=((lim a).length):=by simp
 refine lL e ac (aG (lL e ac (ag (aa e ac (aZ ?_)))));refine bH _ (CG.loop (fun L Γ V=>∃ (i:Nat)(z:List Nat)(j:Nat)(h_:Hp),L=(lim a).length-i/\Γ=[(0,qS A ((lim a).length) c),(1,qS D ((lim b).length) d),(4,sZ),(5,qS (sB x) ((lim a).length) ((lim a).length)),(7,nV i),(6,mV j)]/\SS w h V h_ [⟨x,141,(z).flatMap az⟩] [] [S3 D (lim b),S3 A (lim a)]/\i<=(lim a).length/\z.length=(lim a).length/\Ld z/\j<=1/\ai 4294967296 z+ai 4294967296 ((lim b).take i)=ai 4294967296 ((lim a).take i)+4294967296^i*j/\(∀ k,i<=k->z.getD k 0=0)) _ ⟨0,zY ((lim a).length) 0,0,Y,rfl,rfl,e.to _ _,My _,J,Ld.rep _,oM,(by rw[dN];simp[ai]),fun k _=>eg⟩ ?_);rintro _ _ w5 ⟨i,z,j,h6,hm7,rfl,e,hi,u,I,K,inv,hz⟩;have O:=(Ld.lim a).get i;have Q:=(Ld.lim b).get i;refine cQ (aa e [.c,.c,.v (nV ((lim a).length))] ?_);cases p:(decide ((i:Int)<(((lim a).length:Nat):Int)))
 .
  have F:=oF p;refine lB 15 p (ah (CG.exit ?_))
  show CG _ _ _ _ _ _ _ _
  refine aa e ac ?_;have M:i=(lim a).length:=by omega
  rw[LU (show (lim a).length<=i by omega),LU (show (lim b).length<=i by omega),di,di,M,<-u] at inv
  have X:ai 4294967296 z=a-b:=xJ I inv B;obtain ⟨h9,e,C,S,U⟩:=e.pub 0;replace e:=(e.to [] []).aS (SlO.of_flat (sz:=1) (f:=az) (d:=0) (b:=x) (o:=0) (l:=z) (fun _=>rfl) C);exact aq 37 e (jh (sB x) ((lim a).length) z ((lim a).length) u oM oM _ _ e.g e.f.1) (fun _ _ e=>lL e ac (ae e [] (qS (sB x) (tl z ((lim a).length)) ((lim a).length)) (RN.trim I X u (nR _) e.f.1)))
 have F:=oT p;refine lB 15 p (am (cK (cQ (kZ (cQ (cR 11 [] mixed e ao ?_))))));refine eV 0 18 (qS A ((lim a).length) c) (eV 1 19 (nV i) (eX 2 20 A ((lim a).length) c 1 (i:Nat) i ((e.f.2.1).ok oM) (eH 3 21 (mW ((lim a).getD i 0)) e ((e.f.2.1).el i oM) (eV 4 22 (mV ((lim a).getD i 0)) ?_ (hv:=fun _=>rU ((((lim a).getD i 0:Nat):Int)) kR (bc oM oM))))));refine eV 5 23 (qS D ((lim b).length) d) (eV 6 24 (nV i) (eV 9 27 (mV j) (au 7 25 e (fun _ _ e=>HR D d (lim b) ((lim b).length) rfl i oM (Ld.lim _) _ _ e.g e.f.1) (fun _ _ e=>eV 8 26 (mV ((((lim a).getD i 0)+(18446744073709551616-((lim b).getD i 0)))%18446744073709551616)) ?_ (hv:=fun _=>rU (((((lim a).getD i 0:Nat):Int)-(((lim b).getD i 0:Nat):Int))) kR (kN ((lim a).getD i 0) ((lim b).getD i 0) oM))))));refine eV 10 28 (mV ((((((lim a).getD i 0)+(18446744073709551616-((lim b).getD i 0)))%18446744073709551616:Nat)+(18446744073709551616-j))%18446744073709551616)) ?_ (hv:=fun _=>rU (((((((lim a).getD i 0)+(18446744073709551616-((lim b).getD i 0)))%18446744073709551616:Nat):Int)-(j:Int))) kR (kN ((((lim a).getD i 0)+(18446744073709551616-((lim b).getD i 0)))%18446744073709551616:Nat) j oM));refine bU e (fun _ zb e=>tV 11 8 (mV ((((((lim a).getD i 0)+(18446744073709551616-((lim b).getD i 0)))%18446744073709551616:Nat)+(18446744073709551616-j))%18446744073709551616)) (qy ?_));obtain ⟨t,ht⟩:∃ t,t=((((((lim a).getD i 0)+(18446744073709551616-((lim b).getD i 0)))%18446744073709551616:Nat)+(18446744073709551616-j))%18446744073709551616:Nat):=⟨_,rfl⟩;obtain ⟨H,y⟩:=AN O Q K ht;rw[ht] at H y
 refine lL e dl (lV 32 (mW (((((((lim a).getD i 0)+(18446744073709551616-((lim b).getD i 0)))%18446744073709551616:Nat)+(18446744073709551616-j))%18446744073709551616:Nat)%4294967296)) ?_ (hr:=rT ((((((((lim a).getD i 0)+(18446744073709551616-((lim b).getD i 0)))%18446744073709551616:Nat)+(18446744073709551616-j))%18446744073709551616:Nat):Int)) kR (gW _)));refine lX 33 (sB x) ((lim a).length) ((lim a).length) 1 (i:Nat) i rfl (lW 0 z az 1 i (((((((lim a).getD i 0)+(18446744073709551616-((lim b).getD i 0)))%18446744073709551616:Nat)+(18446744073709551616-j))%18446744073709551616:Nat)%4294967296:Nat) e oM (fun _ e=>?_));have za:((z).set i (((((((lim a).getD i 0)+(18446744073709551616-((lim b).getD i 0)))%18446744073709551616:Nat)+(18446744073709551616-j))%18446744073709551616:Nat)%4294967296:Nat)).length=((lim a).length):=by rw[Mg];exact u
 replace e:=e.to [⟨x,141,((z).set i (((((((lim a).getD i 0)+(18446744073709551616-((lim b).getD i 0)))%18446744073709551616:Nat)+(18446744073709551616-j))%18446744073709551616:Nat)%4294967296:Nat)).flatMap az⟩] [];refine lN (kQ (lL e ac (lV 35 (mV (((((((lim a).getD i 0)+(18446744073709551616-((lim b).getD i 0)))%18446744073709551616:Nat)+(18446744073709551616-j))%18446744073709551616:Nat)/9223372036854775808)) ?_ (hr:=aK (n:=Mw (((((((lim a).getD i 0)+(18446744073709551616-((lim b).getD i 0)))%18446744073709551616:Nat)+(18446744073709551616-j))%18446744073709551616:Nat):Int) 9223372036854775808) kR (ei _ 9223372036854775808)))));refine lL e ac (lN (kQ (lL e ac (bp 17 ((i:Nat)+1) (i+1) ?_))));refine lL e ac (lD ?_);intro a_ ka;refine ⟨_,_,?_,⟨i+1,(z).set i (((((((lim a).getD i 0)+(18446744073709551616-((lim b).getD i 0)))%18446744073709551616:Nat)+(18446744073709551616-j))%18446744073709551616:Nat)%4294967296:Nat),(((((((lim a).getD i 0)+(18446744073709551616-((lim b).getD i 0)))%18446744073709551616:Nat)+(18446744073709551616-j))%18446744073709551616:Nat)/9223372036854775808:Nat),zb,rfl,rfl,e.to _ _,oM,za,(I.set _ oM),y,(CU oM (hz i (nR _)) inv H),(pH oM hz)⟩,ka.to _ kR⟩
 omega
theorem Fp {x y:Nat}(a:x<4294967296)(b:y<4294967296):x*y<=18446744065119617025:=Md (show x<=4294967295 by omega) (show y<=4294967295 by omega)
theorem xC {a b q r:Nat}(h:a=b*q+r)(hr:r<b):q=a/b/\r=a%b:=by
 subst h;rw[Mi oM,G3 hr,Nat.mul_add_mod,z1 hr];simp
theorem nK {l:List Nat}{k j x:Nat}(hk:k<l.length)(h:∀ i,j<=i->l.getD i 0=0)(a:k<j):∀ i,j<=i->(l.set k x).getD i 0=0:=fun i hi=>by rw[bC hk,if_neg oM];exact h i hi
theorem oC (a:Nat)(A:Z9)(c:Nat)(hc:(lim a).length<=c)(b:Nat)(D:Z9)(d:Nat)(hd:(lim b).length<=d)(hLa:(lim a).length<=4000000000)(hLb:(lim b).length<=4000000000)(w:World)(h:Hp)(g:G w h)(hA:S3 A (lim a) h)(hD:S3 D (lim b) h):CR 178 #[.slice A ((lim a).length) c,.slice D ((lim b).length) d] w h (fun v h1=>RN h1 v (a*b)):=by
 have e:=(((sS g).aS hA).aS hD);refine go Tryz.func178 [(0,qS A ((lim a).length) c),(1,qS D ((lim b).length) d)] rfl (aa e ac (aG (lL e [.c,.v (nV ((lim a).length)),.c,.v (nV ((lim b).length))] (bp 13 (((lim a).length:Nat)+((lim b).length:Nat)) (((lim a).length)+((lim b).length)) ?_))));refine lK 14 141 (((lim a).length)+((lim b).length):Nat) 1 4 (uW 0) az 0 e (fun u w2 h3 e=>?_);have M:(zY (((lim a).length)+((lim b).length):Nat) 0).length=(((lim a).length)+((lim b).length):Nat):=by simp
 refine lL e ac (ag (aa e ac (aZ ?_)));refine bH _ (CG.loop (fun B Γ L=>∃ (i:Nat)(l:List Nat)(h_:Hp),B=(lim a).length-i/\Γ=[(0,qS A ((lim a).length) c),(1,qS D ((lim b).length) d),(4,sZ),(5,qS (sB u) (((lim a).length)+((lim b).length):Nat) (((lim a).length)+((lim b).length):Nat)),(6,nV i)]/\SS w h L h_ [⟨u,141,(l).flatMap az⟩] [] [S3 D (lim b),S3 A (lim a)]/\i<=(lim a).length/\l.length=(lim a).length+(lim b).length/\Ld l/\ai 4294967296 l=ai 4294967296 ((lim a).take i)*b/\(∀ k,i+(lim b).length<=k->l.getD k 0=0)) _ ⟨0,zY (((lim a).length)+((lim b).length):Nat) 0,h3,rfl,rfl,e.to _ _,My _,M,Ld.rep _,(by rw[dN];simp[ai]),fun k _=>eg⟩ ?_);rintro _ _ w5 ⟨i,l,h6,hm7,rfl,e,hi,C,W,hv,hz⟩;have U:=(Ld.lim a).get i;refine cQ (aa e [.c,.c,.v (nV ((lim a).length))] ?_);cases x:(decide ((i:Int)<(((lim a).length:Nat):Int)))
 .
  have J:=oF x;refine lB 18 x (ah (CG.exit ?_))
  show CG _ _ _ _ _ _ _ _
  refine aa e ac ?_;have O:i=(lim a).length:=by omega
  rw[O,yz,di] at hv
  have hE:ai 4294967296 l=a*b:=hv;obtain ⟨h9,e,H,X,Y⟩:=e.pub 0;replace e:=(e.to [] []).aS (SlO.of_flat (sz:=1) (f:=az) (d:=0) (b:=u) (o:=0) (l:=l) (fun _=>rfl) H);exact aq 66 e (jh (sB u) (((lim a).length)+((lim b).length):Nat) l (((lim a).length)+((lim b).length):Nat) C oM oM _ _ e.g e.f.1) (fun _ _ e=>lL e ac (ae e [] (qS (sB u) (tl l (((lim a).length)+((lim b).length):Nat)) (((lim a).length)+((lim b).length):Nat)) (RN.trim W hE C (nR _) e.f.1)))
 have J:=oT x;refine lB 18 x (am (cK (cQ (kZ (aa e ac (ag (aa e ac (aZ ?_))))))));refine bH _ (CG.loop (fun B Γ L=>∃ (j:Nat)(l2:List Nat)(p:Nat)(h_:Hp),B=(lim b).length-j/\Γ=[(0,qS A ((lim a).length) c),(1,qS D ((lim b).length) d),(4,sZ),(5,qS (sB u) (((lim a).length)+((lim b).length):Nat) (((lim a).length)+((lim b).length):Nat)),(6,nV i),(8,nV j),(7,mV p)]/\SS w h L h_ [⟨u,141,(l2).flatMap az⟩] [] [S3 D (lim b),S3 A (lim a)]/\j<=(lim b).length/\l2.length=(lim a).length+(lim b).length/\Ld l2/\p<4294967296/\ai 4294967296 l2+4294967296^(i+j)*p=ai 4294967296 l+4294967296^i*((lim a).getD i 0*ai 4294967296 ((lim b).take j))/\(∀ k,i+(lim b).length<=k->l2.getD k 0=0)) _ ⟨0,l,0,h6,rfl,rfl,e.to _ _,My _,C,W,by omega,(by simp[ai]),hz⟩ ?_);rintro _ _ _ ⟨j,l2,p,ze,Z,rfl,e,hj,y,z,hcy,inv,F⟩;have S:=(Ld.lim b).get j;have hlk:=z.get (i+j);have hxy:=Fp U S;refine cQ (aa e [.c,.c,.v (nV ((lim b).length))] ?_);cases K:(decide ((j:Int)<(((lim b).length:Nat):Int)))
 .
  have zb:=oF K;refine lB 24 K (ah (CG.exit ?_))
  show CG _ _ _ _ _ _ _ _
  refine kQ (lL e [.c,.c,.c,.v (nV ((lim b).length))] (bp 61 ((i:Nat)+((lim b).length:Nat)) (i+((lim b).length)) ?_));refine lL e ac (lV 63 (mW (p%4294967296)) ?_ (hr:=rT ((p:Int)) kR (gW _)));refine lX 64 (sB u) (((lim a).length)+((lim b).length):Nat) (((lim a).length)+((lim b).length):Nat) 1 (i+((lim b).length):Nat) (i+((lim b).length):Nat) rfl (lW 0 l2 az 1 (i+((lim b).length):Nat) (p%4294967296) e oM (fun _ e=>?_));have zc:((l2).set (i+((lim b).length):Nat) (p%4294967296)).length=(((lim a).length)+((lim b).length):Nat):=by rw[Mg];exact y
  replace e:=e.to [⟨u,141,((l2).set (i+((lim b).length):Nat) (p%4294967296)).flatMap az⟩] [];refine lN (kQ (lL e ac (bp 20 ((i:Nat)+1) (i+1) ?_)));refine lL e ac (lD ?_);intro a_ V;refine ⟨_,_,?_,⟨i+1,(l2).set (i+((lim b).length):Nat) (p%4294967296),ze,rfl,rfl,e.to _ _,oM,zc,(z.set _ oM),(by have Q:j=(lim b).length:=oM;rw[Q] at inv;have I:=tL oM inv (F _ oM);rw[di] at I;rw[show p%4294967296=p by omega];exact I.trans (vd hv)),(nK oM (fun k hk=>F k oM) oM)⟩,V.to _ kR⟩
  omega
 have zb:=oT K;refine lB 24 K (am (cK (cQ (kZ (cQ (cR 21 [] mixed e ao ?_))))));refine eV 0 27 (mV p) (eV 1 28 (qS (sB u) (((lim a).length)+((lim b).length):Nat) (((lim a).length)+((lim b).length):Nat)) (eV 2 29 (nV i) (eV 3 30 (nV j) (jG 4 31 ((i:Nat)+(j:Nat)) (i+j) (eX 5 32 (sB u) (((lim a).length)+((lim b).length):Nat) (((lim a).length)+((lim b).length):Nat) 1 (i+j:Nat) (i+j) rfl (eQ 6 33 0 l2 az 1 0 (i+j) (mW ((l2).getD (i+j) 0)) e oM (eV 7 34 (mV ((l2).getD (i+j) 0)) ?_ (hv:=fun _=>rU ((((l2).getD (i+j) 0:Nat):Int)) kR (bc oM oM)))))))));refine eV 8 35 (mV (p+((l2).getD (i+j) 0))) ?_ (hv:=fun _=>rU (((p:Int)+(((l2).getD (i+j) 0:Nat):Int))) kR (eA p ((l2).getD (i+j) 0) oM));refine eV 9 36 (qS A ((lim a).length) c) (eV 10 37 (nV i) (eX 11 38 A ((lim a).length) c 1 (i:Nat) i ((e.f.2.1).ok oM) (eH 12 39 (mW ((lim a).getD i 0)) e ((e.f.2.1).el i oM) (eV 13 40 (mV ((lim a).getD i 0)) ?_ (hv:=fun _=>rU ((((lim a).getD i 0:Nat):Int)) kR (bc oM oM))))));refine eV 14 41 (qS D ((lim b).length) d) (eV 15 42 (nV j) (eX 16 43 D ((lim b).length) d 1 (j:Nat) j ((e.f.1).ok oM) (eH 17 44 (mW ((lim b).getD j 0)) e ((e.f.1).el j oM) (eV 18 45 (mV ((lim b).getD j 0)) ?_ (hv:=fun _=>rU ((((lim b).getD j 0:Nat):Int)) kR (bc oM oM))))));refine eV 19 46 (mV (((lim a).getD i 0)*((lim b).getD j 0))) ?_ (hv:=fun _=>rU (((((lim a).getD i 0:Nat):Int)*(((lim b).getD j 0:Nat):Int))) kR (jg ((lim a).getD i 0) ((lim b).getD j 0) oM));refine eV 20 47 (mV ((p+((l2).getD (i+j) 0):Nat)+(((lim a).getD i 0)*((lim b).getD j 0):Nat))) ?_ (hv:=fun _=>rU ((((p+((l2).getD (i+j) 0):Nat):Int)+((((lim a).getD i 0)*((lim b).getD j 0):Nat):Int))) kR (eA (p+((l2).getD (i+j) 0):Nat) (((lim a).getD i 0)*((lim b).getD j 0):Nat) oM));refine bU e (fun _ zf e=>tV 21 7 (mV ((p+((l2).getD (i+j) 0):Nat)+(((lim a).getD i 0)*((lim b).getD j 0):Nat))) (qy (lL e dl (bp 51 ((i:Nat)+(j:Nat)) (i+j) ?_))));refine lL e ac (lV 53 (mW (((p+((l2).getD (i+j) 0):Nat)+(((lim a).getD i 0)*((lim b).getD j 0):Nat):Nat)%4294967296)) ?_ (hr:=rT ((((p+((l2).getD (i+j) 0):Nat)+(((lim a).getD i 0)*((lim b).getD j 0):Nat):Nat):Int)) kR (gW _)));refine lX 54 (sB u) (((lim a).length)+((lim b).length):Nat) (((lim a).length)+((lim b).length):Nat) 1 (i+j:Nat) (i+j) rfl (lW 0 l2 az 1 (i+j) (((p+((l2).getD (i+j) 0):Nat)+(((lim a).getD i 0)*((lim b).getD j 0):Nat):Nat)%4294967296:Nat) e oM (fun _ e=>?_));have zd:((l2).set (i+j) (((p+((l2).getD (i+j) 0):Nat)+(((lim a).getD i 0)*((lim b).getD j 0):Nat):Nat)%4294967296:Nat)).length=(((lim a).length)+((lim b).length):Nat):=by rw[Mg];exact y
 replace e:=e.to [⟨u,141,((l2).set (i+j) (((p+((l2).getD (i+j) 0):Nat)+(((lim a).getD i 0)*((lim b).getD j 0):Nat):Nat)%4294967296:Nat)).flatMap az⟩] [];refine lN (kQ (lL e ac (lV 56 (mV (((p+((l2).getD (i+j) 0):Nat)+(((lim a).getD i 0)*((lim b).getD j 0):Nat):Nat)/4294967296)) ?_ (hr:=aK (n:=Mw (((p+((l2).getD (i+j) 0):Nat)+(((lim a).getD i 0)*((lim b).getD j 0):Nat):Nat):Int) 4294967296) kR (ei _ 4294967296)))));refine lL e ac (lN (bH [(0,qS A ((lim a).length) c),(1,qS D ((lim b).length) d),(4,sZ),(5,qS (sB u) (((lim a).length)+((lim b).length):Nat) (((lim a).length)+((lim b).length):Nat)),(6,nV i),(8,nV j),(7,mV (((p+((l2).getD (i+j) 0):Nat)+(((lim a).getD i 0)*((lim b).getD j 0):Nat):Nat)/4294967296))] ?_));refine kQ (lL e ac (bp 26 ((j:Nat)+1) (j+1) ?_));refine lL e ac (lD ?_);intro a_ V;refine ⟨_,_,?_,⟨j+1,(l2).set (i+j) (((p+((l2).getD (i+j) 0):Nat)+(((lim a).getD i 0)*((lim b).getD j 0):Nat):Nat)%4294967296:Nat),(((p+((l2).getD (i+j) 0):Nat)+(((lim a).getD i 0)*((lim b).getD j 0):Nat):Nat)/4294967296:Nat),zf,rfl,rfl,e.to _ _,oM,zd,(z.set _ oM),oM,(mt oM inv oM),(nK oM F oM)⟩,V.to _ kR⟩
 omega
theorem Kl (a:Nat)(A:Z9)(c:Nat)(hc:(lim a).length<=c)(hLa:(lim a).length<=4000000000)(d:Nat)(D:0<d)(Z:d<4294967296)(w:World)(h:Hp)(g:G w h)(hA:S3 A (lim a) h):CR 184 #[.slice A ((lim a).length) c,mW d] w h (fun v h1=>∃ V,∃ r:Nat,v=.tuple #[V,mW r]/\RN h1 V (a/d)/\r=a%d):=by
 have e:=((sS g).aS hA);refine go Tryz.func184 [(0,qS A ((lim a).length) c),(1,mW d)] rfl (aa e aD (aG (lL e [.c,.v (nV ((lim a).length))] (lK 11 141 ((lim a).length) 1 4 (uW 0) az 0 e (fun p w2 h3 e=>?_)))));have J:(zY ((lim a).length) 0).length=((lim a).length):=by simp
 refine lL e ac (aG (lL e ac (ag (aa e [.c,.v (nV ((lim a).length))] (lV 14 (iV ((((lim a).length:Nat):Int)-1)) ?_ (hr:=rS ((((lim a).length:Nat)-1)) kR ((gK oM oM).trans oM)))))));refine lL e ac (aZ ?_);refine bH _ (CG.loop (fun L Γ W=>∃ (m:Nat)(z:List Nat)(r:Nat)(h_:Hp),L=m/\Γ=[(0,qS A ((lim a).length) c),(1,mW d),(4,sZ),(5,uW 0),(6,qS (sB p) ((lim a).length) ((lim a).length)),(8,iV ((m:Int)-1)),(7,mV r)]/\SS w h W h_ [⟨p,141,(z).flatMap az⟩] [] [S3 A (lim a)]/\m<=(lim a).length/\z.length=(lim a).length/\Ld z/\a=d*ai 4294967296 z+(4294967296^m*r+ai 4294967296 ((lim a).take m))/\r<d/\(∀ k,k<m->z.getD k 0=0)) _ ⟨(lim a).length,zY ((lim a).length) 0,0,h3,rfl,rfl,e.to _ _,nR _,J,Ld.rep _,(by rw[dN,yz,di];simp),D,fun k _=>eg⟩ ?_);rintro _ _ w5 ⟨m,z,r,X,hm7,rfl,e,hm,j,Q,inv,hr,hz⟩;have I:=(Ld.lim a).get (m-1);refine cQ (aa e ac ?_);cases i:(decide ((0:Int)<=((m:Int)-1:Int)))
 .
  have F:=oF i;refine lB 16 i (ah (CG.exit ?_))
  show CG _ _ _ _ _ _ _ _
  refine aa e ac ?_;have M:m=0:=by omega
  rw[M,MA,LW,List.take_zero] at inv
  have H:a=d*ai 4294967296 z+r:=by simpa [ai] using inv
  obtain ⟨K,O⟩:=xC H hr;have Y:ai 4294967296 z=a/d:=K;obtain ⟨h9,e,C,S,U⟩:=e.pub 0;replace e:=(e.to [] []).aS (SlO.of_flat (sz:=1) (f:=az) (d:=0) (b:=p) (o:=0) (l:=z) (fun _=>rfl) C);refine aq 40 e (jh (sB p) ((lim a).length) z ((lim a).length) j oM oM _ _ e.g e.f.1) (fun _ _ e=>lL e ac (lV 42 (mW r) ?_ (hr:=aK (aK (n:=IntKind.wrap .u32 (r:Int)) kR (gW _)) oM)));exact lL e aD (ae e [] (.tuple #[qS (sB p) (tl z ((lim a).length)) ((lim a).length),mW r]) (⟨_,r,rfl,RN.trim Q Y j (nR _) e.f.1,O⟩))
 have F:=oT i;refine lB 16 i (am (cK (cQ (kZ (aa e ac (lV 20 (mV (r*4294967296%18446744073709551616)) ?_ (hr:=rU (((r:Int)*4294967296)) kR (jF r 4294967296))))))));refine lL e aD (lX 23 A ((lim a).length) c 1 ((m:Int)-1) (m-1) ((e.f.1).ok oM) ?_);refine lH 24 (mW ((lim a).getD (m-1) 0)) e ((e.f.1).el (m-1) oM) (lV 25 (mV ((lim a).getD (m-1) 0)) ?_ (hr:=rU ((((lim a).getD (m-1) 0:Nat):Int)) kR (bc oM oM)));refine lV 26 (mV (r*4294967296+(lim a).getD (m-1) 0)) ?_ (hr:=aK (iw (t:=38) (u:=38) (x:=.tmp 20) (y:=.tmp 25) (a:=(r*4294967296%18446744073709551616)) (b:=((lim a).getD (m-1) 0)) kR kR kR oM oM _) (by rw[z1 (show r*4294967296<18446744073709551616 by omega),rO I]));refine lL e ac (aG (lL e oz (lV 31 (mV d) ?_ (hr:=rU ((d:Int)) kR (bc oM oM)))));have B:=wd (r:=r) (x:=(lim a).getD (m-1) 0) D hr I Z;refine lV 32 (mV ((r*4294967296+(lim a).getD (m-1) 0)/d)) ?_ (hr:=aK (dB (t:=38) (u:=38) (x:=.tmp 29) (y:=.tmp 31) (k:=.u64) (a:=((r*4294967296+(lim a).getD (m-1) 0:Nat):Int)) (b:=(d:Int)) kR kR kR oM _) (kg (r*4294967296+(lim a).getD (m-1) 0) d oM));refine lV 33 (mW (((r*4294967296+(lim a).getD (m-1) 0)/d:Nat)%4294967296)) ?_ (hr:=rT ((((r*4294967296+(lim a).getD (m-1) 0)/d:Nat):Int)) kR (gW _));refine lX 34 (sB p) ((lim a).length) ((lim a).length) 1 ((m:Int)-1) (m-1) rfl (lW 0 z az 1 (m-1) (((r*4294967296+(lim a).getD (m-1) 0)/d:Nat)%4294967296:Nat) e oM (fun _ e=>?_));have za:((z).set (m-1) (((r*4294967296+(lim a).getD (m-1) 0)/d:Nat)%4294967296:Nat)).length=((lim a).length):=by rw[Mg];exact j
 replace e:=e.to [⟨p,141,((z).set (m-1) (((r*4294967296+(lim a).getD (m-1) 0)/d:Nat)%4294967296:Nat)).flatMap az⟩] [];refine lN (kQ (lL e aD (lV 37 (mV d) ?_ (hr:=rU ((d:Int)) kR (bc oM oM)))));refine lV 38 (mV ((r*4294967296+(lim a).getD (m-1) 0)%d)) ?_ (hr:=aK (fj (t:=38) (u:=38) (x:=.tmp 35) (y:=.tmp 37) (k:=.u64) (a:=((r*4294967296+(lim a).getD (m-1) 0:Nat):Int)) (b:=(d:Int)) kR kR kR oM _) (dq (r*4294967296+(lim a).getD (m-1) 0) d));refine lL e ac (lN (kQ (lL e ac (lV 18 (iV (((m-1:Nat):Int)-1)) ?_ (hr:=rS ((((m:Int)-1)-1)) kR ((gK oM oM).trans oM))))));refine lL e ac (lD ?_);intro a_ ka;refine ⟨_,_,?_,⟨m-1,(z).set (m-1) (((r*4294967296+(lim a).getD (m-1) 0)/d:Nat)%4294967296:Nat),((r*4294967296+(lim a).getD (m-1) 0)%d:Nat),X,rfl,rfl,e.to _ _,oM,za,(Q.set _ (z2 _ kD)),(by rw[B.1];exact wT oM oM (hz _ oM) inv B.2.1),B.2.2,(fun k hk=>by rw[bC oM,if_neg oM];exact hz k oM)⟩,ka.to _ kR⟩
 omega
theorem sv {B:List Bx}:∀ (ps:List (Nat × Nat × Nat)) (q:Nat) (a:Addr),(cc B ps)[q]?=some a->∃ p∈ps,a.block=(av B p.1).b:=by
  intro ps
  induction ps with
  | nil=>intro q a h;simp[cc] at h
  | cons p ps ih =>
    intro q a h
    unfold cc at h
    rcases dS q (kF (av B p.1).b p.2.1 p.2.2).length with hl|hl
    . rw[uA hl] at h
      exact ⟨p,by simp,by rw[eZ _ _ _ _ _ h]⟩
    . rw[vj hl] at h
      obtain ⟨d,c,e⟩:=ih _ _ h;exact ⟨d,by simp[c],e⟩
section
variable {M:Ms}{P:Program}{n:Nat}{N R:Po}{X:Nat->Po}{ops:Array Oper}{k k0:Nat}{L:Array Bool}{Γ:cl}{w:World}{h:Hp}{w0:World}{h0:Hp}{B:List Bx}{Rs:List Rw}{F:List (Hp->Prop)}
theorem JV {α:Type}(j:Nat)(l:List α)(f:α->List Value)(sz e:Nat)(x:α)(s:SS w0 h0 w h B Rs F)(hk:e<l.length)(H:∀ w',Put (av B j).b w w'->SS w0 h0 w' h (gJ B j ((l.set e x).flatMap f)) Rs F->LG P n N R X ops (k+1) Γ w')(c:cS ops Γ k=true:=by kernel_rfl)
  (a:decide (j<B.length)=true:=by kernel_rfl)(hB:(av B j).vs=l.flatMap f:=by kernel_rfl)(hf:∀ x,(f x).length=sz:=by intro _;rfl)
  (i:dE P (execOp (ev Γ) (ak ops k))=some (.skip,lf (av B j).b (0+e*sz) (f x)):=by kernel_rfl):LG P n N R X ops k Γ w :=
 LG.putA j l f sz e x s.st s.g0 (iu c).1 (iu c).2 a hB hf hk i (fun w' p d=>H w' p (s.put0 (oT a) p d (j9 (oT a))))
theorem Lm {α:Type}(i j:Nat)(l:List α)(f:α->List Value)(sz e:Nat)(x:α)(s:SS w0 h0 w h B Rs F)(hk:e<l.length)(H:∀ w',Put (av B j).b w w'->SS w0 h0 w' h (gJ B j ((l.set e x).flatMap f)) Rs F->AG M P n N R X ops k0 (L.setIfInBounds i true) Γ w')(c:HS ops k0 L Γ i=true:=by kernel_rfl)
  (a:decide (j<B.length)=true:=by kernel_rfl)(hB:(av B j).vs=l.flatMap f:=by kernel_rfl)(hf:∀ x,(f x).length=sz:=by intro _;rfl)
  (o:dE P (execOp (ev Γ) (ak ops i))=some (.skip,lf (av B j).b (0+e*sz) (f x)):=by kernel_rfl)(hz:∀ K bs,M.z=some (K,bs)->K<=(av B j).b\/(av B j).b∈bs:=by intro _ _ e;cases e):AG M P n N R X ops k0 L Γ w :=
 T.putA i j l f sz e x s.st s.g0 (kB c).1 (kB c).2 a hB hf hk o (fun w' p d=>H w' p (s.put0 (oT a) p d (j9 (oT a)))) hz
theorem aQ {α:Type}(i t j:Nat)(l:List α)(f:α->List Value)(sz:Nat)(d:α)(e:Nat)(v:Value)(s:SS w0 h0 w h B Rs F)(hk:e<l.length)(H:AG M P n N R X ops k0 (L.setIfInBounds i true) ((t,v)::Γ) w)(hM:(av B j).b ∉ M.l:=by exact List.not_mem_nil)(C:B4 n ops k0 [] L Γ i t=true:=by kernel_rfl)
  (z:decide (j<B.length)=true:=by kernel_rfl)(hB:(av B j).vs=l.flatMap f:=by kernel_rfl)(hf:∀ x,(f x).length=sz:=by intro _;rfl)
  (y:bS P (execOp (ev Γ) (ak ops i)) (f (l.getD e d))=some (.value v,kF (av B j).b (0+e*sz) (f (l.getD e d)).length):=by kernel_rfl):AG M P n N R X ops k0 L Γ w :=
 aL i t v (fun w' o=>bR _ _ _ _ y (fun q a u ha c=>by
  rw[eZ _ _ _ _ _ ha,((s.st.own _ (bu (oT z))).mo o hM).cell,hB];rw[<-fS hf d l e hk] at c
  have p:q<sz:=by
   rcases dS q sz with hl|hl
   ·exact hl
   ·rw[s9 (by simp;omega)] at c;cases c
  rw[u9 p,vi] at c
  rw[y8];exact c)) H C
theorem Dh (t j:Nat){f:FuncId}{args:Array Value}{Φ:Value->Prop}(s:SS w0 h0 w h B Rs F)(c:∀ hp,G w hp->AllF F hp->Seg hp (av B j).b 0 (av B j).vs->Calls P f args w (Ret w hp (fun v _=>Φ v)))(H:∀ v w' a,Up w h w' a->SS w0 h0 w' a B Rs F->Φ v->LG P n N R X ops (k+1) ((t,v)::Γ) w')(e:decide (j<B.length)=true:=by kernel_rfl)(i:cL ops Γ k t n=true:=by kernel_rfl)(hr:(execOp (ev Γ) (ak ops k)).run P w=.ok (.enter f args) w:=by kernel_rfl):LG P n N R X ops k Γ w :=
 kd t (s.lends (oT e) c) (fun v w' a u d=>H v w' a u (s.step u) d) i hr
theorem SS.lends2 (s:SS w0 h0 w h B Rs F){i j:Nat}(hi:i<B.length)(J:j<B.length)(z:i≠j){f:FuncId}{args:Array Value}{Φ:Value->Prop}(c:∀ a,G w a->AllF F a->Seg a (av B i).b 0 (av B i).vs->Seg a (av B j).b 0 (av B j).vs->Calls P f args w (Ret w a (fun v _=>Φ v))):Calls P f args w (Ret w h (fun v _=>Φ v)):=by
 have D:=bu hi;have l:=bu J;have Q:(av B j).b≠(av B i).b:=gC s.st (decide_eq_true J) (decide_eq_true hi) (by simpa using z.symm);obtain ⟨a,g,gw,M,H⟩:=CM s.g (s.st.jk _ D) (s.st.own _ D);have o:a[(av B j).b]?=some be:=by rw[H _ Q];exact s.st.jk _ l
 obtain ⟨y,I,d,C,x⟩:=CM g o (s.st.own _ l);refine (c y I ((s.f.gw s.mo gw).gw s.mo d) (M.gw d) C).mono ?_;rintro e w' ⟨v,S,O,u,p⟩;obtain ⟨h1,u1⟩:=rZ o x (g.sz I) u;obtain ⟨K,L⟩:=rZ (s.st.jk _ D) H (s.g.sz g) u1;exact ⟨v,K,O,L,p⟩
theorem Ka (t i j:Nat){f:FuncId}{args:Array Value}{Φ:Value->Prop}(s:SS w0 h0 w h B Rs F)(c:∀ hp,G w hp->AllF F hp->Seg hp (av B i).b 0 (av B i).vs->Seg hp (av B j).b 0 (av B j).vs->Calls P f args w (Ret w hp (fun v _=>Φ v)))(H:∀ v w' h',SS w0 h0 w' h' B Rs F->Φ v->LG P n N R X ops (k+1) ((t,v)::Γ) w')(a:(decide (i<B.length) && decide (j<B.length) && (i != j))=true:=by kernel_rfl)(d:cL ops Γ k t n=true:=by kernel_rfl)(hr:(execOp (ev Γ) (ak ops k)).run P w=.ok (.enter f args) w:=by kernel_rfl):LG P n N R X ops k Γ w:=by
 simp only[i3,decide_eq_true_eq,bne_iff_ne,ne_eq] at a
 exact lC t s (s.lends2 a.1.1 a.1.2 a.2 c) H d hr
theorem Co {w w':World}{h j f:Hp}{b:Nat}{M:List Nat}(l:h[b]?=some be)(p:∀ c,c≠b->j[c]?=h[c]?)(i:j.size=h.size)(u:UpM M w j w' f):∃ d,UpM M w h w' d/\(∀ c,c≠b->d[c]?=f[c]?):=by
 have x:=aR l;have a:b<f.size:=e4 oM u.gr.size;refine ⟨f.setIfInBounds b be,⟨u.mo,⟨by simp;rw[<-i];exact u.gr.size,fun c o=>?_⟩,⟨by simp;exact u.g.size,fun c=>?_⟩⟩,fun c o=>i2 (Ne.symm o)⟩
 ·by_cases e:b=c
  ·subst e;rw[As a,l]
  ·rw[i2 e,u.gr.blk c oM,p c (Ne.symm e)]
 ·by_cases e:b=c
  ·subst e;right;rw[As a]
  ·rw[i2 e];exact u.g.blk c
theorem IZ (t i j:Nat){f:FuncId}{args:Array Value}{Φ:Value->World->Prop}(s:SS w0 h0 w h B Rs F)(c:∀ l,G w l->AllF F l->l[(av B i).b]?=some be->Seg l (av B j).b 0 (av B j).vs->Calls P f args w (eW (av B i).b w l (fun v w' _=>Φ v w')))(H:∀ v w' o,UpM [(av B i).b] w h w' o->Φ v w'->LG P n N R X ops (k+1) ((t,v)::Γ) w')(a:(decide (i<B.length) && decide (j<B.length) && (i != j))=true:=by kernel_rfl)(J:cL ops Γ k t n=true:=by kernel_rfl)(hr:(execOp (ev Γ) (ak ops k)).run P w=.ok (.enter f args) w:=by kernel_rfl):LG P n N R X ops k Γ w:=by
 simp only[i3,decide_eq_true_eq,bne_iff_ne,ne_eq] at a
 have x:=bu a.1.2;have D:(av B i).b≠(av B j).b:=gC s.st (decide_eq_true a.1.1) (decide_eq_true a.1.2) (by simpa using a.2);obtain ⟨l,g,gw,z,y⟩:=CM s.g (s.st.jk _ x) (s.st.own _ x);refine gh (rb:=(av B i).b) (Φ:=fun v w' _=>Φ v w') (h:=h) t ((c l g (s.f.gw s.mo gw) (by rw[y _ D];exact s.st.jk _ (bu a.1.1)) z).mono ?_) (fun v w' o u d=>H v w' o u d) J hr;rintro e w' ⟨v,o,C,u,d⟩;obtain ⟨p,I,_⟩:=Co (s.st.jk _ x) y (s.g.sz g) u;exact ⟨v,p,C,I,d⟩
theorem Lb {α:Type}(t j:Nat)(x y:Operand)(D e:TypeId)(f:α->List Value)(d:α)(A:Z9)(l2:List α)(m m2 c V:Nat)(s:SS w0 h0 w h B Rs F)(so:SlO 1 f d h A l2)(K:l2.length=m2)(O:m2=m)(U:0<m)(i:(av B j).vs.length=m)
  (H:∀ w',SS w0 h0 w' h (gJ B j (l2.flatMap f)) Rs F->LG P n N R X ops (k+1) ((t,.int .i64 (m:Nat))::Γ) w')(S:m<=1099511627776:=by omega)(I:cL ops Γ k t n=true:=by kernel_rfl)(Z:decide (j<B.length)=true:=by kernel_rfl)
  (hf:∀ x,(f x).length=1:=by intro _;rfl)(h1:∀ x,(f x).all (·.oneCell')=true:=by intro _;kernel_rfl)(Y:(ak ops k).op=.call { callee:=.builtin .copy,args:=#[x,y],argTypes:=#[D,D] }:=by kernel_rfl)(W:ev Γ x=.slice (some ⟨(av B j).b,0,none⟩) m V:=by kernel_rfl)(Q:ev Γ y=.slice A m2 c:=by kernel_rfl)
  (M:P.underlying D=some (.slice e):=by kernel_rfl)(hi:(P.info? e).map (·.size)=some 1:=by kernel_rfl):LG P n N R X ops k Γ w:=by
 subst O;have hm:=K;have o:=oT Z;have z:=s.st.own _ (bu o);have C:(l2.flatMap f).length=m2:=by rw[bX hf,hm];omega
 rw[so.ok oM] at Q
 have l:=run_copy_row (P:=P) w D D (ak ops k).type e (av B j).b 0 m2 V ⟨aB A,aO A,none⟩ m2 c (av B j).vs.toArray (av B j).t (l2.flatMap f) M hi z (by rw[C];exact (Nat.min_self m2).symm) (gT s.g (so.flat hf)) (by rw[C];simp[i]) (fun u M=>by
  obtain ⟨a,_,ha⟩:=Mm.1 M;exact (oi.1 (h1 a)) u ha)
 have e1:((av B j).vs.toArray.toList.take 0++l2.flatMap f++(av B j).vs.toArray.toList.drop (0+(l2.flatMap f).length)).toArray=(l2.flatMap f).toArray:=by
  rw[C];simp[Mq,i]
 rw[e1,C] at l
 have p:Put (av B j).b w (w.setRow (av B j).b (l2.flatMap f).toArray):=⟨rfl,rfl,rfl,by simp,fun c I=>setRow_other _ _ _ _ I⟩
 have L:Own (w.setRow (av B j).b (l2.flatMap f).toArray) (av B j).b (av B j).t (bY (av B j).vs 0 (l2.flatMap f)):=by
  have e2:bY (av B j).vs 0 (l2.flatMap f)=l2.flatMap f:=by
   have:=i5 (l2.flatMap f) (av B j).vs [] (by rw[i,C])
   simpa using this
  rw[e2];exact setRow_heap _ _ _ _ _ _ z
 have J:=s.st.put s.g0 o p L
 have e2:bY (av B j).vs 0 (l2.flatMap f)=l2.flatMap f:=by
  have:=i5 (l2.flatMap f) (av B j).vs [] (by rw[i,C])
  simpa using this
 unfold gl at J
 rw[e2] at J
 refine LG.val t _ _ (bQ I).1 (bQ I).2 ?_ (H _ (s.put0 o p J (j9 o)))
 unfold execOp
 have e3:goInt m2=.int .i64 (m2:Nat):=rfl;rw[e3] at l
 simp only[Y,resolve,invoke,builtin,Sem.run_bind,Sem.run_pure,Result.andThen_ok,Mu,Af,Mv,W,Q,l]
theorem pK {Q:Exit->Act->World->Prop}{i:Nat}{x:Oper}{v:Value}{S:World->Prop}(hi:ops[i]?=some x)(l:∀ (j:Nat) (o:Oper) cs b,ops[j]?=some o->o.op≠.select cs b)
    (X:∀ c a w,Q (.panic c) (a.put x.dst v) w->Q (.panic c) a w)(V:∀ w w',S w->Tl M w w'->S w') :
    ∀ (n:Nat) (L:Array Bool) (a:Act) (w:World),
      (∀ j u,ops[j]?=some u->j≠i->L.getD j true=false->(∀ e∈u.after,Region.binds .any e=true->e.on≠i)->x.apart ops u=true) ->
      i∈Region.ready .any ops L->YieldsIf P ops S x v a->S w->rW M P ops Q 0 n (L.setIfInBounds i true) (a.put x.dst v) w->rW M P ops Q 0 (n+1) L a w:=by
  intro n
  induction n with
  | zero =>
    intro L a w _ hr D I H;refine ⟨fun h=>(by rw[h] at hr;cases hr),fun j J=>?_⟩
    by_cases hji:j=i
    . subst hji;exact D.wpOp hi I ⟨Rl.refl _ _ _ _,H⟩
    . have:=ready_mono J hji
      rw[H.1] at this
      cases this
  | succ n ih =>
    intro L a w d hr D I H;refine ⟨fun h=>(by rw[h] at hr;cases hr),fun j J=>?_⟩
    by_cases hji:j=i
    . subst hji;exact D.wpOp hi I ⟨Rl.refl _ _ _ _,H⟩
    . have h1:=H.2 j (ready_mono J hji)
      obtain ⟨p,u,y,C⟩:=mem_ready.1 J
      have B:∀ e∈u.after,Region.binds .any e=true->e.on≠i:=fun e Z hb O=>by
        have h1:=C e Z hb;have h0:=(mem_ready.1 hr).1;rw[O] at h1
        obtain ⟨hl,K⟩:=HM h0
        simp[Array.getD,hl,K] at h1
      have Y:=wpOp_putIf y (d j u y hji p B) (fun cs b=>l i x cs b hi) (fun cs b=>l j u cs b y) X D h1
      have f:∀ k ok,ops[k]?=some ok->k≠i->(L.setIfInBounds j true).getD k true=false ->
          (∀ e∈ok.after,Region.binds .any e=true->e.on≠i)->x.apart ops ok=true:=fun k ok hk W z U=>by
        refine d k ok hk W ?_ U
        by_cases hjk:j=k
        . subst hjk;exact p
        . rw[getD_set_ne true hjk] at z;exact z
      refine wpOp_mono (fun a' w' F=>⟨F.2.1,ih (L.setIfInBounds j true) a' w' f (ready_mono hr (Ne.symm hji)) F.1 (V _ _ I (F.2.1.2 (My _))) ?_⟩) Y;rw[Array.setIfInBounds_comm _ _ hji];exact F.2.2
def vy (n:Nat)(ops:Array Oper)(L:Array Bool)(Γ:cl)(i t:Nat):Bool :=
  decide (i<ops.size) && Region.noSelect ops && Region.free .any ops L i && (Region.ready .any ops L).contains i && ((ak ops i).dst == some t) && decide (t<n) && aY Γ (ak ops i) && (bg ops Γ (ak ops i) == some true)
theorem E5 (i t:Nat)(v:Value){S:World->Prop}(l:∀ w w',S w->Tl M w w'->S w')(D:S w)(hv:∀ w',S w'->(execOp (ev Γ) (ak ops i)).run P w'=.ok (.value v) w')(H:AG M P n N R X ops 0 (L.setIfInBounds i true) ((t,v)::Γ) w)(e:vy n ops L Γ i t=true):AG M P n N R X ops 0 L Γ w:=by
 unfold vy at e
 simp only[i3,decide_eq_true_eq,beq_iff_eq] at e
 obtain ⟨⟨⟨⟨⟨⟨⟨h1,p⟩,C⟩,y⟩,B⟩,x⟩,z⟩,K⟩:=e;have hr:i∈Region.ready .any ops L:=by simpa using y
 have b:=bv (ops:=ops) h1;intro a h;have e1:=h.exec (Region.noSelect_spec p i _ · · b) z;have I:=H _ (h.put x v)
 unfold A at *
 rw[fU hr];refine pK (S:=S) b (Region.noSelect_spec p) (fun c a w F=>F.elim) l _ _ _ _ (fun j u J f d=>Region.free_spec b C j u J f d) hr (.inl ⟨h.want K,fun w' o=>by rw[e1];exact hv w' o⟩) D ?_;rw[B];exact I
theorem zV (i t:Nat)(v:Value)(H:AG M P n N R X ops 0 (L.setIfInBounds i true) ((t,v)::Γ) w)(a:vy n ops L Γ i t=true:=by kernel_rfl)(hv:∀ w,(execOp (ev Γ) (ak ops i)).run P w=.ok (.value v) w:=by intro _;kernel_rfl):AG M P n N R X ops 0 L Γ w :=
 E5 i t v (S:=fun _=>True) (fun _ _ _ _=>trivial) trivial (fun w' _=>hv w') H a
theorem zO {K:Nat}(i t:Nat)(ps:List (Nat × Nat × Nat))(v:Value)(hz:M.z=some (K,[]))(C:K<=w.heap.size)(s:SS w0 h0 w h B Rs F)(d:∀ p∈ps,(av B p.1).b<K)(H:AG M P n N R X ops 0 (L.setIfInBounds i true) ((t,v)::Γ) w)(I:vy n ops L Γ i t=true:=by kernel_rfl)(J:cC B ps=true:=by kernel_rfl)(D:bS P (execOp (ev Γ) (ak ops i)) (dj B ps)=some (.value v,cc B ps):=by kernel_rfl):AG M P n N R X ops 0 L Γ w :=
 E5 i t v (S:=fun w'=>K<=w'.heap.size/\∀ b,b<K->w'.heap[b]?=w.heap[b]?) (fun w1 w2 c l=>by
  obtain ⟨h1,y⟩:=l K [] hz;exact ⟨ep c.1 h1,fun b j=>(y b j List.not_mem_nil).trans (c.2 b j)⟩) ⟨C,fun _ _=>rfl⟩ (fun w' c=>bR _ _ _ _ D (fun q a u ha O=>by
  obtain ⟨p,f,e⟩:=sv ps q a ha;have:=dh (fun x o=>s.st.own x o) ps J q a u ha O;rw[<-this]
  unfold World.cell?
  rw[c.2 _ (e▸d p f)])) H I
theorem zC (i t:Nat){f:FuncId}{args:Array Value}(c:Calls P f args w fun e w'=>∃ v,e=.returned v/\Tl M w w'/\AG M P n N R X ops 0 (L.setIfInBounds i true) ((t,v)::Γ) w')(j:(g6 ops 0 L i && aY Γ (ak ops i) && ((ak ops i).dst == some t) && decide (t<n))=true:=by kernel_rfl)(x:bg ops Γ (ak ops i)=some true:=by kernel_rfl)
  (hr:(execOp (ev Γ) (ak ops i)).run P w=.ok (.enter f args) w:=by kernel_rfl):AG M P n N R X ops 0 L Γ w:=by
 simp only[i3,decide_eq_true_eq,beq_iff_eq] at j
 obtain ⟨⟨⟨h1,o⟩,p⟩,l⟩:=j;obtain ⟨h,u⟩:=lm h1;intro a d;refine A.one h1 h (R':=fun v w'=>Tl M w w'/\AG M P n N R X ops 0 (L.setIfInBounds i true) ((t,v)::Γ) w') ⟨d.want x,.inr (.inr ⟨f,args,?_,c⟩)⟩ (fun v w' b=>b.1) (fun v w' b=>?_)
 ·rw[d.exec (Region.noSelect_spec u i _ · · h) o];exact hr
 ·rw[p];exact b.2 _ (d.put l v)
theorem He {K:Nat}{w':World}(hz:M.z=some (K,[]))(a:K<=w.heap.size)(x:Ext w w'):Tl M w w':=fun c bs e=>by
 rw[hz] at e
 injection e with e;injection e with e1 e2
 subst e1 e2;exact ⟨x.size,fun b d _=>Below.block x b oM⟩
theorem Jj {K b:Nat}{w':World}(hz:M.z=some (K,[]))(d:K<=w.heap.size)(h:K<=b)(x:Mo [b] w w'):Tl M w w':=fun f bs e=>by
 rw[hz] at e
 injection e with e;injection e with e1 e2
 subst e1 e2;exact ⟨x.size,fun c a _=>x.blk c oM (by simp;omega)⟩
theorem sH {K:Nat}(i t:Nat){f:FuncId}{args:Array Value}{Φ:Value->Hp->Prop}(c:Calls P f args w (Ret w h Φ))(hz:M.z=some (K,[]))(d:K<=w.heap.size)(H:∀ v w' a,Up w h w' a->K<=w'.heap.size->Φ v a->AG M P n N R X ops 0 (L.setIfInBounds i true) ((t,v)::Γ) w')(l:(g6 ops 0 L i && aY Γ (ak ops i) && ((ak ops i).dst == some t) && decide (t<n))=true:=by kernel_rfl)(o:bg ops Γ (ak ops i)=some true:=by kernel_rfl)
  (hr:(execOp (ev Γ) (ak ops i)).run P w=.ok (.enter f args) w:=by kernel_rfl):AG M P n N R X ops 0 L Γ w :=
 zC i t (c.mono fun e w' ⟨v,a,j,u,b⟩=>⟨v,j,He hz d u.ext,H v w' a u (ep d u.ext.size) b⟩) l o hr
theorem Kz {K rb:Nat}(i t:Nat){f:FuncId}{args:Array Value}{Φ:Value->World->Hp->Prop}(c:Calls P f args w (eW rb w h Φ))(hz:M.z=some (K,[]))(j:K<=w.heap.size)(d:K<=rb)(H:∀ v w' a,UpM [rb] w h w' a->K<=w'.heap.size->Φ v w' a->AG M P n N R X ops 0 (L.setIfInBounds i true) ((t,v)::Γ) w')(o:(g6 ops 0 L i && aY Γ (ak ops i) && ((ak ops i).dst == some t) && decide (t<n))=true:=by kernel_rfl)(p:bg ops Γ (ak ops i)=some true:=by kernel_rfl)
  (hr:(execOp (ev Γ) (ak ops i)).run P w=.ok (.enter f args) w:=by kernel_rfl):AG M P n N R X ops 0 L Γ w :=
 zC i t (c.mono fun e w' ⟨v,a,l,u,b⟩=>⟨v,l,Jj hz j d u.mo,H v w' a u (ep j u.mo.size) b⟩) o p hr
theorem ff (s:SS w0 h0 w h B Rs F)(j:Nat)(a:decide (j<B.length)=true:=by kernel_rfl):(av B j).b<w.heap.size:=by rw[s.g.size];exact aR (s.jk j a)
theorem HQ (t b o len a sz:Nat)(i:Int)(j e:Nat)(H:LG P n N R X ops (k+1) ((t,.pointer (some ⟨b,0+e*sz,none⟩))::Γ) w)(f:cL ops Γ k t n=true:=by kernel_rfl)(h:CD P (ev Γ) (ak ops k)=some (.slice (some ⟨b,o,none⟩) len a,.int .i64 i,sz):=by kernel_rfl)(hk:i=j:=by omega)(d:j<len:=by omega)(c:o+j*sz=0+e*sz:=by omega):LG P n N R X ops k Γ w :=
 LG.val t _ w (bQ f).1 (bQ f).2 (c▸ik h rfl hk d w) H
theorem KX (i t b o len a sz:Nat)(x:Int)(j e:Nat)(H:AG M P n N R X ops k0 (L.setIfInBounds i true) ((t,.pointer (some ⟨b,0+e*sz,none⟩))::Γ) w)(f:cE n ops k0 [] L Γ i t=true:=by kernel_rfl)(h:CD P (ev Γ) (ak ops i)=some (.slice (some ⟨b,o,none⟩) len a,.int .i64 x,sz):=by kernel_rfl)(hk:x=j:=by omega)(d:j<len:=by omega)(c:o+j*sz=0+e*sz:=by omega):AG M P n N R X ops k0 L Γ w :=
 aV i t _ H f (fun w=>c▸ik h rfl hk d w)
theorem Lh (i t b o len a sz:Nat)(x:Int)(j e:Nat)(H:AG M P n N R X ops k0 (L.setIfInBounds i true) ((t,.pointer (some ⟨b,0+e*sz,none⟩))::Γ) w)(f:cT n ops k0 L Γ i t=true:=by kernel_rfl)(h:CD P (ev Γ) (ak ops i)=some (.slice (some ⟨b,o,none⟩) len a,.int .i64 x,sz):=by kernel_rfl)(hk:x=j:=by omega)(d:j<len:=by omega)(c:o+j*sz=0+e*sz:=by omega):AG M P n N R X ops k0 L Γ w :=
 T.val i t _ w (iA f).1 (iA f).2 (c▸ik h rfl hk d w) H
theorem Lo (t b o len a sz:Nat)(i:Int)(j f:Nat)(H:LG P n N R X ops (k+1) ((t,.slice (some ⟨b,f,none⟩) (len-j) (a-j))::Γ) w)(p:cL ops Γ k t n=true:=by kernel_rfl)(u:B2 P (ev Γ) (ak ops k)=some (.slice (some ⟨b,o,none⟩) len a,some (.int .i64 i),none,sz):=by kernel_rfl)(hk:i=j:=by omega)(l:j<=len:=by omega)(c:a≠j:=by omega)(d:f=o+j*sz:=by omega):LG P n N R X ops k Γ w:=by
 have h:=lr j u hk l w;rw[if_neg c] at h
 have e:(some (⟨b,o,none⟩:Addr)).map (·.add (j*sz))=some ⟨b,f,none⟩:=by subst d;simp[Addr.add]
 rw[e] at h
 exact LG.val t _ w (bQ p).1 (bQ p).2 h H
theorem SS.torow {α:Type}(s:SS w0 h0 w h B Rs F)(j:Nat)(f:α->List Value)(l:List α)(sz m:Nat)(C:l.length=m)(D:m<=1099511627776)(hB:(av B j).vs=l.flatMap f:=by kernel_rfl)(hf:∀ x,(f x).length=sz:=by intro _;rfl)(y:decide (j<B.length)=true:=by kernel_rfl) :
    SS w0 h0 w h (B.eraseIdx j) (⟨(av B j).t,sz,some ⟨(av B j).b,0,none⟩,m,m,l.flatMap f⟩::Rs) F:=by
  have p:=oT y;have d:=bu p;have H:=s.st.own _ d
  have z:∀ x∈B.eraseIdx j,x.b≠(av B j).b:=by
    intro x a c;obtain ⟨i,hi,u⟩:=ua.1 a;rw[Aw] at u
    rw[AS p] at hi
    split at u
    . rename_i I
      refine gC s.st (i:=i) (j:=j) (decide_eq_true oM) y (by simp;omega) ?_;rw[<-c,<-u];simp[av,show i<B.length by omega]
    . rename_i I
      refine gC s.st (i:=i+1) (j:=j) (decide_eq_true oM) y (by simp;omega) ?_;rw[<-c,<-u];simp[av,show i+1<B.length by omega]
  refine ⟨s.g0,⟨s.st.up,fun x a=>s.st.own x (A6 a),fun x a=>s.st.jk x (A6 a),fun x a=>s.st.lo x (A6 a),s.st.nd.sublist ((A7 B j).map (·.b))⟩,?_,?_,s.mo,s.f⟩
  . intro r hr
    rcases g2.1 hr with rfl|hr
    . refine ⟨⟨by rw[bX hf,C],.inr ⟨(av B j).b,m,(av B j).vs.toArray,rfl,s.st.lo _ d,H,eb _,by unfold maxLen;omega,by rw[hB];simp[bX hf,C],by rw[hB];simp[LU,bX hf,C]⟩⟩,?_,?_⟩
      . intro b c
        have:(av B j).b=b:=by simpa [Rw.v,Value.ownBlock] using c
        rw[<-this];exact s.st.jk _ d
      . intro b c o
        have:(av B j).b=b:=by simpa [Rw.v,Value.ownBlock] using c
        obtain ⟨x,a,e⟩:=gx.1 o;exact z x a (e.trans this.symm)
    . exact (s.ro r hr).sub _ (fun b c=>by
        obtain ⟨x,a,e⟩:=gx.1 c;exact gx.2 ⟨x,A6 a,e⟩)
  . refine Mn.2 ⟨fun r hr b c hv=>?_,s.ap⟩
    have:(av B j).b=b:=by simpa [Rw.v,Value.ownBlock] using c
    exact (s.ro r hr).ap b hv (this▸gx.2 ⟨_,d,rfl⟩)
theorem JQ {α:Type}(t j m D:Nat)(l:List α)(f:α->List Value)(d x:α)(c:Nat)(z:Value)(s:SS w0 h0 w h B Rs F)(M:Seg h D 0 (f x))(K:l.length=m)(J:m<=1000000000)
  (H:∀ a c' w' i,SS w0 h0 w' i (B.eraseIdx j) Rs ((fun h=>SlO 1 f d h a (l++[x]))::F)->m+1<=c'->LG P n N R X ops (k+1) ((t,.slice a (m+1) c')::Γ) w')(S:cL ops Γ k t n=true:=by kernel_rfl)(Q:decide (j<B.length)=true:=by kernel_rfl)(hB:(av B j).vs=l.flatMap f:=by kernel_rfl)
  (O:pr P (ev Γ) (ak ops k)=some (.slice (some ⟨(av B j).b,0,none⟩) m m,.slice (some ⟨D,0,none⟩) 1 1,(av B j).t,z,1,c):=by kernel_rfl)(e:z.cells.size=1:=by kernel_rfl)(hf:∀ x,(f x).length=1:=by intro _;rfl)(h1:(f x).all (·.oneCell')=true:=by kernel_rfl)(y:c<=100:=by decide):LG P n N R X ops k Γ w:=by
 have I:=s.torow j f l 1 m K oM hB hf Q
 refine Kj t 0 (f x) I (jU I.g M) (hf x) (fun u U=>(oi.1 h1) u U) (by simp) rfl S O e kD oM (by
  have:(m+1)*c<=(m+1)*100:=LD _ y
  omega) (fun a c' w' i C=>?_)
 have e1:m+1=(l++[x]).length:=by simp[K]
 have e2:l.flatMap f++f x=(l++[x]).flatMap f:=by simp
 rw[e2,Mr] at C
 have L:SS w0 h0 w' i (B.eraseIdx j) (⟨(av B j).t,1,a,c',(l++[x]).length,(l++[x]).flatMap f⟩::Rs) F:=by rw[<-e1];exact C
 obtain ⟨p,V,o⟩:=L.pubr 0 d hf rfl (by simp);exact H a c' w' p V (by rw[e1];exact o)
theorem SS.perm (s:SS w0 h0 w h B Rs F){c:List Bx}(p:B.Perm c):SS w0 h0 w h c Rs F :=
 ⟨s.g0,⟨s.st.up,fun x a=>s.st.own x (p.mem_iff.2 a),fun x a=>s.st.jk x (p.mem_iff.2 a),fun x a=>s.st.lo x (p.mem_iff.2 a),(p.map (·.b)).nodup_iff.1 s.st.nd⟩,
  fun r hr=>(s.ro r hr).sub _ (fun b d=>(p.map (·.b)).mem_iff.2 d),s.ap,s.mo,s.f⟩
end
theorem kv (a:Nat)(A:Z9)(c:Nat)(hc:(lim a).length<=c)(hLa:(lim a).length<=4000000000)(k:Nat)(hk:k<=4000000000)(w:World)(h:Hp)(g:G w h)(hA:S3 A (lim a) h):CR 185 #[.slice A ((lim a).length) c,nV k] w h (fun v h1=>RN h1 v (a*2^k)):=by
 have d:=((sS g).aS hA);obtain ⟨L,hL⟩:∃ L:List Nat,L=zY (k/32) 0:=⟨_,rfl⟩;have D:L.length=k/32:=by rw[hL,List.length_replicate]
 refine go Tryz.func185 [(0,qS A ((lim a).length) c),(1,nV k)] rfl (aa d ac (ag (aa d ac ?_)));have ⟨K,Q⟩:=dT (p:=(0:Int)<=(k:Int)) oM;refine lB 12 K (am (aa d ac (lV 14 (nV L.length) ?_ (hr:=aK (aK (dB (t:=3) (u:=3) (x:=.tmp 13) (y:=.const (iV 32)) (k:=.i64) (a:=(k:Int)) (b:=(32:Int)) kR kR kR oM _) (dG k 32 oM)) oM))));refine lK 15 141 L.length 1 4 (uW 0) az 0 d (fun S w3 Z d=>?_);have hl5:(zY L.length 0).length=L.length:=by simp
 refine lL d ac (aG (lL d ac (ag (ax ?_))));rw[show zY L.length 0=L by rw[D];exact hL.symm] at d
 replace d:=d.torow 0 az L 1 L.length rfl oM;replace d:=d.to [] [⟨141,1,sB S,L.length,(L).length,(L).flatMap az⟩];refine lL d ac (aZ ?_);refine bH _ (CG.loop (fun H Γ W=>∃ (i:Nat)(B:Z9)(z:Nat)(l:List Nat)(e:Nat)(h_:Hp),H=(lim a).length+1-i/\Γ=[(0,qS A ((lim a).length) c),(1,nV k),(4,sZ),(7,nV i),(6,mV e),(5,qS B ((l).length) z)]/\SS w h W h_ [] [⟨141,1,B,z,(l).length,(l).flatMap az⟩] [S3 A (lim a)]/\i<=(lim a).length+1/\l.length=L.length+i/\Ld l/\e<2^(k%32)/\ai 4294967296 l+4294967296^l.length*e=4294967296^L.length*(2^(k%32)*ai 4294967296 ((lim a).take i))) _ ⟨0,sB S,L.length,L,0,Z,rfl,rfl,d.to _ _,My _,rfl,(by rw[hL];exact Ld.rep _),Lz _,(by rw[hL,dN];simp[ai])⟩ ?_);rintro _ _ w6 ⟨i,B,z,l,e,h7,Y,rfl,d,hi,j,O,F,inv⟩;have M:=(Ld.lim a).get i;refine cQ (aa d [.c,.c,.v (nV ((lim a).length))] ?_);cases o:(decide ((i:Int)<=(((lim a).length:Nat):Int)))
 .
  have C:=oF o;refine lB 19 o (ah (CG.exit ?_))
  show CG _ _ _ _ _ _ _ _
  refine aa d ac ?_;have hin:i=(lim a).length+1:=by omega
  rw[LU (show (lim a).length<=i by omega),di,j] at inv
  have hE:ai 4294967296 l=a*2^k:=tK (c:=e) (by rw[j,inv,x5 k,D];ac_rfl) (by rw[j,x5 k];exact wc (cG a) oM oM);obtain ⟨_,d,U⟩:=d.pubr 0 (A:=B) (c:=z) (l:=l) (f:=az) (ty:=141) (sz:=1) 0 (fun _=>rfl);exact aq 39 d (jh B z l ((l).length) rfl oM U _ _ d.g d.f.1) (fun _ _ d=>lL d ac (ae d [] (qS B (tl l ((l).length)) z) (RN.trim O hE rfl U d.f.1)))
 have C:=oT o;refine lB 19 o (am (cK (cQ (kZ (aa d dl (aq 25 d (HR A c (lim a) ((lim a).length) rfl i oM (Ld.lim _) _ _ d.g d.f.1) (fun _ _ d=>lL d ac (lV 27 (nV (k%32)) ?_ (hr:=aK (fj (t:=3) (u:=3) (x:=.tmp 26) (y:=.const (iV 32)) (k:=.i64) (a:=(k:Int)) (b:=(32:Int)) kR kR kR oM _) (dq k 32))))))))));refine lV 28 (mV (k%32)) ?_ (hr:=rU (((k%32:Nat):Int)) kR (bc oM oM));refine lV 29 (mV (((lim a).getD i 0)*2^(k%32)%18446744073709551616)) ?_ (hr:=ie (t:=38) (u:=155) (x:=.tmp 25) (y:=.tmp 28) (ky:=.u64) (a:=((lim a).getD i 0)) (n:=(k%32)) kR kR kR _);obtain ⟨I,V,J⟩:=H8 (x:=(lim a).getD i 0) (p:=k%32) (c:=e) oM M F;refine lV 30 (mV (e+(lim a).getD i 0*2^(k%32))) ?_ (hr:=aK (iw (t:=38) (u:=38) (x:=.tmp 22) (y:=.tmp 29) (a:=e) (b:=(((lim a).getD i 0)*2^(k%32)%18446744073709551616:Nat)) kR kR kR oM oM _) (by rw[I]));refine lL d ac (aG (lL d aD (lV 33 (mW ((e+(lim a).getD i 0*2^(k%32))%4294967296)) ?_ (hr:=rT (((e+(lim a).getD i 0*2^(k%32):Nat):Int)) kR (gW _)))));refine lR 34 141 1 ([mW ((e+(lim a).getD i 0*2^(k%32))%4294967296)]) d (fun zb _ _ d=>lY 35 0 141 1 z B l az ((e+(lim a).getD i 0*2^(k%32))%4294967296:Nat) 4 zb (uW 0) d d.f.1 (fun zc zd _ X d=>lL d ac (lN (kQ (lL d ac (lV 37 (mV ((e+(lim a).getD i 0*2^(k%32))/4294967296)) ?_ (hr:=aK (n:=Mw ((e+(lim a).getD i 0*2^(k%32):Nat):Int) 4294967296) kR (ei _ 4294967296))))))));refine lL d ac (lN (kQ (lL d ac (bp 21 ((i:Nat)+1) (i+1) ?_))));refine lL d ac (lD ?_);intro a_ ka;replace d:=d.tl;refine ⟨_,_,?_,⟨i+1,zc,zd,l++[((e+(lim a).getD i 0*2^(k%32))%4294967296:Nat)],((e+(lim a).getD i 0*2^(k%32))/4294967296:Nat),X,rfl,rfl,d.to _ _,oM,(by rw[y4,j];rfl),(O.app (z2 _ kD)),J,(xE kD inv j rfl rfl)⟩,ka.to _ kR⟩
 omega
theorem rD (a:Nat)(A:Z9)(c:Nat)(J:(lim a).length<=c)(F:(lim a).length<=4000000000)(w:World)(h:Hp)(g:G w h)(B:S3 A (lim a) h):CV 143 #[.slice A ((lim a).length) c] w h (nV (nb a)):=by
 have b:=((sS g).aS B);have z:=@bT a;have o:=(Ld.lim a).get ((lim a).length-1);refine go Tryz.func143 [(0,qS A ((lim a).length) c)] rfl (aa b ac (ag (aa b [.c,.v (nV ((lim a).length))] ?_)));cases e:((((lim a).length:Nat):Int) == (0:Int))
 .
  have i:=aj e;refine lB 7 e (ah (cK (aa b [.c,.v (nV ((lim a).length))] (bp 10 (((lim a).length:Nat)-1) (((lim a).length)-1) ?_))));refine bp 11 (32*(((lim a).length)-1:Nat)) (32*(((lim a).length)-1:Nat)) (lL b ac (ag (aa b [.c,.c,.v (nV ((lim a).length))] (lI 15 (((lim a).length:Nat)-1) ?_))));refine lX 16 A ((lim a).length) c 1 (((lim a).length:Nat)-1) (((lim a).length)-1) ((b.f.1).ok oM) (lH 17 (mW ((lim a).getD (((lim a).length)-1) 0)) b ((b.f.1).el (((lim a).length)-1) oM) (lL b ac (aZ ?_)));refine bH _ (CG.loop (fun l Γ p=>∃ (n:Nat)(x:Nat)(h_:Hp),l=x/\Γ=[(2,iV 0),(3,nV n),(4,mW x)]/\SS w h p h_ [] [] [S3 A (lim a)]/\n+nb x=nb a/\x<4294967296/\nb a<=128000000000) _ ⟨32*((lim a).length-1),(lim a).getD ((lim a).length-1) 0,h,rfl,rfl,b.to _ _,(At oM).symm,o,(by have:=td a;omega)⟩ ?_);rintro _ _ w2 ⟨n,x,u,y,rfl,b,hn,H,D⟩;refine cQ (aa b ac ?_);cases d:(decide ((0:Int)<(x:Int)))
  .
   have j:=oF d;refine lB 19 d (ah (CG.exit ?_))
   show CG _ _ _ _ _ _ _ _
   exact aa b aD (ae b [] (nV n) (by obtain rfl:x=0:=oM;rw[Ds] at hn;rw[<-hn];rfl))
  have j:=oT d;refine lB 19 d (am (cK (cQ (kZ (kQ (lL b ac (bp 23 ((n:Nat)+1) (n+1) ?_)))))));refine lL b ac (lN (kQ (lL b ac (lV 21 (mW (x/2)) ?_ (hr:=aK (n:=Mw (x:Nat) 2) kR (ei x 2))))));refine lL b ac (lD ?_);intro I C;refine ⟨_,_,?_,⟨n+1,x/2,u,rfl,rfl,b.to _ _,(by have:=Cg (n:=x) oM;omega),oM,D⟩,C.to _ kR⟩
  omega
 have i:=eq_of_beq e;exact lB 7 e (am (aa b ac (ae b [] (iV 0) (by obtain rfl:a=0:=oM;rfl))))
theorem rR (a:Nat)(A:Z9)(c:Nat)(hc:(lim a).length<=c)(hLa:(lim a).length<=4000000000)(k:Nat)(Y:0<k)(hk:k<=4000000000)(w:World)(h:Hp)(g:G w h)(hA:S3 A (lim a) h):CR 185 #[.slice A ((lim a).length) c,iV (-(k:Int))] w h (fun v h1=>RN h1 v (a/2^k)):=by
 have d:=((sS g).aS hA);refine go Tryz.func185 [(0,qS A ((lim a).length) c),(1,iV (-(k:Int)))] rfl (aa d ac (ag (aa d ac ?_)));have ⟨K,Q⟩:=dF (p:=(0:Int)<=((-(k:Int)):Int)) oM;refine lB 12 K (ah (cK (aa d ac (lV 41 (nV k) ?_ (hr:=rS ((0-(-(k:Int)))) kR (by rw[IntKind.wrap_i64];omega))))));refine lL d ac (aG (lL d ac (ag (aa d ac (lV 43 (nV (k/32)) ?_ (hr:=aK (dB (t:=3) (u:=3) (x:=.tmp 42) (y:=.const (iV 32)) (k:=.i64) (a:=(k:Int)) (b:=(32:Int)) kR kR kR oM _) (dG k 32 oM)))))));refine lL d ac (aZ ?_);replace d:=d.nil 141 1;refine bH _ (CG.loop (fun F Γ V=>∃ (j:Nat)(z:Z9)(i:Nat)(l:List Nat)(h_:Hp),F=(lim a).length-(k/32+j)/\Γ=[(0,qS A ((lim a).length) c),(1,nV k),(4,sZ),(9,nV (k/32+j)),(8,qS z ((l).length) i)]/\SS w h V h_ [] [⟨141,1,z,i,(l).length,(l).flatMap az⟩] [S3 A (lim a)]/\l.length=j/\Ld l/\2^(k%32)*ai 4294967296 l+((lim a).drop (k/32)).getD 0 0%2^(k%32)=ai 4294967296 (((lim a).drop (k/32)).take j)+4294967296^j*(((lim a).drop (k/32)).getD j 0%2^(k%32))/\l.length<=(lim a).length) _ ⟨0,none,0,[],h,rfl,rfl,d.to _ _,rfl,Dg.nil,(by simp[ai]),(by simp)⟩ ?_);rintro _ _ w2 ⟨j,z,i,l,h3,X,rfl,d,o,O,inv,U⟩;have M:=(Ld.lim a).get (k/32+j);have D:=(Ld.lim a).get (k/32+j+1);refine cQ (aa d [.c,.c,.v (nV ((lim a).length))] ?_);cases e:(decide (((k/32+j:Nat):Int)<(((lim a).length:Nat):Int)))
 .
  have B:=oF e;refine lB 47 e (ah (CG.exit ?_))
  show CG _ _ _ _ _ _ _ _
  refine aa d ac ?_;have W:ai 4294967296 l=a/2^k:=Hl oM (by rw[o];exact inv);obtain ⟨h6,d,C⟩:=d.pubr 0 (A:=z) (c:=i) (l:=l) (f:=az) (ty:=141) (sz:=1) 0 (fun _=>rfl);exact aq 69 d (jh z i l ((l).length) rfl oM C _ _ d.g d.f.1) (fun w9 _ d=>lL d ac (ae d [] (qS z (tl l ((l).length)) i) (RN.trim O W rfl C d.f.1)))
 have B:=oT e;refine lB 47 e (am (cK (cQ (kZ (aa d aD (aq 52 d (HR A c (lim a) ((lim a).length) rfl (k/32+j) oM (Ld.lim _) _ _ d.g d.f.1) (fun _ _ d=>lL d aD (bp 55 ((k/32+j:Nat)+1) ((k/32+j)+1) ?_))))))));refine aq 56 d (HR A c (lim a) ((lim a).length) rfl ((k/32+j)+1) oM (Ld.lim _) _ _ d.g d.f.1) (fun _ _ d=>?_);obtain ⟨I,S,J⟩:=IE (p:=k%32) oM M D;have H:=bE (l:=lim a) (k:=j) (n:=k/32);have L:=bE (l:=lim a) (k:=j+1) (n:=k/32);refine lV 57 (mV (((lim a).getD ((k/32+j)+1) 0:Nat)*4294967296%18446744073709551616)) ?_ (hr:=rU (((((lim a).getD ((k/32+j)+1) 0:Nat):Int)*4294967296)) kR (jF ((lim a).getD ((k/32+j)+1) 0:Nat) 4294967296));refine lV 58 (mV ((lim a).getD (k/32+j) 0+(lim a).getD (k/32+j+1) 0*4294967296)) ?_ (hr:=aK (iw (t:=38) (u:=38) (x:=.tmp 52) (y:=.tmp 57) (a:=((lim a).getD (k/32+j) 0)) (b:=(((lim a).getD ((k/32+j)+1) 0:Nat)*4294967296%18446744073709551616:Nat)) kR kR kR oM oM _) (by rw[I]));refine lL d ac (lN (kQ (lL d dl (lV 62 (nV (k%32)) ?_ (hr:=aK (fj (t:=3) (u:=3) (x:=.tmp 61) (y:=.const (iV 32)) (k:=.i64) (a:=(k:Int)) (b:=(32:Int)) kR kR kR oM _) (dq k 32))))));refine lV 63 (mV (k%32)) ?_ (hr:=rU (((k%32:Nat):Int)) kR (bc oM oM));refine lV 64 (mV (((lim a).getD (k/32+j) 0+(lim a).getD (k/32+j+1) 0*4294967296)/2^(k%32))) ?_ (hr:=gL (t:=38) (u:=155) (x:=.tmp 60) (y:=.tmp 63) (ky:=.u64) (a:=((lim a).getD (k/32+j) 0+(lim a).getD (k/32+j+1) 0*4294967296)) (n:=(k%32)) kR kR kR oM _);refine lV 65 (mW ((((lim a).getD (k/32+j) 0+(lim a).getD (k/32+j+1) 0*4294967296)/2^(k%32):Nat)%4294967296)) ?_ (hr:=rT (((((lim a).getD (k/32+j) 0+(lim a).getD (k/32+j+1) 0*4294967296)/2^(k%32):Nat):Int)) kR (gW _));refine lR 66 141 1 ([mW ((((lim a).getD (k/32+j) 0+(lim a).getD (k/32+j+1) 0*4294967296)/2^(k%32):Nat)%4294967296)]) d (fun za _ _ d=>lY 67 0 141 1 i z l az ((((lim a).getD (k/32+j) 0+(lim a).getD (k/32+j+1) 0*4294967296)/2^(k%32):Nat)%4294967296:Nat) 4 za (uW 0) d d.f.1 (fun zb zc _ Z d=>lL d ac (lN (kQ (lL d ac (bp 49 ((k/32+j:Nat)+1) ((k/32+j)+1) ?_))))));refine lL d ac (lD ?_);intro a_ ka;replace d:=d.tl;refine ⟨_,_,?_,⟨j+1,zb,zc,l++[((((lim a).getD (k/32+j) 0+(lim a).getD (k/32+j+1) 0*4294967296)/2^(k%32):Nat)%4294967296:Nat)],Z,rfl,rfl,d.to _ _,(by rw[y4,o];rfl),(O.app (z2 _ kD)),(F4 o inv (by rw[H,L];exact J)),(by rw[y4];show _+1<=_;omega)⟩,ka.to _ kR⟩
 omega
def bh (l:List Nat):Nat:=ai 4294967296 l
theorem BU {a b:Nat}(ha:a<4294967296)(d:b<4294967296):a*b<=18446744065119617025:=by
 have h1:a<=4294967295:=by omega
 have c:b<=4294967295:=by omega
 exact Md h1 c
def l3 (u2 u1 u0:Nat):Nat:=4294967296*(4294967296*u2+u1)+u0
def l2 (v1 v0:Nat):Nat:=4294967296*v1+v0
structure Hss (u2 u1 u0 v1 v0 g r o:Nat):Prop where
  e:g*v1+(r+4294967296*o)=4294967296*u2+u1
  lt:g+1=4294967296\/l3 u2 u1 u0<(g+1)*l2 v1 v0
  gb:g<4294967296
def EE (u2 u1 u0 v1 v0 g:Nat):Prop:=g*l2 v1 v0<=l3 u2 u1 u0/\(g+1=4294967296\/l3 u2 u1 u0<(g+1)*l2 v1 v0)/\g<4294967296
theorem Kx {g b a:Nat}:g*l2 b a=4294967296*(g*b)+g*a:=by unfold l2;rw[Lr,Nat.mul_left_comm]
theorem Hss.fin {d u1 a c b g r o:Nat}(h:Hss d u1 a c b g r o)(f:g*b<=4294967296*(r+4294967296*o)+a):EE d u1 a c b g:=by
 refine ⟨?_,h.lt,h.gb⟩;rw[Kx]
 unfold l3
 rw[<-h.e,Lr]
 omega
theorem FD {u:List Nat}{k:Nat}(hk:2<=k):l3 (u.getD k 0) (u.getD (k-1) 0) (u.getD (k-2) 0)=u.getD k 0*4294967296*4294967296+u.getD (k-1) 0*4294967296+u.getD (k-2) 0:=by
 unfold l3
 rw[HA (u.getD k 0) 4294967296,HA (4294967296*u.getD k 0) 4294967296,HA (u.getD (k-1) 0),Lr]
theorem FF {b a:Nat}:l2 b a=b*4294967296+a:=by unfold l2;rw[HA]
section
variable {n j G:Nat}{u v:List Nat}
theorem GX (hn:2<=n)(p:v.length=n)(a:Ld v)(d:Ld u)(i:j+n<u.length)(hR:bh u<4294967296^(j+1)*bh v):u.getD (j+n) 0<=v.getD (n-1) 0:=by
 rcases dS (v.getD (n-1) 0) (u.getD (j+n) 0) with h|h
 ·exfalso
  have e1:=aN 4294967296 (l:=v) (k:=n-1) oM;rw[show n-1+1=v.length by omega,yz] at e1
  have h1:=bM (Dg.take a (n-1));rw[Lu,Lv oM] at h1
  have e2:=aN 4294967296 (l:=u) (k:=j+n) oM;have c:=bP 4294967296 (l:=u) (k:=j+n+1) oM;have f:4294967296^(j+n)*(v.getD (n-1) 0+1)<=4294967296^(j+n)*u.getD (j+n) 0:=LD _ h
  have b:4294967296^(j+1)*bh v<4294967296^(j+1)*(4294967296^(n-1)*(v.getD (n-1) 0+1)):=by
   refine LO ?_ (LK kD)
   show ai _ v<_
   rw[e1,Lr,Nat.mul_one];omega
  rw[<-Ls,<-LC,show j+1+(n-1)=j+n by omega] at b
  have o:bh u=ai 4294967296 (u.take (j+n))+4294967296^(j+n)*u.getD (j+n) 0+4294967296^(j+n+1)*ai 4294967296 (u.drop (j+n+1)):=by
   show ai _ u=_
   rw[c,e2]
  have e:=My (4294967296^(j+n+1)*ai 4294967296 (u.drop (j+n+1)))
  omega
 ·exact h
theorem Ah (hn:2<=n)(i:v.length=n)(c:Ld v)(b:Ld u)(f:j+n<u.length)(a:v.getD (n-1) 0≠0)(hR:bh u<4294967296^(j+1)*bh v)(h:EE (u.getD (j+n) 0) (u.getD (j+n-1) 0) (u.getD (j+n-2) 0) (v.getD (n-1) 0) (v.getD (n-2) 0) G) :
  bh u/(4294967296^j*bh v)<=G/\G<=bh u/(4294967296^j*bh v)+1:=by
 obtain ⟨h1,d,e⟩:=h;rw[FD oM,FF] at h1 d
 exact nZ kD hn i c b f a hR h1 d e
theorem xn (hn:2<=n)(d:v.length=n)(a:Ld v)(c:v.getD (n-1) 0≠0):4294967296^(n-1)<=bh v/\bh v<4294967296^n:=by
 have b:=bM a;rw[d] at b
 refine ⟨?_,b⟩;have e1:=aN 4294967296 (l:=v) (k:=n-1) oM;rw[show n-1+1=v.length by omega,yz] at e1
 have e:4294967296^(n-1)*1<=4294967296^(n-1)*v.getD (n-1) 0:=LD _ oM
 show _<=ai _ v
 omega
theorem Br (hn:2<=n)(c:v.length=n)(a:Ld v)(hR:bh u<4294967296^(j+1)*bh v):bh u<4294967296^(j+n+1):=by
 have b:=bM a;rw[c] at b
 have h1:4294967296^(j+1)*bh v<4294967296^(j+1)*4294967296^n:=LO b (LK kD);rw[<-LC,show j+1+n=j+n+1 by omega] at h1
 omega
theorem D7 {u1:List Nat}(hn:2<=n)(i:v.length=n)(c:Ld v)(f:Ld u)(h:Ld u1)(y:j+n<u.length)(a:v.getD (n-1) 0≠0)(hR:bh u<4294967296^(j+1)*bh v)
  (p:bh u/(4294967296^j*bh v)<=G/\G<=bh u/(4294967296^j*bh v)+1)(d:Above u1 u (j+n+1))(e:bh u1+4294967296^j*(G*bh v)=bh u+4294967296^(j+n+1)*0) :
  bh u1<4294967296^j*bh v/\bh u1+4294967296^j*(G*bh v)=bh u:=by
 obtain ⟨o,l⟩:=xn hn i c a;have x:=fr (b:=4294967296) kD d h f (by rw[d.1];omega) (Br hn i c hR);have:=(fR (b:=4294967296) kD hn o l hR x e (My 1) p).1 rfl;rw[Lw,wj] at e
 exact ⟨this.2.2.1,e⟩
theorem Jf {b a W K T c:Nat}(e2:a+T*c=b+W)(i:b+W=K+T)(j:a<T)(f:K<W)(l:W<=T):a=K:=by
 have d:c=1:=by
  rcases Nat.lt_trichotomy c 1 with h|h|h
  ·have:c=0:=by omega
   subst this;omega
  ·exact h
  ·have e:T*2<=T*c:=LD _ h
   omega
 subst d
 omega
theorem GR {u1 d:List Nat}{c:Nat}(hn:2<=n)(C:v.length=n)(p:Ld v)(f:Ld u)(x:Ld u1)(z:Ld d)(O:j+n<u.length)(l:v.getD (n-1) 0≠0)(hR:bh u<4294967296^(j+1)*bh v)
  (M:bh u/(4294967296^j*bh v)<=G/\G<=bh u/(4294967296^j*bh v)+1)(h:Above u1 u (j+n+1))(a:Above d u (j+n+1))(e:bh u1+4294967296^j*(G*bh v)=bh u+4294967296^(j+n+1)*1)
  (e2:bh d+4294967296^(j+n+1)*c=bh u1+4294967296^j*bh v) :
  bh d<4294967296^j*bh v/\bh d+4294967296^j*((G-1)*bh v)=bh u/\0<G:=by
 obtain ⟨L,D⟩:=xn hn C p l;have i:=Br hn C p hR;have J:=fr (b:=4294967296) kD h x f (by rw[h.1];omega) i;have y:=fr (b:=4294967296) kD a z f (by rw[a.1];omega) i;obtain ⟨H,I,B,K⟩:=(fR (b:=4294967296) kD hn L D hR J e oM M).2 rfl
 have o:4294967296^j*bh v<=4294967296^(j+n+1):=by
  have h1:4294967296^j*bh v<=4294967296^j*4294967296^n:=LD _ (Nat.le_of_lt D);rw[<-LC] at h1
  have F:(4294967296:Nat)^(j+n)<=4294967296^(j+n+1):=LA kD oM;exact ep h1 F
 have hk:bh d=bh u-4294967296^j*((G-1)*bh v):=Jf e2 I y B o;exact ⟨by rw[hk];exact B,by rw[hk];exact Nat.sub_add_cancel K,by rw[H];exact MB _⟩
theorem Hd {u1:List Nat}(hn:2<=n)(i:v.length=n)(c:Ld v)(f:Ld u)(h:Ld u1)(z:j+n<u.length)(a:v.getD (n-1) 0≠0)(hR:bh u<4294967296^(j+1)*bh v)
  (x:bh u/(4294967296^j*bh v)<=G/\G<=bh u/(4294967296^j*bh v)+1)(d:Above u1 u (j+n+1))(e:bh u1+4294967296^j*(G*bh v)=bh u+4294967296^(j+n+1)*1):0<G:=by
 obtain ⟨o,l⟩:=xn hn i c a;have y:=fr (b:=4294967296) kD d h f (by rw[d.1];omega) (Br hn i c hR);obtain ⟨p,_⟩:=(fR (b:=4294967296) kD hn o l hR y e (eb 1) x).2 rfl;rw[p];exact MB _
end
theorem GL {q:List Nat}{j Q X V R R':Nat}(b:j<q.length)(h0:q.getD j 0=0)(inv:X=bh q*V+R)(e:R'+4294967296^j*(Q*V)=R):X=bh (q.set j Q)*V+R':=by
 have a:=cI 4294967296 (l:=q) (k:=j) Q b;rw[h0,Lw,wj] at a
 have c:bh (q.set j Q)=bh q+4294967296^j*Q:=a;rw[c,LS,inv,<-e,Ls];omega
theorem Ge {X V R q a b s:Nat}(c:V=b*2^s)(f:X=a*2^s)(inv:X=q*V+R)(hR:R<V):q=a/b/\R/2^s=a%b:=by
 have l:=Lz s;have i:0<V:=by omega
 have j:0<b:=by
  rcases Au b with h|h
  ·rw[h,y5] at c;omega
  ·exact h
 have e1:a*2^s=V*q+R:=by rw[<-f,inv,HA]
 obtain ⟨h1,d⟩:=ku (A:=a) (y:=b) (Q:=q) c e1 hR;have e:a=R/2^s+b*q:=by omega
 constructor
 ·rw[e,LJ _ _ j,G3 d,y8]
 ·rw[e,Mj,z1 d]
structure Gk (u2 u1 u0 v1 v0 g r:Nat):Prop where
  e:g*v1+r=4294967296*u2+u1
  lt:4294967296<=g+1\/l3 u2 u1 u0<(g+1)*l2 v1 v0
theorem Gk.start {b u1 c a d:Nat}(hv:0<a)(h0:c<4294967296):Gk b u1 c a d ((b*4294967296+u1)/a) ((b*4294967296+u1)%a):=by
 have e:=LX (b*4294967296+u1) a;have hr:=z2 (b*4294967296+u1) hv
 generalize (b*4294967296+u1)/a=q at *
 generalize (b*4294967296+u1)%a=r at *
 rw[HA b] at e
 refine ⟨by rw[HA q];exact e,.inr ?_⟩;rw[Kx,LS q 1 a,LW,HA q a]
 unfold l3
 rw[<-e]
 have h1:4294967296*(a*q+r)+4294967296<=4294967296*(a*q+a):=by
  rw[<-L3];exact LD _ oM
 have f:0<=(q+1)*d:=My _
 omega
theorem Gk.step {b u1 c a d g r:Nat}(h:Gk b u1 c a d g r)(f:0<g):(g-1)*a+(r+a)=4294967296*b+u1:=by
 obtain ⟨p,rfl⟩:∃ p,g=p+1:=⟨g-1,by omega⟩;have e1:=h.e;rw[LS,LW] at e1
 rw[L8]
 omega
theorem Gk.decB {b u1 c a d g r:Nat}(h:Gk b u1 c a d g r)(e:4294967296<=g):Gk b u1 c a d (g-1) (r+a):=⟨h.step oM,.inl oM⟩
theorem Gk.decT {f u1 b a c g r:Nat}(h:Gk f u1 b a c g r)(i:4294967296*r+b<g*c):0<g/\Gk f u1 b a c (g-1) (r+a):=by
 have d:0<g:=dV i;refine ⟨d,h.step d,.inr ?_⟩;rw[show g-1+1=g by omega,Kx]
 unfold l3
 rw[<-h.e,Lr]
 omega
theorem Gk.big {b u1 f a i g r:Nat}(h:Gk b u1 f a i g r)(d:4294967296<=g)(c:b<=a)(h1:u1<4294967296):r<4294967296:=by
 have e:=h.e;have e1:4294967296*a<=g*a:=y9 _ d;have e2:4294967296*b<=4294967296*a:=LD _ c
 omega
theorem Gk.fin {d u1 b c a g r:Nat}(h:Gk d u1 b c a g r)(f:g<4294967296)(h0:a<4294967296)(i:4294967296<=r\/g*a<=4294967296*r+b):EE d u1 b c a g:=by
 have j:Hss d u1 b c a g r 0:=⟨by rw[Lw,wj];exact h.e,by rcases h.lt with h1|h1;exact .inl oM;exact .inr h1,f⟩;refine j.fin ?_;rw[Lw,wj]
 rcases i with h1|h1
 ·have l:=BU f h0
  have o:4294967296*4294967296<=4294967296*r:=LD _ h1
  omega
 ·exact h1
theorem mU (n:Nat):(lim n).length=(nb n+31)/32:=by
 rcases Au n with h|h
 ·subst h;rfl
 ·have h1:=At h
  have a:=lp n h;have b:=(Ld.lim n).get ((lim n).length-1);have e:=bT.2 h
  generalize (lim n).getD ((lim n).length-1) 0=t at *
  have c:=(cB (L4 a)).2.2;have d:nb t<=32:=kL (k:=32) b
  omega
theorem xY {b:Nat}(d:0<b)(s:Nat):nb (b*2^s)=nb b+s:=by
 obtain ⟨c,a,e⟩:=cB d;rw[show nb b+s=(nb b-1+s)+1 by omega]
 apply kA
 ·rw[LC];exact y9 _ c
 ·rw[show nb b-1+s+1=nb b+s by omega,LC];exact Mb a (Lz s)
section joi
variable {P:Program}{n:Nat}{N R:Po}{X:Nat->Po}{Γ:cl}{w:World}
theorem CG.join {x y:Code}(I:cl->World->Prop)(h1:CG P n (fun a w'=>∃ b,I b w'/\Kn n a b) R X x Γ w)(h:∀ Γ w,I Γ w->CG P n N R X y Γ w):CG P n N R X (.seq x y) Γ w:=by
 intro a i;refine wp_seq (wp_mono (h1 a i) ?_);intro e a w d;cases e with
 | normal=>obtain ⟨b,f,c⟩:=d;exact h b w f a c
 | _=>exact d
end joi
section fin
variable {M:Ms}{P:Program}{n:Nat}{N R:Po}{X:Nat->Po}{ops:Array Oper}{k0:Nat}{hr:Hp}{L:Array Bool}{Γ:cl}{w:World}{h:Hp}{w0:World}{h0:Hp}{B:List Bx}{Rs:List Rw}{F:List (Hp->Prop)}
theorem j7 (s:SS w0 h0 w h B Rs F)(H:∀ w' a,Up w h w' a->SS w0 h0 w' a B Rs F->AG M P n N R X ops k0 L Γ w')(b:gI ops [] L=true:=by kernel_rfl):EG M P n N R X ops k0 hr [] L Γ w h:=Rg.fin0 b (fun w' a u=>H w' a u (s.step u))
end fin
section tail
variable {M:Ms}{P:Program}{n:Nat}{N R:Po}{X:Nat->Po}{ops:Array Oper}{k0:Nat}{L:Array Bool}{Γ:cl}{w:World}{h:Hp}{w0:World}{h0:Hp}{B:List Bx}{Rs:List Rw}{F:List (Hp->Prop)}
theorem La {α:Type}(i j e o:Nat)(a:List Value)(l:List α)(f:α->List Value)(sz:Nat)(d x:α){ty:TypeId}{c b:Nat}(s:SS w0 h0 w h B Rs F)(hk:e<l.length)(H:∀ w',SS w0 h0 w' h B (Rs.set j ⟨ty,sz,some ⟨b,0,none⟩,c,l.length,(l.set e x).flatMap f⟩) F->AG M P n N R X ops k0 (L.setIfInBounds i true) Γ w')
  (C:bY (f (l.getD e d)) o a=f x:=by rfl)(hf:∀ x,(f x).length=sz:=by intro _;rfl)(D:Mp (o+a.length) sz=true:=by kernel_rfl)(p:Rs.getD j default=⟨ty,sz,some ⟨b,0,none⟩,c,l.length,l.flatMap f⟩:=by kernel_rfl)(J:decide (j<Rs.length)=true:=by kernel_rfl)
  (O:(g6 ops k0 L i && aY Γ (ak ops i) && ((ak ops i).dst == none))=true:=by kernel_rfl)(Q:bg ops Γ (ak ops i)=some true:=by kernel_rfl)
  (I:dE P (execOp (ev Γ) (ak ops i))=some (.skip,lf b (0+e*sz+o) a):=by kernel_rfl)(hz:∀ K bs,M.z=some (K,bs)->K<=b\/b∈bs:=by intro _ _ e;cases e):AG M P n N R X ops k0 L Γ w:=by
 have u:=D1 D;refine Lc i j (0+e*sz+o) a s ?_ (fun w' y=>H w' ?_) p J O Q I hz
 ·rw[bX hf,y8]
  have:(e+1)*sz<=l.length*sz:=y9 _ hk;rw[LS,LW] at this
  omega
 ·rw[y8,jA hf d l e x hk u C] at y
  exact y
end tail
theorem En (x:Nat)(A:Z9)(c m:Nat)(f:(lim x).length=m)(d:m<=c)(b:m<=4000000000)(s:Nat)(e:s<=4000000000)(w:World)(h:Hp)(g:G w h)(a:S3 A (lim x) h):CR 185 #[.slice A m c,iV (-(s:Int))] w h (fun v h1=>RN h1 v (x/2^s)):=by
 subst f
 rcases Au s with h0|h0
 ·subst h0
  have:=kv x A c d b 0 oM w h g a;rw[MA,Nat.mul_one] at this
  rw[MA,Nat.div_one];exact this
 ·exact rR x A c d b s h0 e w h g a
theorem BE {a b s k:Nat}(f:(lim (b*2^s)).length=k)(hk:2<=k)(c:k<=(lim (a*2^s)).length+1)(h:0<b*2^s):bh (lim (a*2^s)++[0,0])<4294967296^((lim (a*2^s)).length+2-(lim (b*2^s)).length)*bh (lim (b*2^s)):=by
 have e1:bh (lim (a*2^s)++[0,0])=a*2^s:=by
  unfold bh;rw[cV,di];simp[ai]
 have e2:bh (lim (b*2^s))=b*2^s:=di _;rw[e1,e2];have h1:=cG (a*2^s);have d:4294967296^((lim (b*2^s)).length-1)<=b*2^s:=by rw[tQ];exact rF kD h
 have e:4294967296^((lim (a*2^s)).length+2-(lim (b*2^s)).length)*4294967296^((lim (b*2^s)).length-1)<=4294967296^((lim (a*2^s)).length+2-(lim (b*2^s)).length)*(b*2^s):=LD _ d;rw[<-LC] at e
 have i:4294967296^(lim (a*2^s)).length<=4294967296^((lim (a*2^s)).length+2-(lim (b*2^s)).length+((lim (b*2^s)).length-1)):=LA kD oM
 omega
theorem GU {a s V n:Nat}:a*2^s=bh (zY n 0)*V+bh (lim (a*2^s)++[0,0]):=by
 unfold bh;rw[dN,y5,y8,cV,di];simp[ai]
theorem nJ (a:Nat)(A:Z9)(c:Nat)(o:(lim a).length<=c)(b:Nat)(D:Z9)(d:Nat)(z:(lim b).length<=d)(F:(lim a).length<=3000000000)(B:(lim b).length<=3000000000)(i:a<b)(w:World)(h:Hp)(g:G w h)(C:S3 A (lim a) h)(y:S3 D (lim b) h):CR 158 #[.slice A ((lim a).length) c,.slice D ((lim b).length) d] w h (fun v h1=>∃ l u,v=.tuple #[l,u]/\RN h1 l (a/b)/\RN h1 u (a%b)):=by
 have e:=(((sS g).aS C).aS y);have H:=dZ i;refine go Tryz.func158 [(0,qS A ((lim a).length) c),(1,qS D ((lim b).length) d)] rfl (aa e aD (ag (aa e aD (aq 27 e (gy a A c o b D d z oM oM _ _ e.g e.f.2.1 e.f.1) (fun w1 I e=>?_)))));have ⟨j,x⟩:=dT (p:=(bZ a b:Int)<(0:Int)) oM;exact lB 28 j (am (aa e dl (ae e [] (.tuple #[sZ,qS A ((lim a).length) c]) (⟨_,_,rfl,by rw[G3 i];exact ⟨none,0,rfl,nR _,SlO.nil⟩,by rw[z1 i];exact ⟨A,c,rfl,o,e.f.2.1⟩⟩))))
theorem sF {b:Nat}(h:(lim b).length=1):b<4294967296/\(lim b).getD 0 0=b/\0<b:=by
 have h1:=cG b;rw[h] at h1
 have a:0<b:=bT.1 oM;refine ⟨by omega,?_,a⟩;rw[Cv a oM];rfl
theorem mX (a:Nat)(A:Z9)(c:Nat)(C:(lim a).length<=c)(b:Nat)(D:Z9)(d:Nat)(O:(lim b).length<=d)(Y:(lim a).length<=3000000000)(U:(lim b).length<=3000000000)(o:b<=a)(h1:(lim b).length=1)(w:World)(h:Hp)(g:G w h)(W:S3 A (lim a) h)(L:S3 D (lim b) h):CR 158 #[.slice A ((lim a).length) c,.slice D ((lim b).length) d] w h (fun v h1=>∃ F I,v=.tuple #[F,I]/\RN h1 F (a/b)/\RN h1 I (a%b)):=by
 have e:=(((sS g).aS W).aS L);have Z:=fF o;obtain ⟨V,l,j⟩:=sF h1;refine go Tryz.func158 [(0,qS A ((lim a).length) c),(1,qS D ((lim b).length) d)] rfl (aa e aD (ag (aa e aD (aq 27 e (gy a A c C b D d O oM oM _ _ e.g e.f.2.1 e.f.1) (fun w1 h2 e=>?_)))));have ⟨j,J⟩:=dF (p:=(bZ a b:Int)<(0:Int)) oM;refine lB 28 j (ah (cK (cQ (aa e [.c,.v (nV ((lim b).length))] ?_))));have i:((((lim b).length:Nat):Int) == (1:Int))=true:=sO oM;have z:=eq_of_beq i;refine lB 32 i (am (aa e aD (lX 36 D ((lim b).length) d 1 0 0 ((e.f.1).ok oM) ?_)));refine lH 37 (mW ((lim b).getD 0 0)) e ((e.f.1).el 0 oM) (lC 38 e (Kl a A c C oM ((lim b).getD 0 0) oM oM _ _ e.g e.f.2.1) ?_);rintro _ w5 h6 e ⟨_,r,rfl,⟨B,H,rfl,u,S⟩,y⟩;replace e:=e.aS S;refine lL e [.c,.v (qS B ((lim (a/((lim b).getD 0 0))).length) H),.v (mW r),.c,.c] (aG (lL e aD ?_));have M:=z2 a (show 0<(lim b).getD 0 0 by omega);refine lV 43 (mV r) ?_ (hr:=rU ((r:Int)) kR (bc oM oM));refine lC 44 e (oo r oM _ _ e.g) ?_;rintro _ _ _ e ⟨Q,K,rfl,x,X⟩;replace e:=e.aS X;exact lL e aD (ae e [] (.tuple #[qS B ((lim (a/((lim b).getD 0 0))).length) H,qS Q ((lim r).length) K]) (⟨_,_,rfl,by rw[l] at *;exact ⟨_,_,rfl,u,e.f.2.1⟩,by rw[<-l,<-y];exact ⟨_,_,rfl,x,e.f.1⟩⟩))
theorem p8 (a:Nat)(A:Z9)(c:Nat)(hc:(lim a).length<=c)(b:Nat)(D:Z9)(d:Nat)(hd:(lim b).length<=d)(hLa:(lim a).length<=3000000000)(hLb:(lim b).length<=3000000000)(hab:b<=a)(hb2:2<=(lim b).length)(s:Nat)(hs_:s=32*(lim b).length-nb b)(w:World)(h:Hp)(g:G w h)(hA:S3 A (lim a) h)(hD:S3 D (lim b) h):CR 158 #[.slice A ((lim a).length) c,.slice D ((lim b).length) d] w h (fun v h1=>∃ v1 v2,v=.tuple #[v1,v2]/\RN h1 v1 (a/b)/\RN h1 v2 (a%b)):=by
 have e:=(((sS g).aS hA).aS hD);have hcl:=fF hab;have hbp:0<b:=bT.1 oM;have hln:=mU b;have cf:s<32:=by omega
 have hvn:(lim (b*2^s)).length=(lim b).length:=by rw[mU,xY hbp];omega
 have hlm:=dH hab;have has:=dH (show a<=a*2^s from Nat.le_mul_of_pos_right _ (Lz s));have b5:(lim (a*2^s)).length<=(lim a).length+1:=ej (by rw[Hj];exact e4 (Mb (cG a) (Lz s)) (LD _ (ep (LA kD (show s<=32 by omega)) (nR (2^32)))));have _:([0,0]:List Nat).length=2:=rfl;have br:((lim (a*2^s))++[0,0]).length=((lim (a*2^s)).length+2):=by simp
 have X:=Ld.lim (b*2^s);have bb:=lp (b*2^s) (Ma hbp (Lz s));have hv1:=X.get ((lim (b*2^s)).length-1);have hv0:=X.get ((lim (b*2^s)).length-2);refine go Tryz.func158 [(0,qS A ((lim a).length) c),(1,qS D ((lim b).length) d)] rfl (aa e aD (ag (aa e aD (aq 27 e (gy a A c hc b D d hd oM oM _ _ e.g e.f.2.1 e.f.1) (fun w1 h2 e=>?_)))));have ⟨hb3,ch⟩:=dF (p:=(bZ a b:Int)<(0:Int)) oM;refine lB 28 hb3 (ah (cK (cQ (aa e [.c,.v (nV ((lim b).length))] ?_))));have hb4:((((lim b).length:Nat):Int) == (1:Int))=false:=eU oM;have b9:=aj hb4;refine lB 32 hb4 (ah (cK (aa e [.c,.v (nV ((lim b).length))] (bp 47 (32*((lim b).length:Nat)) (32*(lim b).length) ?_))));refine lL e ac (aq 49 e (rD b D d hd oM _ _ e.g e.f.1) (fun w5 h6 e=>bp 50 ((32*(lim b).length:Nat)-(nb b:Nat)) s (lL e ac (aG (lL e aD (lC 53 e (kv b D d hd oM s oM _ _ e.g e.f.1) ?_))))));rintro _ _ _ e ⟨S,Y,rfl,hc9,zR⟩;replace e:=e.aS zR;refine lL e ac (aG (lR 54 141 0 ([]) e (fun zj _ _ e=>lL e aD (lC 57 e (kv a A c hc oM s oM _ _ e.g e.f.r.2.1) ?_))));rintro _ _ _ e ⟨zk,ye,rfl,b7,zS⟩;replace e:=e.aS zS;refine KZ 58 141 1 az 0 zj zk (lim (a*2^s)) ye 4 (uW 0) e e.f.1 oM (fun _ _=>by kernel_rfl) (fun yf yg _ _ e=>lR 59 141 2 ([uW 0,uW 0]) e (fun ze _ _ e=>?_));replace e:=e.aS (SlO.of_flat (sz:=1) (f:=az) (d:=0) (l:=[0,0]) (fun _=>rfl) e.f.1);refine KW 60 0 141 1 yg yf (lim (a*2^s)) az 0 (sB ze) ([0,0]) 2 4 (uW 0) e e.f.1 oM (fun zP zQ _ _ e=>lL e ac (aG (lL e [.c,.v (nV ((lim (b*2^s)).length)),.c] (aG (lL e aD (bp 65 (((lim (b*2^s)).length:Nat)-1) (((lim (b*2^s)).length:Nat)-1) ?_))))));refine lX 66 S ((lim (b*2^s)).length) Y 1 (((lim (b*2^s)).length:Nat)-1:Nat) (((lim (b*2^s)).length:Nat)-1:Nat) ((e.f.q.1).ok oM) (lH 67 (mW ((lim (b*2^s)).getD (((lim (b*2^s)).length:Nat)-1:Nat) 0)) e ((e.f.q.1).el (((lim (b*2^s)).length:Nat)-1:Nat) oM) (lV 68 (mV ((lim (b*2^s)).getD (((lim (b*2^s)).length:Nat)-1:Nat) 0)) ?_ (hr:=rU ((((lim (b*2^s)).getD (((lim (b*2^s)).length:Nat)-1:Nat) 0:Nat):Int)) kR (bc oM oM))));refine lL e ac (aG (lL e aD (bp 71 (((lim (b*2^s)).length:Nat)-2) (((lim (b*2^s)).length:Nat)-2) ?_)));refine lX 72 S ((lim (b*2^s)).length) Y 1 (((lim (b*2^s)).length:Nat)-2:Nat) (((lim (b*2^s)).length:Nat)-2:Nat) ((e.f.q.1).ok oM) (lH 73 (mW ((lim (b*2^s)).getD (((lim (b*2^s)).length:Nat)-2:Nat) 0)) e ((e.f.q.1).el (((lim (b*2^s)).length:Nat)-2:Nat) oM) (lV 74 (mV ((lim (b*2^s)).getD (((lim (b*2^s)).length:Nat)-2:Nat) 0)) ?_ (hr:=rU ((((lim (b*2^s)).getD (((lim (b*2^s)).length:Nat)-2:Nat) 0:Nat):Int)) kR (bc oM oM))));refine lL e ac (lN (bH [(4,sZ),(5,sZ),(8,nV s),(9,qS S ((lim (b*2^s)).length) Y),(10,qS zP ((lim (a*2^s)++([0,0])).length) zQ),(11,nV ((lim (b*2^s)).length)),(12,mV ((lim (b*2^s)).getD (((lim (b*2^s)).length:Nat)-1:Nat) 0)),(13,mV ((lim (b*2^s)).getD (((lim (b*2^s)).length:Nat)-2:Nat) 0))] ?_));refine aa e [.c,.v (nV ((lim (a*2^s)++([0,0])).length)),.c] (bp 78 (((lim (a*2^s)++([0,0])).length:Nat)-((lim (b*2^s)).length:Nat)) (((lim (a*2^s)).length+2)-(lim (b*2^s)).length) ?_);refine lK 79 141 (((lim (a*2^s)).length+2)-(lim (b*2^s)).length:Nat) 1 4 (uW 0) az 0 e (fun M _ yi e=>?_);have zU:(zY (((lim (a*2^s)).length+2)-(lim (b*2^s)).length:Nat) 0).length=(((lim (a*2^s)).length+2)-(lim (b*2^s)).length:Nat):=by simp
 refine lL e ac (ag (aa e [.c,.v (nV ((lim (a*2^s)++([0,0])).length)),.c] (bp 83 (((lim (a*2^s)++([0,0])).length:Nat)-((lim (b*2^s)).length:Nat)) (((lim (a*2^s)++([0,0])).length:Nat)-((lim (b*2^s)).length:Nat)) ?_)));refine lV 84 (iV (((((lim (a*2^s)).length+2)-(lim (b*2^s)).length:Nat):Int)-1)) ?_ (hr:=rS (((((lim (a*2^s)++([0,0])).length:Nat)-((lim (b*2^s)).length:Nat):Nat)-1)) kR ((gK oM oM).trans oM));refine lL e ac (aZ ?_);refine bH _ (CG.loop (fun μ_ Γ w_=>∃ (m:Nat)(rA:Z9)(Q:Nat)(u:List Nat)(V:List Nat)(L:Hp),μ_=m/\Γ=[(4,sZ),(5,sZ),(8,nV s),(9,qS S ((lim (b*2^s)).length) Y),(10,qS rA ((u).length) Q),(11,nV ((lim (b*2^s)).length)),(12,mV ((lim (b*2^s)).getD (((lim (b*2^s)).length:Nat)-1:Nat) 0)),(13,mV ((lim (b*2^s)).getD (((lim (b*2^s)).length:Nat)-2:Nat) 0)),(14,qS (sB M) (((lim (a*2^s)).length+2)-(lim (b*2^s)).length:Nat) (((lim (a*2^s)).length+2)-(lim (b*2^s)).length:Nat)),(15,iV ((m:Int)-1))]/\SS w h w_ L [⟨M,141,(V).flatMap az⟩] [⟨141,1,rA,Q,(u).length,(u).flatMap az⟩] [S3 (sB ze) ([0,0]),fun L=>Seg L ze 0 ([uW 0,uW 0]),S3 zk (lim (a*2^s)),fun L=>Seg L zj 0 ([]),S3 S (lim (b*2^s)),S3 D (lim b),S3 A (lim a)]/\m<=((lim (a*2^s)).length+2)-(lim (b*2^s)).length/\u.length=((lim (a*2^s)).length+2)/\Ld u/\V.length=((lim (a*2^s)).length+2)-(lim (b*2^s)).length/\Ld V/\bh u<4294967296^m*bh (lim (b*2^s))/\a*2^s=bh V*bh (lim (b*2^s))+bh u/\(∀ k,k<m->V.getD k 0=0)) _ ⟨((lim (a*2^s)).length+2)-(lim (b*2^s)).length,zP,zQ,(lim (a*2^s))++[0,0],zY (((lim (a*2^s)).length+2)-(lim (b*2^s)).length:Nat) 0,yi,rfl,rfl,e.to _ _,nR _,br,(Dg.append (Ld.lim _) (Dg.cons kD (Dg.one kD))),zU,Ld.rep _,(BE hvn hb2 oM (Ma hbp (Lz s))),GU,fun k _=>eg⟩ ?_);rintro _ _ _ ⟨m,rA,Q,u,V,_,b0,rfl,e,hm,hul,U,hql,hWq,hR,inv,hq0⟩;refine cQ (aa e ac ?_);cases zm:(decide ((0:Int)<=((m:Int)-1:Int)))
 .
  have zB:=oF zm;refine lB 86 zm (ah (CG.exit ?_))
  show CG _ _ _ _ _ _ _ _
  refine aa e ac ?_;have hm0:m=0:=by omega
  rw[hm0,MA,LW] at hR
  obtain ⟨hQ,hRm⟩:=Ge (di (b*2^s)) rfl inv hR;obtain ⟨_,e,bq,b6,b1⟩:=e.pub 0;replace e:=(e.to [] [⟨141,1,rA,Q,(u).length,(u).flatMap az⟩]).aS (SlO.of_flat (sz:=1) (f:=az) (d:=0) (b:=M) (o:=0) (l:=V) (fun _=>rfl) bq);refine aq 252 e (jh (sB M) (((lim (a*2^s)).length+2)-(lim (b*2^s)).length:Nat) V (((lim (a*2^s)).length+2)-(lim (b*2^s)).length:Nat) hql oM oM _ _ e.g e.f.1) (fun _ _ e=>lL e ac ?_);obtain ⟨_,e,zW⟩:=e.pubr 0 (A:=rA) (c:=Q) (l:=u) (f:=az) (ty:=141) (sz:=1) 0 (fun _=>rfl);refine aq 254 e (jh rA Q u ((u).length) rfl oM zW _ _ e.g e.f.1) (fun _ _ e=>lL e ac (lV 256 (iV (-(s:Int))) ?_ (hr:=rS ((0-(s:Int))) kR (by rw[IntKind.wrap_i64];omega))));refine lC 257 e (En (bh u) rA Q (tl u ((u).length)) (mq U rfl) (by have:=iq u u.length;omega) (by have:=iq u u.length;omega) s oM _ _ e.g (by rw[rV (n:=bh u) U rfl];exact (e.f.1).take _)) ?_;rintro _ _ _ e ⟨yj,yk,rfl,zX,ya⟩;replace e:=e.aS ya;exact lL e aD (ae e [] (.tuple #[qS (sB M) (tl V (((lim (a*2^s)).length+2)-(lim (b*2^s)).length:Nat)) (((lim (a*2^s)).length+2)-(lim (b*2^s)).length:Nat),qS yj ((lim (bh u/2^s)).length) yk]) (⟨_,_,rfl,RN.trim hWq hQ hql (nR _) e.f.r.1,by rw[<-hRm];exact ⟨_,_,rfl,zX,e.f.1⟩⟩))
 have zB:=oT zm;refine lB 86 zm (am (cK (cQ (kZ (cQ (cR 17 [] mixed e ao ?_))))));have hm1:0<m:=by omega
 have hn2:2<=(lim (b*2^s)).length:=by omega
 have hjn:m-1+(lim (b*2^s)).length<u.length:=by omega
 have hR1:bh u<4294967296^(m-1+1)*bh (lim (b*2^s)):=by rw[show m-1+1=m by omega];exact hR
 have hle:=GX hn2 rfl X U hjn hR1;have hu2:=U.get (m-1+(lim (b*2^s)).length);have hu1:=U.get (m-1+(lim (b*2^s)).length-1);have hu0:=U.get (m-1+(lim (b*2^s)).length-2);refine eV 0 89 (qS rA ((u).length) Q) (eV 1 90 (iV ((m:Int)-1)) (eV 2 91 (nV ((lim (b*2^s)).length)) (jG 3 92 (((m:Int)-1)+((lim (b*2^s)).length:Nat)) (m-1+(lim (b*2^s)).length) ?_)));obtain ⟨Z,zD⟩:=e.rowA 0 (A:=rA) (c:=Q) (m:=(u).length) (ty:=141) (sz:=1) (cs:=(u).flatMap az) oM;subst zD;refine eX 4 93 (sB Z) ((u).length) Q 1 (m-1+(lim (b*2^s)).length:Nat) (m-1+(lim (b*2^s)).length:Nat) rfl (EO (ty:=141) (sz:=1) (c:=Q) (m:=(u).length) (b:=Z) (cs:=(u).flatMap az) 5 94 0 (mW (u.getD (m-1+(lim (b*2^s)).length:Nat) 0)) (az (u.getD (m-1+(lim (b*2^s)).length:Nat) 0)) e (fw (f:=az) (sz:=1) (fun _=>rfl) 0 u (m-1+(lim (b*2^s)).length:Nat) oM) (eV 6 95 (mV (u.getD (m-1+(lim (b*2^s)).length:Nat) 0)) ?_ (hv:=fun _=>rU (((u.getD (m-1+(lim (b*2^s)).length:Nat) 0:Nat):Int)) kR (bc oM oM))));refine eV 7 96 (mV ((u.getD (m-1+(lim (b*2^s)).length:Nat) 0:Nat)*4294967296%18446744073709551616)) ?_ (hv:=fun _=>rU ((((u.getD (m-1+(lim (b*2^s)).length:Nat) 0:Nat):Int)*4294967296)) kR (jF (u.getD (m-1+(lim (b*2^s)).length:Nat) 0:Nat) 4294967296));refine eV 8 97 (qS (sB Z) ((u).length) Q) (eV 9 98 (iV ((m:Int)-1)) (eV 10 99 (nV ((lim (b*2^s)).length)) (jG 11 100 (((m:Int)-1)+((lim (b*2^s)).length:Nat)) (m-1+(lim (b*2^s)).length) (jG 12 101 ((m-1+(lim (b*2^s)).length:Nat)-1) (m-1+(lim (b*2^s)).length-1) (eX 13 102 (sB Z) ((u).length) Q 1 (m-1+(lim (b*2^s)).length-1:Nat) (m-1+(lim (b*2^s)).length-1:Nat) rfl (EO (ty:=141) (sz:=1) (c:=Q) (m:=(u).length) (b:=Z) (cs:=(u).flatMap az) 14 103 0 (mW (u.getD (m-1+(lim (b*2^s)).length-1:Nat) 0)) (az (u.getD (m-1+(lim (b*2^s)).length-1:Nat) 0)) e (fw (f:=az) (sz:=1) (fun _=>rfl) 0 u (m-1+(lim (b*2^s)).length-1:Nat) oM) (eV 15 104 (mV (u.getD (m-1+(lim (b*2^s)).length-1:Nat) 0)) ?_ (hv:=fun _=>rU (((u.getD (m-1+(lim (b*2^s)).length-1:Nat) 0:Nat):Int)) kR (bc oM oM)))))))));refine eV 16 105 (mV ((u.getD (m-1+(lim (b*2^s)).length) 0)*4294967296+u.getD (m-1+(lim (b*2^s)).length-1) 0)) ?_ (hv:=fun _=>aK (iw (t:=38) (u:=38) (x:=.tmp 96) (y:=.tmp 104) (a:=((u.getD (m-1+(lim (b*2^s)).length:Nat) 0:Nat)*4294967296%18446744073709551616:Nat)) (b:=(u.getD (m-1+(lim (b*2^s)).length-1:Nat) 0:Nat)) kR kR kR oM oM _) (by rw[z1 (show (u.getD (m-1+(lim (b*2^s)).length) 0)*4294967296<18446744073709551616 by omega),rO hu1]));refine bU e (fun _ yl e=>tV 17 16 (mV ((u.getD (m-1+(lim (b*2^s)).length) 0)*4294967296+u.getD (m-1+(lim (b*2^s)).length-1) 0)) (qy (lL e aD (lV 108 (mV (((u.getD (m-1+(lim (b*2^s)).length) 0)*4294967296+u.getD (m-1+(lim (b*2^s)).length-1) 0:Nat)/((lim (b*2^s)).getD (((lim (b*2^s)).length:Nat)-1:Nat) 0:Nat))) ?_ (hr:=aK (dB (t:=38) (u:=38) (x:=.tmp 106) (y:=.tmp 107) (k:=.u64) (a:=(((u.getD (m-1+(lim (b*2^s)).length) 0)*4294967296+u.getD (m-1+(lim (b*2^s)).length-1) 0:Nat):Int)) (b:=(((lim (b*2^s)).getD (((lim (b*2^s)).length:Nat)-1:Nat) 0:Nat):Int)) kR kR kR oM _) (kg ((u.getD (m-1+(lim (b*2^s)).length) 0)*4294967296+u.getD (m-1+(lim (b*2^s)).length-1) 0:Nat) ((lim (b*2^s)).getD (((lim (b*2^s)).length:Nat)-1:Nat) 0:Nat) oM))))));refine lL e ac (aG (lL e aD (lV 111 (mV (((u.getD (m-1+(lim (b*2^s)).length) 0)*4294967296+u.getD (m-1+(lim (b*2^s)).length-1) 0:Nat)%((lim (b*2^s)).getD (((lim (b*2^s)).length:Nat)-1:Nat) 0:Nat))) ?_ (hr:=aK (fj (t:=38) (u:=38) (x:=.tmp 109) (y:=.tmp 110) (k:=.u64) (a:=(((u.getD (m-1+(lim (b*2^s)).length) 0)*4294967296+u.getD (m-1+(lim (b*2^s)).length-1) 0:Nat):Int)) (b:=(((lim (b*2^s)).getD (((lim (b*2^s)).length:Nat)-1:Nat) 0:Nat):Int)) kR kR kR oM _) (dq ((u.getD (m-1+(lim (b*2^s)).length) 0)*4294967296+u.getD (m-1+(lim (b*2^s)).length-1) 0:Nat) ((lim (b*2^s)).getD (((lim (b*2^s)).length:Nat)-1:Nat) 0:Nat))))));refine lL e ac (lN (CG.join (fun Γ w_=>∃ (H:Nat)(L:Hp),Γ=[(4,sZ),(5,sZ),(8,nV s),(9,qS S ((lim (b*2^s)).length) Y),(10,qS (sB Z) ((u).length) Q),(11,nV ((lim (b*2^s)).length)),(12,mV ((lim (b*2^s)).getD (((lim (b*2^s)).length:Nat)-1:Nat) 0)),(13,mV ((lim (b*2^s)).getD (((lim (b*2^s)).length:Nat)-2:Nat) 0)),(14,qS (sB M) (((lim (a*2^s)).length+2)-(lim (b*2^s)).length:Nat) (((lim (a*2^s)).length+2)-(lim (b*2^s)).length:Nat)),(15,iV ((m:Int)-1)),(17,mV H)]/\SS w h w_ L [⟨M,141,(V).flatMap az⟩] [⟨141,1,sB Z,Q,(u).length,(u).flatMap az⟩] [S3 (sB ze) ([0,0]),fun L=>Seg L ze 0 ([uW 0,uW 0]),S3 zk (lim (a*2^s)),fun L=>Seg L zj 0 ([]),S3 S (lim (b*2^s)),S3 D (lim b),S3 A (lim a)]/\EE (u.getD (m-1+(lim (b*2^s)).length) 0) (u.getD (m-1+(lim (b*2^s)).length-1) 0) (u.getD (m-1+(lim (b*2^s)).length-2) 0) ((lim (b*2^s)).getD ((lim (b*2^s)).length-1) 0) ((lim (b*2^s)).getD ((lim (b*2^s)).length-2) 0) H) ?_ ?_))
 .
  refine kZ ?_;refine bH _ (CG.loop (fun μ_ Γ w_=>∃ (g:Nat)(O:Nat)(L:Hp),μ_=g/\Γ=[(4,sZ),(5,sZ),(8,nV s),(9,qS S ((lim (b*2^s)).length) Y),(10,qS (sB Z) ((u).length) Q),(11,nV ((lim (b*2^s)).length)),(12,mV ((lim (b*2^s)).getD (((lim (b*2^s)).length:Nat)-1:Nat) 0)),(13,mV ((lim (b*2^s)).getD (((lim (b*2^s)).length:Nat)-2:Nat) 0)),(14,qS (sB M) (((lim (a*2^s)).length+2)-(lim (b*2^s)).length:Nat) (((lim (a*2^s)).length+2)-(lim (b*2^s)).length:Nat)),(15,iV ((m:Int)-1)),(17,mV g),(18,mV O)]/\SS w h w_ L [⟨M,141,(V).flatMap az⟩] [⟨141,1,sB Z,Q,(u).length,(u).flatMap az⟩] [S3 (sB ze) ([0,0]),fun L=>Seg L ze 0 ([uW 0,uW 0]),S3 zk (lim (a*2^s)),fun L=>Seg L zj 0 ([]),S3 S (lim (b*2^s)),S3 D (lim b),S3 A (lim a)]/\Gk (u.getD (m-1+(lim (b*2^s)).length) 0) (u.getD (m-1+(lim (b*2^s)).length-1) 0) (u.getD (m-1+(lim (b*2^s)).length-2) 0) ((lim (b*2^s)).getD ((lim (b*2^s)).length-1) 0) ((lim (b*2^s)).getD ((lim (b*2^s)).length-2) 0) g O/\O<4294967296/\g<18446744073709551616) _ ⟨(((u.getD (m-1+(lim (b*2^s)).length) 0)*4294967296+u.getD (m-1+(lim (b*2^s)).length-1) 0:Nat)/((lim (b*2^s)).getD (((lim (b*2^s)).length:Nat)-1:Nat) 0:Nat):Nat),(((u.getD (m-1+(lim (b*2^s)).length) 0)*4294967296+u.getD (m-1+(lim (b*2^s)).length-1) 0:Nat)%((lim (b*2^s)).getD (((lim (b*2^s)).length:Nat)-1:Nat) 0:Nat):Nat),yl,rfl,rfl,e.to _ _,(Gk.start oM hu0),(by have:=z2 (u.getD (m-1+(lim (b*2^s)).length) 0*4294967296+u.getD (m-1+(lim (b*2^s)).length-1) 0) (show 0<(lim (b*2^s)).getD ((lim (b*2^s)).length-1) 0 by omega);omega),(by have:=Nat.div_le_self ((u.getD (m-1+(lim (b*2^s)).length) 0)*4294967296+u.getD (m-1+(lim (b*2^s)).length-1) 0) ((lim (b*2^s)).getD ((lim (b*2^s)).length-1) 0);omega)⟩ ?_);rintro _ _ _ ⟨g,O,zl,bx,rfl,e,hG,hrh,hgb⟩;have bz:=fun hg=>hG.big hg hle hu1
  refine cQ (aa e ac ?_);cases zn:(decide ((4294967296:Int)<=(g:Int)))
  .
   have zE:=oF zn;refine lB 113 zn (lL e aD ?_);cases zo:(decide ((O:Int)<(4294967296:Int)))
   .
    have zG:=oF zo;refine lB 116 zo (lL e ac (lG 118 ?_));refine lG 119 (lG 120 (lG 121 (lG 122 (lG 123 (lG 124 (lG 125 (lG 126 (lG 127 (lG 128 (lG 129 (lG 130 (lG 131 (lG 132 (lL e [.v qF,.v qF] (ah (CG.exit ?_))))))))))))))));intro a_ W;exact ⟨_,⟨g,zl,rfl,e.to _ _,(hG.fin oM hv0 (by first|exact .inr oM|exact .inl oM))⟩,W.to _ kR⟩
   have zG:=oT zo;refine lB 116 zo (lL e dl (lV 120 (mV (g*((lim (b*2^s)).getD (((lim (b*2^s)).length:Nat)-2:Nat) 0:Nat))) ?_ (hr:=rU (((g:Int)*(((lim (b*2^s)).getD (((lim (b*2^s)).length:Nat)-2:Nat) 0:Nat):Int))) kR (jg g ((lim (b*2^s)).getD (((lim (b*2^s)).length:Nat)-2:Nat) 0:Nat) (by have:=BU (show g<4294967296 by omega) hv0;omega)))));refine lL e ac (lV 122 (mV (O*4294967296)) ?_ (hr:=rU (((O:Int)*4294967296)) kR ((bc oM oM).trans oM)));refine lL e dl (bp 126 (((m:Int)-1)+((lim (b*2^s)).length:Nat)) (m-1+(lim (b*2^s)).length) ?_);refine bp 127 ((m-1+(lim (b*2^s)).length:Nat)-2) (m-1+(lim (b*2^s)).length-2) (lX 128 (sB Z) ((u).length) Q 1 (m-1+(lim (b*2^s)).length-2:Nat) (m-1+(lim (b*2^s)).length-2:Nat) rfl (JM (ty:=141) (sz:=1) (c:=Q) (m:=(u).length) (b:=Z) (cs:=(u).flatMap az) 129 0 (mW (u.getD (m-1+(lim (b*2^s)).length-2:Nat) 0)) (az (u.getD (m-1+(lim (b*2^s)).length-2:Nat) 0)) e (fw (f:=az) (sz:=1) (fun _=>rfl) 0 u (m-1+(lim (b*2^s)).length-2:Nat) oM) (lV 130 (mV (u.getD (m-1+(lim (b*2^s)).length-2:Nat) 0)) ?_ (hr:=rU (((u.getD (m-1+(lim (b*2^s)).length-2:Nat) 0:Nat):Int)) kR (bc oM oM)))));refine lV 131 (mV (O*4294967296+u.getD (m-1+(lim (b*2^s)).length-2) 0)) ?_ (hr:=aK (iw (t:=38) (u:=38) (x:=.tmp 122) (y:=.tmp 130) (a:=(O*4294967296)) (b:=(u.getD (m-1+(lim (b*2^s)).length-2:Nat) 0:Nat)) kR kR kR oM oM _) (by rw[rO hu0]));cases zp:(decide (((O*4294967296+u.getD (m-1+(lim (b*2^s)).length-2) 0:Nat):Int)<((g*((lim (b*2^s)).getD (((lim (b*2^s)).length:Nat)-2:Nat) 0:Nat):Nat):Int)))
   .
    have zH:=oF zp;refine lB 132 zp (lL e [.v qF,.v qF] (ah (CG.exit ?_)));intro a_ W;exact ⟨_,⟨g,zl,rfl,e.to _ _,(hG.fin oM hv0 (by first|exact .inr oM|exact .inl oM))⟩,W.to _ kR⟩
   have zH:=oT zp;refine lB 132 zp (lL e [.v qT,.v qT] (am (cK (kZ (ax ?_)))));have hG2:Gk (u.getD (m-1+(lim (b*2^s)).length) 0) (u.getD (m-1+(lim (b*2^s)).length-1) 0) (u.getD (m-1+(lim (b*2^s)).length-2) 0) ((lim (b*2^s)).getD ((lim (b*2^s)).length-1) 0) ((lim (b*2^s)).getD ((lim (b*2^s)).length-2) 0) (g-1) (O+(lim (b*2^s)).getD ((lim (b*2^s)).length-1) 0):=by first|exact hG.decB oM|exact (hG.decT oM).2
   have hg0:0<g:=by first|omega|exact (hG.decT oM).1
   refine lL e ac (lV 136 (mV (g-1)) ?_ (hr:=rU (((g:Int)-(1:Int))) kR (fA g 1 oM oM)));refine lL e ac (aG (lL e aD (lV 139 (mV (O+((lim (b*2^s)).getD (((lim (b*2^s)).length:Nat)-1:Nat) 0:Nat))) ?_ (hr:=rU (((O:Int)+(((lim (b*2^s)).getD (((lim (b*2^s)).length:Nat)-1:Nat) 0:Nat):Int))) kR (eA O ((lim (b*2^s)).getD (((lim (b*2^s)).length:Nat)-1:Nat) 0:Nat) oM)))));refine lL e ac (aG (lL e ac ?_));cases zq:(decide ((4294967296:Int)<=((O+((lim (b*2^s)).getD (((lim (b*2^s)).length:Nat)-1:Nat) 0:Nat):Nat):Int)))
   .
    have zI:=oF zq;refine lB 141 zq (lN (bH [(4,sZ),(5,sZ),(8,nV s),(9,qS S ((lim (b*2^s)).length) Y),(10,qS (sB Z) ((u).length) Q),(11,nV ((lim (b*2^s)).length)),(12,mV ((lim (b*2^s)).getD (((lim (b*2^s)).length:Nat)-1:Nat) 0)),(13,mV ((lim (b*2^s)).getD (((lim (b*2^s)).length:Nat)-2:Nat) 0)),(14,qS (sB M) (((lim (a*2^s)).length+2)-(lim (b*2^s)).length:Nat) (((lim (a*2^s)).length+2)-(lim (b*2^s)).length:Nat)),(15,iV ((m:Int)-1)),(17,mV (g-1)),(18,mV (O+((lim (b*2^s)).getD (((lim (b*2^s)).length:Nat)-1:Nat) 0:Nat))),(141,qF)] ?_));refine dD (CG.skip ?_);intro a_ W;refine ⟨_,_,?_,⟨g-1,(O+((lim (b*2^s)).getD (((lim (b*2^s)).length:Nat)-1:Nat) 0:Nat):Nat),zl,rfl,rfl,e.to _ _,hG2,oM,oM⟩,W.to _ kR⟩
    omega
   have zI:=oT zq;refine lB 141 zq (lN (bH [(4,sZ),(5,sZ),(8,nV s),(9,qS S ((lim (b*2^s)).length) Y),(10,qS (sB Z) ((u).length) Q),(11,nV ((lim (b*2^s)).length)),(12,mV ((lim (b*2^s)).getD (((lim (b*2^s)).length:Nat)-1:Nat) 0)),(13,mV ((lim (b*2^s)).getD (((lim (b*2^s)).length:Nat)-2:Nat) 0)),(14,qS (sB M) (((lim (a*2^s)).length+2)-(lim (b*2^s)).length:Nat) (((lim (a*2^s)).length+2)-(lim (b*2^s)).length:Nat)),(15,iV ((m:Int)-1)),(17,mV (g-1)),(18,mV (O+((lim (b*2^s)).getD (((lim (b*2^s)).length:Nat)-1:Nat) 0:Nat))),(141,qT)] ?_));refine ct (CG.exit ?_);have bn:=fun hg=>hG2.big hg hle hu1
   intro a_ W;exact ⟨_,⟨(g-1),zl,rfl,e.to _ _,(hG2.fin oM hv0 (.inl oM))⟩,W.to _ kR⟩
  have zE:=oT zn;refine lB 113 zn (lL e ac (lG 115 ?_));refine lG 116 (lG 117 (lG 118 (lG 119 (lG 120 (lG 121 (lG 122 (lG 123 (lG 124 (lG 125 (lG 126 (lG 127 (lG 128 (lG 129 (lG 130 (lG 131 (lG 132 (lG 133 (lL e [.v qT] (am (cK (kZ (ax ?_))))))))))))))))))))));have hG2:Gk (u.getD (m-1+(lim (b*2^s)).length) 0) (u.getD (m-1+(lim (b*2^s)).length-1) 0) (u.getD (m-1+(lim (b*2^s)).length-2) 0) ((lim (b*2^s)).getD ((lim (b*2^s)).length-1) 0) ((lim (b*2^s)).getD ((lim (b*2^s)).length-2) 0) (g-1) (O+(lim (b*2^s)).getD ((lim (b*2^s)).length-1) 0):=by first|exact hG.decB oM|exact (hG.decT oM).2
  have hg0:0<g:=by first|omega|exact (hG.decT oM).1
  refine lL e ac (lV 136 (mV (g-1)) ?_ (hr:=rU (((g:Int)-(1:Int))) kR (fA g 1 oM oM)));refine lL e ac (aG (lL e aD (lV 139 (mV (O+((lim (b*2^s)).getD (((lim (b*2^s)).length:Nat)-1:Nat) 0:Nat))) ?_ (hr:=rU (((O:Int)+(((lim (b*2^s)).getD (((lim (b*2^s)).length:Nat)-1:Nat) 0:Nat):Int))) kR (eA O ((lim (b*2^s)).getD (((lim (b*2^s)).length:Nat)-1:Nat) 0:Nat) oM)))));refine lL e ac (aG (lL e ac ?_));cases zr:(decide ((4294967296:Int)<=((O+((lim (b*2^s)).getD (((lim (b*2^s)).length:Nat)-1:Nat) 0:Nat):Nat):Int)))
  .
   have zJ:=oF zr;refine lB 141 zr (lN (bH [(4,sZ),(5,sZ),(8,nV s),(9,qS S ((lim (b*2^s)).length) Y),(10,qS (sB Z) ((u).length) Q),(11,nV ((lim (b*2^s)).length)),(12,mV ((lim (b*2^s)).getD (((lim (b*2^s)).length:Nat)-1:Nat) 0)),(13,mV ((lim (b*2^s)).getD (((lim (b*2^s)).length:Nat)-2:Nat) 0)),(14,qS (sB M) (((lim (a*2^s)).length+2)-(lim (b*2^s)).length:Nat) (((lim (a*2^s)).length+2)-(lim (b*2^s)).length:Nat)),(15,iV ((m:Int)-1)),(17,mV (g-1)),(18,mV (O+((lim (b*2^s)).getD (((lim (b*2^s)).length:Nat)-1:Nat) 0:Nat))),(141,qF)] ?_));refine dD (CG.skip ?_);intro a_ W;refine ⟨_,_,?_,⟨g-1,(O+((lim (b*2^s)).getD (((lim (b*2^s)).length:Nat)-1:Nat) 0:Nat):Nat),zl,rfl,rfl,e.to _ _,hG2,oM,oM⟩,W.to _ kR⟩
   omega
  have zJ:=oT zr;refine lB 141 zr (lN (bH [(4,sZ),(5,sZ),(8,nV s),(9,qS S ((lim (b*2^s)).length) Y),(10,qS (sB Z) ((u).length) Q),(11,nV ((lim (b*2^s)).length)),(12,mV ((lim (b*2^s)).getD (((lim (b*2^s)).length:Nat)-1:Nat) 0)),(13,mV ((lim (b*2^s)).getD (((lim (b*2^s)).length:Nat)-2:Nat) 0)),(14,qS (sB M) (((lim (a*2^s)).length+2)-(lim (b*2^s)).length:Nat) (((lim (a*2^s)).length+2)-(lim (b*2^s)).length:Nat)),(15,iV ((m:Int)-1)),(17,mV (g-1)),(18,mV (O+((lim (b*2^s)).getD (((lim (b*2^s)).length:Nat)-1:Nat) 0:Nat))),(141,qT)] ?_));refine ct (CG.exit ?_);have bn:=fun hg=>hG2.big hg hle hu1
  intro a_ W;exact ⟨_,⟨(g-1),zl,rfl,e.to _ _,(hG2.fin oM hv0 (.inl oM))⟩,W.to _ kR⟩
 rintro _ _ ⟨H,ym,rfl,e,hH⟩;refine ax ?_;have hgl:=hH.2.2;have hGd:=Ah (n:=(lim (b*2^s)).length) (j:=m-1) hn2 rfl X U hjn bb hR1 hH;refine lL e ac (aG (lL e ac (ag (aa e ac (aZ ?_)))));refine bH _ (CG.loop (fun μ_ Γ w_=>∃ (i:Nat)(raA:Z9)(I:Nat)(z:List Nat)(F:Nat)(J:Nat)(L:Hp),μ_=(lim (b*2^s)).length-i/\Γ=[(4,sZ),(5,sZ),(8,nV s),(9,qS S ((lim (b*2^s)).length) Y),(10,qS raA ((z).length) I),(11,nV ((lim (b*2^s)).length)),(12,mV ((lim (b*2^s)).getD (((lim (b*2^s)).length:Nat)-1:Nat) 0)),(13,mV ((lim (b*2^s)).getD (((lim (b*2^s)).length:Nat)-2:Nat) 0)),(14,qS (sB M) (((lim (a*2^s)).length+2)-(lim (b*2^s)).length:Nat) (((lim (a*2^s)).length+2)-(lim (b*2^s)).length:Nat)),(15,iV ((m:Int)-1)),(17,mV H),(21,nV i),(19,mV F),(20,mV J)]/\SS w h w_ L [⟨M,141,(V).flatMap az⟩] [⟨141,1,raA,I,(z).length,(z).flatMap az⟩] [S3 (sB ze) ([0,0]),fun L=>Seg L ze 0 ([uW 0,uW 0]),S3 zk (lim (a*2^s)),fun L=>Seg L zj 0 ([]),S3 S (lim (b*2^s)),S3 D (lim b),S3 A (lim a)]/\i<=(lim (b*2^s)).length/\z.length=((lim (a*2^s)).length+2)/\Ld z/\F<4294967296/\J<=1/\ai 4294967296 z+4294967296^(m-1)*(H*ai 4294967296 ((lim (b*2^s)).take i))=bh u+4294967296^(m-1+i)*(F+J)/\Above z u (m-1+(lim (b*2^s)).length+1)) _ ⟨0,sB Z,Q,u,0,0,ym,rfl,rfl,e.to _ _,My _,hul,U,oM,oM,(by show ai _ u+_=ai _ u+_;simp[ai]),Above.refl _ _⟩ ?_);rintro _ _ _ ⟨i,raA,I,z,F,J,zu,cj,rfl,e,hi,hua,hWa,hcy,hbo,bf,bm⟩;have cb:=hWa.get (m-1+i);have hvi:=X.get i;refine cQ (aa e aD ?_);cases zs:(decide ((i:Int)<(((lim (b*2^s)).length:Nat):Int)))
 .
  have zK:=oF zs;refine lB 144 zs (ah (CG.exit ?_))
  show CG _ _ _ _ _ _ _ _
  refine ax ?_;have b2:=hWa.get (m-1+(lim (b*2^s)).length);refine lL e dl (bp 182 (((m:Int)-1)+((lim (b*2^s)).length:Nat)) (m-1+(lim (b*2^s)).length) ?_);obtain ⟨zd,zL⟩:=e.rowA 0 (A:=raA) (c:=I) (m:=(z).length) (ty:=141) (sz:=1) (cs:=(z).flatMap az) oM;subst zL;refine lX 183 (sB zd) ((z).length) I 1 (m-1+(lim (b*2^s)).length:Nat) (m-1+(lim (b*2^s)).length:Nat) rfl (JM (ty:=141) (sz:=1) (c:=I) (m:=(z).length) (b:=zd) (cs:=(z).flatMap az) 184 0 (mW (z.getD (m-1+(lim (b*2^s)).length:Nat) 0)) (az (z.getD (m-1+(lim (b*2^s)).length:Nat) 0)) e (fw (f:=az) (sz:=1) (fun _=>rfl) 0 z (m-1+(lim (b*2^s)).length:Nat) oM) (lV 185 (mV (z.getD (m-1+(lim (b*2^s)).length:Nat) 0)) ?_ (hr:=rU (((z.getD (m-1+(lim (b*2^s)).length:Nat) 0:Nat):Int)) kR (bc oM oM))));refine lL e ac (lV 187 (mV (((z.getD (m-1+(lim (b*2^s)).length:Nat) 0:Nat)+(18446744073709551616-F))%18446744073709551616)) ?_ (hr:=rU ((((z.getD (m-1+(lim (b*2^s)).length:Nat) 0:Nat):Int)-(F:Int))) kR (kN (z.getD (m-1+(lim (b*2^s)).length:Nat) 0:Nat) F oM)));refine lL e ac (lV 189 (mV (((((z.getD (m-1+(lim (b*2^s)).length:Nat) 0:Nat)+(18446744073709551616-F))%18446744073709551616:Nat)+(18446744073709551616-J))%18446744073709551616)) ?_ (hr:=rU ((((((z.getD (m-1+(lim (b*2^s)).length:Nat) 0:Nat)+(18446744073709551616-F))%18446744073709551616:Nat):Int)-(J:Int))) kR (kN (((z.getD (m-1+(lim (b*2^s)).length:Nat) 0:Nat)+(18446744073709551616-F))%18446744073709551616:Nat) J oM)));refine lL e ac (aG ?_);rw[show i=(lim (b*2^s)).length by omega] at bf
  obtain ⟨hT1,hT2⟩:=AN (t:=(((((z.getD (m-1+(lim (b*2^s)).length:Nat) 0:Nat)+(18446744073709551616-F))%18446744073709551616:Nat)+(18446744073709551616-J))%18446744073709551616:Nat)) (hWa.get (m-1+(lim (b*2^s)).length)) hcy hbo rfl;have hE:=xt oM bf (s:=(((((((z.getD (m-1+(lim (b*2^s)).length:Nat) 0:Nat)+(18446744073709551616-F))%18446744073709551616:Nat)+(18446744073709551616-J))%18446744073709551616:Nat))%4294967296)) (bo':=((((((z.getD (m-1+(lim (b*2^s)).length:Nat) 0:Nat)+(18446744073709551616-F))%18446744073709551616:Nat)+(18446744073709551616-J))%18446744073709551616:Nat))/9223372036854775808) oM;refine lL e dl (bp 193 (((m:Int)-1)+((lim (b*2^s)).length:Nat)) (m-1+(lim (b*2^s)).length) ?_);refine lL e ac (lV 195 (mW ((((((z.getD (m-1+(lim (b*2^s)).length:Nat) 0:Nat)+(18446744073709551616-F))%18446744073709551616:Nat)+(18446744073709551616-J))%18446744073709551616:Nat)%4294967296)) ?_ (hr:=rT (((((((z.getD (m-1+(lim (b*2^s)).length:Nat) 0:Nat)+(18446744073709551616-F))%18446744073709551616:Nat)+(18446744073709551616-J))%18446744073709551616:Nat):Int)) kR (gW _)));refine lX 196 (sB zd) ((z).length) I 1 (m-1+(lim (b*2^s)).length:Nat) (m-1+(lim (b*2^s)).length:Nat) rfl (Hh (ty:=141) (c:=I) (b:=zd) 0 (m-1+(lim (b*2^s)).length:Nat) 0 ([mW ((((((z.getD (m-1+(lim (b*2^s)).length:Nat) 0:Nat)+(18446744073709551616-F))%18446744073709551616:Nat)+(18446744073709551616-J))%18446744073709551616:Nat)%4294967296)]) z az 1 0 ((((((z.getD (m-1+(lim (b*2^s)).length:Nat) 0:Nat)+(18446744073709551616-F))%18446744073709551616:Nat)+(18446744073709551616-J))%18446744073709551616:Nat)%4294967296:Nat) e oM (fun _ e=>?_));replace e:=e.to [⟨M,141,(V).flatMap az⟩] [⟨141,1,sB zd,I,(z).length,(z.set (m-1+(lim (b*2^s)).length:Nat) ((((((z.getD (m-1+(lim (b*2^s)).length:Nat) 0:Nat)+(18446744073709551616-F))%18446744073709551616:Nat)+(18446744073709551616-J))%18446744073709551616:Nat)%4294967296:Nat)).flatMap az⟩];refine lN (CG.join (fun Γ w_=>∃ (gz:Nat)(rzA:Z9)(rzc:Nat)(uz:List Nat)(L:Hp),Γ=[(4,sZ),(5,sZ),(8,nV s),(9,qS S ((lim (b*2^s)).length) Y),(11,nV ((lim (b*2^s)).length)),(12,mV ((lim (b*2^s)).getD (((lim (b*2^s)).length:Nat)-1:Nat) 0)),(13,mV ((lim (b*2^s)).getD (((lim (b*2^s)).length:Nat)-2:Nat) 0)),(14,qS (sB M) (((lim (a*2^s)).length+2)-(lim (b*2^s)).length:Nat) (((lim (a*2^s)).length+2)-(lim (b*2^s)).length:Nat)),(15,iV ((m:Int)-1)),(17,mV gz),(10,qS rzA ((uz).length) rzc)]/\SS w h w_ L [⟨M,141,(V).flatMap az⟩] [⟨141,1,rzA,rzc,(uz).length,(uz).flatMap az⟩] [S3 (sB ze) ([0,0]),fun L=>Seg L ze 0 ([uW 0,uW 0]),S3 zk (lim (a*2^s)),fun L=>Seg L zj 0 ([]),S3 S (lim (b*2^s)),S3 D (lim b),S3 A (lim a)]/\uz.length=((lim (a*2^s)).length+2)/\Ld uz/\gz<4294967296/\bh uz<4294967296^(m-1)*bh (lim (b*2^s))/\bh uz+4294967296^(m-1)*(gz*bh (lim (b*2^s)))=bh u) ?_ ?_)
  .
   refine ax ?_;have hW4:Ld (z.set (m-1+(lim (b*2^s)).length:Nat) ((((((z.getD (m-1+(lim (b*2^s)).length:Nat) 0:Nat)+(18446744073709551616-F))%18446744073709551616:Nat)+(18446744073709551616-J))%18446744073709551616:Nat)%4294967296:Nat)):=hWa.set _ (z2 _ kD);have bd:Above (z.set (m-1+(lim (b*2^s)).length:Nat) ((((((z.getD (m-1+(lim (b*2^s)).length:Nat) 0:Nat)+(18446744073709551616-F))%18446744073709551616:Nat)+(18446744073709551616-J))%18446744073709551616:Nat)%4294967296:Nat)) u (m-1+(lim (b*2^s)).length+1):=bm.set oM oM;have hl4:(z.set (m-1+(lim (b*2^s)).length:Nat) ((((((z.getD (m-1+(lim (b*2^s)).length:Nat) 0:Nat)+(18446744073709551616-F))%18446744073709551616:Nat)+(18446744073709551616-J))%18446744073709551616:Nat)%4294967296:Nat)).length=((lim (a*2^s)).length+2):=by rw[Mg];exact hua
   refine lL e ac (lV 198 (mV ((((((z.getD (m-1+(lim (b*2^s)).length:Nat) 0:Nat)+(18446744073709551616-F))%18446744073709551616:Nat)+(18446744073709551616-J))%18446744073709551616:Nat)/9223372036854775808)) ?_ (hr:=aK (n:=Mw ((((((z.getD (m-1+(lim (b*2^s)).length:Nat) 0:Nat)+(18446744073709551616-F))%18446744073709551616:Nat)+(18446744073709551616-J))%18446744073709551616:Nat):Int) 9223372036854775808) kR (ei _ 9223372036854775808)));cases zt:((((((((z.getD (m-1+(lim (b*2^s)).length:Nat) 0:Nat)+(18446744073709551616-F))%18446744073709551616:Nat)+(18446744073709551616-J))%18446744073709551616:Nat)/9223372036854775808:Nat):Int) == (1:Int))
   .
    have zM:=aj zt;refine lB 199 zt (ah (CG.skip ?_));have hD_:=D7 hn2 rfl X U hW4 hjn bb hR1 hGd bd (by rw[show ((((((z.getD (m-1+(lim (b*2^s)).length:Nat) 0:Nat)+(18446744073709551616-F))%18446744073709551616:Nat)+(18446744073709551616-J))%18446744073709551616:Nat))/9223372036854775808=0 by omega] at hE;exact hE);have hDw:=hW4;have hDg:=hgl;have hDu:=hD_.1;have hDe:=hD_.2;have hDl:=hl4;intro a_ W;replace e:=e.rown [⟨141,1,sB zd,I,(z.set (m-1+(lim (b*2^s)).length:Nat) ((((((z.getD (m-1+(lim (b*2^s)).length:Nat) 0:Nat)+(18446744073709551616-F))%18446744073709551616:Nat)+(18446744073709551616-J))%18446744073709551616:Nat)%4294967296:Nat)).length,(z.set (m-1+(lim (b*2^s)).length:Nat) ((((((z.getD (m-1+(lim (b*2^s)).length:Nat) 0:Nat)+(18446744073709551616-F))%18446744073709551616:Nat)+(18446744073709551616-J))%18446744073709551616:Nat)%4294967296:Nat)).flatMap az⟩] (by simp only[Mg]);exact ⟨_,⟨H,sB zd,I,z.set (m-1+(lim (b*2^s)).length:Nat) ((((((z.getD (m-1+(lim (b*2^s)).length:Nat) 0:Nat)+(18446744073709551616-F))%18446744073709551616:Nat)+(18446744073709551616-J))%18446744073709551616:Nat)%4294967296:Nat),zu,rfl,e.to _ _,hDl,hDw,hDg,hDu,hDe⟩,W.to _ (by simp only[Mg];kernel_rfl)⟩
   have zM:=eq_of_beq zt;refine lB 199 zt (am (aa e ac ?_));have hE1:=hE;rw[show ((((((z.getD (m-1+(lim (b*2^s)).length:Nat) 0:Nat)+(18446744073709551616-F))%18446744073709551616:Nat)+(18446744073709551616-J))%18446744073709551616:Nat))/9223372036854775808=1 by omega] at hE1
   have hgp:=Hd hn2 rfl X U hW4 hjn bb hR1 hGd bd hE1;refine lV 201 (mV (H-1)) ?_ (hr:=rU (((H:Int)-(1:Int))) kR (fA H 1 oM oM));refine lL e ac (lN (bH [(4,sZ),(5,sZ),(8,nV s),(9,qS S ((lim (b*2^s)).length) Y),(10,qS (sB zd) ((z).length) I),(11,nV ((lim (b*2^s)).length)),(12,mV ((lim (b*2^s)).getD (((lim (b*2^s)).length:Nat)-1:Nat) 0)),(13,mV ((lim (b*2^s)).getD (((lim (b*2^s)).length:Nat)-2:Nat) 0)),(14,qS (sB M) (((lim (a*2^s)).length+2)-(lim (b*2^s)).length:Nat) (((lim (a*2^s)).length+2)-(lim (b*2^s)).length:Nat)),(15,iV ((m:Int)-1)),(17,mV (H-1)),(19,mV F)] ?_));refine aa e ac (ag (aa e ac (aZ ?_)));replace e:=e.rown [⟨141,1,sB zd,I,(z.set (m-1+(lim (b*2^s)).length:Nat) ((((((z.getD (m-1+(lim (b*2^s)).length:Nat) 0:Nat)+(18446744073709551616-F))%18446744073709551616:Nat)+(18446744073709551616-J))%18446744073709551616:Nat)%4294967296:Nat)).length,(z.set (m-1+(lim (b*2^s)).length:Nat) ((((((z.getD (m-1+(lim (b*2^s)).length:Nat) 0:Nat)+(18446744073709551616-F))%18446744073709551616:Nat)+(18446744073709551616-J))%18446744073709551616:Nat)%4294967296:Nat)).flatMap az⟩] (by simp only[Mg]);refine bH _ (CG.loop (fun μ_ Γ w_=>∃ (C:Nat)(rbA:Z9)(K:Nat)(B:List Nat)(c2:Nat)(L:Hp),μ_=(lim (b*2^s)).length-C/\Γ=[(4,sZ),(5,sZ),(8,nV s),(9,qS S ((lim (b*2^s)).length) Y),(10,qS rbA ((B).length) K),(11,nV ((lim (b*2^s)).length)),(12,mV ((lim (b*2^s)).getD (((lim (b*2^s)).length:Nat)-1:Nat) 0)),(13,mV ((lim (b*2^s)).getD (((lim (b*2^s)).length:Nat)-2:Nat) 0)),(14,qS (sB M) (((lim (a*2^s)).length+2)-(lim (b*2^s)).length:Nat) (((lim (a*2^s)).length+2)-(lim (b*2^s)).length:Nat)),(15,iV ((m:Int)-1)),(17,mV (H-1)),(24,nV C),(19,mV c2)]/\SS w h w_ L [⟨M,141,(V).flatMap az⟩] [⟨141,1,rbA,K,(B).length,(B).flatMap az⟩] [S3 (sB ze) ([0,0]),fun L=>Seg L ze 0 ([uW 0,uW 0]),S3 zk (lim (a*2^s)),fun L=>Seg L zj 0 ([]),S3 S (lim (b*2^s)),S3 D (lim b),S3 A (lim a)]/\C<=(lim (b*2^s)).length/\B.length=((lim (a*2^s)).length+2)/\Ld B/\c2<=1/\ai 4294967296 B+4294967296^(m-1+C)*c2=ai 4294967296 (z.set (m-1+(lim (b*2^s)).length:Nat) ((((((z.getD (m-1+(lim (b*2^s)).length:Nat) 0:Nat)+(18446744073709551616-F))%18446744073709551616:Nat)+(18446744073709551616-J))%18446744073709551616:Nat)%4294967296:Nat))+4294967296^(m-1)*ai 4294967296 ((lim (b*2^s)).take C)/\Above B u (m-1+(lim (b*2^s)).length+1)) _ ⟨0,sB zd,I,z.set (m-1+(lim (b*2^s)).length:Nat) ((((((z.getD (m-1+(lim (b*2^s)).length:Nat) 0:Nat)+(18446744073709551616-F))%18446744073709551616:Nat)+(18446744073709551616-J))%18446744073709551616:Nat)%4294967296:Nat),0,zu,rfl,(by simp only[Mg]<;>rfl),e.to _ _,My _,hl4,hW4,oM,(by simp[ai]),bd⟩ ?_);rintro _ _ _ ⟨C,rbA,K,B,c2,yb,bt,rfl,e,hi2,hub,hWb,hc2,bk,bl⟩;refine cQ (aa e aD ?_);cases zi:(decide ((C:Int)<(((lim (b*2^s)).length:Nat):Int)))
   .
    have zv:=oF zi;refine lB 204 zi (ah (CG.exit ?_))
    show CG _ _ _ _ _ _ _ _
    refine kQ ?_;have b3:=hWb.get (m-1+(lim (b*2^s)).length);refine lL e dl (bp 234 (((m:Int)-1)+((lim (b*2^s)).length:Nat)) (m-1+(lim (b*2^s)).length) ?_);refine lL e dl (bp 238 (((m:Int)-1)+((lim (b*2^s)).length:Nat)) (m-1+(lim (b*2^s)).length) ?_);obtain ⟨zf,zw⟩:=e.rowA 0 (A:=rbA) (c:=K) (m:=(B).length) (ty:=141) (sz:=1) (cs:=(B).flatMap az) oM;subst zw;refine lX 239 (sB zf) ((B).length) K 1 (m-1+(lim (b*2^s)).length:Nat) (m-1+(lim (b*2^s)).length:Nat) rfl (JM (ty:=141) (sz:=1) (c:=K) (m:=(B).length) (b:=zf) (cs:=(B).flatMap az) 240 0 (mW (B.getD (m-1+(lim (b*2^s)).length:Nat) 0)) (az (B.getD (m-1+(lim (b*2^s)).length:Nat) 0)) e (fw (f:=az) (sz:=1) (fun _=>rfl) 0 B (m-1+(lim (b*2^s)).length:Nat) oM) (lV 241 (mV (B.getD (m-1+(lim (b*2^s)).length:Nat) 0)) ?_ (hr:=rU (((B.getD (m-1+(lim (b*2^s)).length:Nat) 0:Nat):Int)) kR (bc oM oM))));refine lL e ac (lV 243 (mV ((B.getD (m-1+(lim (b*2^s)).length:Nat) 0:Nat)+c2)) ?_ (hr:=rU ((((B.getD (m-1+(lim (b*2^s)).length:Nat) 0:Nat):Int)+(c2:Int))) kR (eA (B.getD (m-1+(lim (b*2^s)).length:Nat) 0:Nat) c2 oM)));refine lV 244 (mW (((B.getD (m-1+(lim (b*2^s)).length:Nat) 0:Nat)+c2:Nat)%4294967296)) ?_ (hr:=rT ((((B.getD (m-1+(lim (b*2^s)).length:Nat) 0:Nat)+c2:Nat):Int)) kR (gW _));refine lX 245 (sB zf) ((B).length) K 1 (m-1+(lim (b*2^s)).length:Nat) (m-1+(lim (b*2^s)).length:Nat) rfl (Hh (ty:=141) (c:=K) (b:=zf) 0 (m-1+(lim (b*2^s)).length:Nat) 0 ([mW (((B.getD (m-1+(lim (b*2^s)).length:Nat) 0:Nat)+c2:Nat)%4294967296)]) B az 1 0 (((B.getD (m-1+(lim (b*2^s)).length:Nat) 0:Nat)+c2:Nat)%4294967296:Nat) e oM (fun _ e=>?_));replace e:=e.to [⟨M,141,(V).flatMap az⟩] [⟨141,1,sB zf,K,(B).length,(B.set (m-1+(lim (b*2^s)).length:Nat) (((B.getD (m-1+(lim (b*2^s)).length:Nat) 0:Nat)+c2:Nat)%4294967296:Nat)).flatMap az⟩];refine lD ?_;rw[show C=(lim (b*2^s)).length by omega] at bk
    have hE3:=A3 (s:=(B.getD (m-1+(lim (b*2^s)).length) 0+c2)%4294967296) (c':=(B.getD (m-1+(lim (b*2^s)).length) 0+c2)/4294967296) oM bk (Mf _ _);have hDw:Ld (B.set (m-1+(lim (b*2^s)).length:Nat) (((B.getD (m-1+(lim (b*2^s)).length:Nat) 0:Nat)+c2:Nat)%4294967296:Nat)):=hWb.set _ (z2 _ kD);obtain ⟨hDu,hDe,hDp⟩:=GR hn2 rfl X U hW4 hDw hjn bb hR1 hGd bd (bl.set oM oM) hE1 hE3;have hDg:H-1<4294967296:=by omega
    have hDl:(B.set (m-1+(lim (b*2^s)).length:Nat) (((B.getD (m-1+(lim (b*2^s)).length:Nat) 0:Nat)+c2:Nat)%4294967296:Nat)).length=((lim (a*2^s)).length+2):=by rw[Mg];exact hub
    intro a_ W;replace e:=e.rown [⟨141,1,sB zf,K,(B.set (m-1+(lim (b*2^s)).length:Nat) (((B.getD (m-1+(lim (b*2^s)).length:Nat) 0:Nat)+c2:Nat)%4294967296:Nat)).length,(B.set (m-1+(lim (b*2^s)).length:Nat) (((B.getD (m-1+(lim (b*2^s)).length:Nat) 0:Nat)+c2:Nat)%4294967296:Nat)).flatMap az⟩] (by simp only[Mg]);exact ⟨_,⟨(H-1),sB zf,K,B.set (m-1+(lim (b*2^s)).length:Nat) (((B.getD (m-1+(lim (b*2^s)).length:Nat) 0:Nat)+c2:Nat)%4294967296:Nat),yb,rfl,e.to _ _,hDl,hDw,hDg,hDu,hDe⟩,W.to _ (by simp only[Mg];kernel_rfl)⟩
   have zv:=oT zi;refine lB 204 zi (am (cK (cQ (kZ (cQ (cR 15 [] mixed e ao ?_))))));have cd:=X.get C;have b4:=hWb.get (m-1+C);refine eV 0 207 (mV c2) (eV 1 208 (qS rbA ((B).length) K) (eV 2 209 (iV ((m:Int)-1)) (eV 3 210 (nV C) (jG 4 211 (((m:Int)-1)+(C:Nat)) (m-1+C) ?_))));obtain ⟨zg,zx⟩:=e.rowA 0 (A:=rbA) (c:=K) (m:=(B).length) (ty:=141) (sz:=1) (cs:=(B).flatMap az) oM;subst zx;refine eX 5 212 (sB zg) ((B).length) K 1 (m-1+C:Nat) (m-1+C) rfl (EO (ty:=141) (sz:=1) (c:=K) (m:=(B).length) (b:=zg) (cs:=(B).flatMap az) 6 213 0 (mW (B.getD (m-1+C) 0)) (az (B.getD (m-1+C) 0)) e (fw (f:=az) (sz:=1) (fun _=>rfl) 0 B (m-1+C) oM) (eV 7 214 (mV (B.getD (m-1+C) 0)) ?_ (hv:=fun _=>rU (((B.getD (m-1+C) 0:Nat):Int)) kR (bc oM oM))));refine eV 8 215 (mV (c2+(B.getD (m-1+C) 0))) ?_ (hv:=fun _=>rU (((c2:Int)+((B.getD (m-1+C) 0:Nat):Int))) kR (eA c2 (B.getD (m-1+C) 0) oM));refine eV 9 216 (qS S ((lim (b*2^s)).length) Y) (eV 10 217 (nV C) (eX 11 218 S ((lim (b*2^s)).length) Y 1 (C:Nat) C ((e.f.q.1).ok oM) (eH 12 219 (mW ((lim (b*2^s)).getD C 0)) e ((e.f.q.1).el C oM) (eV 13 220 (mV ((lim (b*2^s)).getD C 0)) ?_ (hv:=fun _=>rU ((((lim (b*2^s)).getD C 0:Nat):Int)) kR (bc oM oM))))));refine eV 14 221 (mV ((c2+(B.getD (m-1+C) 0):Nat)+((lim (b*2^s)).getD C 0:Nat))) ?_ (hv:=fun _=>rU ((((c2+(B.getD (m-1+C) 0):Nat):Int)+(((lim (b*2^s)).getD C 0:Nat):Int))) kR (eA (c2+(B.getD (m-1+C) 0):Nat) ((lim (b*2^s)).getD C 0:Nat) oM));refine bU e (fun _ yc e=>tV 15 19 (mV ((c2+(B.getD (m-1+C) 0):Nat)+((lim (b*2^s)).getD C 0:Nat))) (qy (lL e dl (bp 225 (((m:Int)-1)+(C:Nat)) (m-1+C) ?_))));refine lL e ac (lV 227 (mW (((c2+(B.getD (m-1+C) 0):Nat)+((lim (b*2^s)).getD C 0:Nat):Nat)%4294967296)) ?_ (hr:=rT ((((c2+(B.getD (m-1+C) 0):Nat)+((lim (b*2^s)).getD C 0:Nat):Nat):Int)) kR (gW _)));refine lX 228 (sB zg) ((B).length) K 1 (m-1+C:Nat) (m-1+C) rfl (Hh (ty:=141) (c:=K) (b:=zg) 0 (m-1+C) 0 ([mW (((c2+(B.getD (m-1+C) 0):Nat)+((lim (b*2^s)).getD C 0:Nat):Nat)%4294967296)]) B az 1 0 (((c2+(B.getD (m-1+C) 0):Nat)+((lim (b*2^s)).getD C 0:Nat):Nat)%4294967296:Nat) e oM (fun _ e=>?_));replace e:=e.to [⟨M,141,(V).flatMap az⟩] [⟨141,1,sB zg,K,(B).length,(B.set (m-1+C) (((c2+(B.getD (m-1+C) 0):Nat)+((lim (b*2^s)).getD C 0:Nat):Nat)%4294967296:Nat)).flatMap az⟩];refine lN (kQ (lL e ac (lV 230 (mV (((c2+(B.getD (m-1+C) 0):Nat)+((lim (b*2^s)).getD C 0:Nat):Nat)/4294967296)) ?_ (hr:=aK (n:=Mw (((c2+(B.getD (m-1+C) 0):Nat)+((lim (b*2^s)).getD C 0:Nat):Nat):Int) 4294967296) kR (ei _ 4294967296)))));refine lL e ac (lN (kQ (lL e ac (bp 206 ((C:Nat)+1) (C+1) ?_))));refine lL e ac (lD ?_);intro a_ W;replace e:=e.rown [⟨141,1,sB zg,K,(B.set (m-1+C) (((c2+(B.getD (m-1+C) 0):Nat)+((lim (b*2^s)).getD C 0:Nat):Nat)%4294967296:Nat)).length,(B.set (m-1+C) (((c2+(B.getD (m-1+C) 0):Nat)+((lim (b*2^s)).getD C 0:Nat):Nat)%4294967296:Nat)).flatMap az⟩] (by simp only[Mg]);refine ⟨_,_,?_,⟨C+1,sB zg,K,B.set (m-1+C) (((c2+(B.getD (m-1+C) 0):Nat)+((lim (b*2^s)).getD C 0:Nat):Nat)%4294967296:Nat),(((c2+(B.getD (m-1+C) 0):Nat)+((lim (b*2^s)).getD C 0:Nat):Nat)/4294967296:Nat),yc,rfl,rfl,e.to _ _,oM,(by rw[Mg];exact hub),(hWb.set _ (z2 _ kD)),oM,(t6 oM bk (Mf _ _ |>.trans oM)),(bl.set oM oM)⟩,W.to _ (by simp only[Mg];kernel_rfl)⟩
   omega
  rintro _ _ ⟨gz,rzA,rzc,uz,yd,rfl,e,hDl,hDw,hDg,hDu,hDe⟩;refine kQ (lL e dl (lV 249 (mW gz) ?_ (hr:=rT ((gz:Int)) kR (oU oM oM))));refine lX 250 (sB M) (((lim (a*2^s)).length+2)-(lim (b*2^s)).length:Nat) (((lim (a*2^s)).length+2)-(lim (b*2^s)).length:Nat) 1 ((m:Int)-1) (m-1) rfl (lW 0 V az 1 (m-1) gz e oM (fun _ e=>?_));have zN:((V).set (m-1) gz).length=(((lim (a*2^s)).length+2)-(lim (b*2^s)).length:Nat):=by rw[Mg];exact hql
  replace e:=e.to [⟨M,141,((V).set (m-1) gz).flatMap az⟩] [⟨141,1,rzA,rzc,(uz).length,(uz).flatMap az⟩];refine lN (kQ (lL e ac (lV 88 (iV (((m-1:Nat):Int)-1)) ?_ (hr:=rS ((((m:Int)-1)-1)) kR ((gK oM oM).trans oM)))));refine lL e ac (lD ?_);intro a_ W;refine ⟨_,_,?_,⟨m-1,rzA,rzc,uz,(V).set (m-1) gz,yd,rfl,rfl,e.to _ _,oM,hDl,hDw,zN,(hWq.set _ hDg),hDu,(GL oM (hq0 _ oM) inv hDe),(fun k hk=>by rw[bC oM,if_neg oM];exact hq0 k oM)⟩,W.to _ kR⟩
  omega
 have zK:=oT zs;refine lB 144 zs (am (cK (cQ (kZ (ax ?_)))));have hgv:=BU hgl hvi;refine lL e oz (lX 151 S ((lim (b*2^s)).length) Y 1 (i:Nat) i ((e.f.q.1).ok oM) ?_);refine lH 152 (mW ((lim (b*2^s)).getD i 0)) e ((e.f.q.1).el i oM) (lV 153 (mV ((lim (b*2^s)).getD i 0)) ?_ (hr:=rU ((((lim (b*2^s)).getD i 0:Nat):Int)) kR (bc oM oM)));refine lV 154 (mV (H*((lim (b*2^s)).getD i 0:Nat))) ?_ (hr:=rU (((H:Int)*(((lim (b*2^s)).getD i 0:Nat):Int))) kR (jg H ((lim (b*2^s)).getD i 0:Nat) oM));refine lV 155 (mV (F+(H*((lim (b*2^s)).getD i 0:Nat):Nat))) ?_ (hr:=rU (((F:Int)+((H*((lim (b*2^s)).getD i 0:Nat):Nat):Int))) kR (eA F (H*((lim (b*2^s)).getD i 0:Nat):Nat) oM));refine lL e ac (aG (lL e dl (bp 159 (((m:Int)-1)+(i:Nat)) (m-1+i) ?_)));obtain ⟨zc,zA⟩:=e.rowA 0 (A:=raA) (c:=I) (m:=(z).length) (ty:=141) (sz:=1) (cs:=(z).flatMap az) oM;subst zA;refine lX 160 (sB zc) ((z).length) I 1 (m-1+i:Nat) (m-1+i) rfl (JM (ty:=141) (sz:=1) (c:=I) (m:=(z).length) (b:=zc) (cs:=(z).flatMap az) 161 0 (mW (z.getD (m-1+i) 0)) (az (z.getD (m-1+i) 0)) e (fw (f:=az) (sz:=1) (fun _=>rfl) 0 z (m-1+i) oM) (lV 162 (mV (z.getD (m-1+i) 0)) ?_ (hr:=rU (((z.getD (m-1+i) 0:Nat):Int)) kR (bc oM oM))));refine lL e ac (lV 164 (mV ((F+(H*((lim (b*2^s)).getD i 0:Nat):Nat):Nat)%4294967296)) ?_ (hr:=sU (t:=38) (u:=38) (x:=.tmp 163) (y:=.const (uV 4294967295)) (a:=(F+(H*((lim (b*2^s)).getD i 0:Nat):Nat):Nat)) (m:=4294967295) 32 kR kR kR oM kD _));refine lV 165 (mV (((z.getD (m-1+i) 0)+(18446744073709551616-((F+(H*((lim (b*2^s)).getD i 0:Nat):Nat):Nat)%4294967296:Nat)))%18446744073709551616)) ?_ (hr:=rU ((((z.getD (m-1+i) 0:Nat):Int)-(((F+(H*((lim (b*2^s)).getD i 0:Nat):Nat):Nat)%4294967296:Nat):Int))) kR (kN (z.getD (m-1+i) 0) ((F+(H*((lim (b*2^s)).getD i 0:Nat):Nat):Nat)%4294967296:Nat) oM));refine lL e ac (lV 167 (mV (((((z.getD (m-1+i) 0)+(18446744073709551616-((F+(H*((lim (b*2^s)).getD i 0:Nat):Nat):Nat)%4294967296:Nat)))%18446744073709551616:Nat)+(18446744073709551616-J))%18446744073709551616)) ?_ (hr:=rU ((((((z.getD (m-1+i) 0)+(18446744073709551616-((F+(H*((lim (b*2^s)).getD i 0:Nat):Nat):Nat)%4294967296:Nat)))%18446744073709551616:Nat):Int)-(J:Int))) kR (kN (((z.getD (m-1+i) 0)+(18446744073709551616-((F+(H*((lim (b*2^s)).getD i 0:Nat):Nat):Nat)%4294967296:Nat)))%18446744073709551616:Nat) J oM)));refine lL e ac (aG ?_);obtain ⟨hS1,hS2⟩:=AN (t:=(((((z.getD (m-1+i) 0)+(18446744073709551616-((F+(H*((lim (b*2^s)).getD i 0:Nat):Nat):Nat)%4294967296:Nat)))%18446744073709551616:Nat)+(18446744073709551616-J))%18446744073709551616:Nat)) (hWa.get (m-1+i)) (z2 ((F+(H*((lim (b*2^s)).getD i 0:Nat):Nat):Nat)) (show 0<4294967296 by decide)) hbo rfl;refine lL e dl (bp 171 (((m:Int)-1)+(i:Nat)) (m-1+i) ?_);refine lL e ac (lV 173 (mW ((((((z.getD (m-1+i) 0)+(18446744073709551616-((F+(H*((lim (b*2^s)).getD i 0:Nat):Nat):Nat)%4294967296:Nat)))%18446744073709551616:Nat)+(18446744073709551616-J))%18446744073709551616:Nat)%4294967296)) ?_ (hr:=rT (((((((z.getD (m-1+i) 0)+(18446744073709551616-((F+(H*((lim (b*2^s)).getD i 0:Nat):Nat):Nat)%4294967296:Nat)))%18446744073709551616:Nat)+(18446744073709551616-J))%18446744073709551616:Nat):Int)) kR (gW _)));refine lX 174 (sB zc) ((z).length) I 1 (m-1+i:Nat) (m-1+i) rfl (Hh (ty:=141) (c:=I) (b:=zc) 0 (m-1+i) 0 ([mW ((((((z.getD (m-1+i) 0)+(18446744073709551616-((F+(H*((lim (b*2^s)).getD i 0:Nat):Nat):Nat)%4294967296:Nat)))%18446744073709551616:Nat)+(18446744073709551616-J))%18446744073709551616:Nat)%4294967296)]) z az 1 0 ((((((z.getD (m-1+i) 0)+(18446744073709551616-((F+(H*((lim (b*2^s)).getD i 0:Nat):Nat):Nat)%4294967296:Nat)))%18446744073709551616:Nat)+(18446744073709551616-J))%18446744073709551616:Nat)%4294967296:Nat) e oM (fun _ e=>?_));replace e:=e.to [⟨M,141,(V).flatMap az⟩] [⟨141,1,sB zc,I,(z).length,(z.set (m-1+i) ((((((z.getD (m-1+i) 0)+(18446744073709551616-((F+(H*((lim (b*2^s)).getD i 0:Nat):Nat):Nat)%4294967296:Nat)))%18446744073709551616:Nat)+(18446744073709551616-J))%18446744073709551616:Nat)%4294967296:Nat)).flatMap az⟩];refine lN (bH [(4,sZ),(5,sZ),(8,nV s),(9,qS S ((lim (b*2^s)).length) Y),(10,qS (sB zc) ((z).length) I),(11,nV ((lim (b*2^s)).length)),(12,mV ((lim (b*2^s)).getD (((lim (b*2^s)).length:Nat)-1:Nat) 0)),(13,mV ((lim (b*2^s)).getD (((lim (b*2^s)).length:Nat)-2:Nat) 0)),(14,qS (sB M) (((lim (a*2^s)).length+2)-(lim (b*2^s)).length:Nat) (((lim (a*2^s)).length+2)-(lim (b*2^s)).length:Nat)),(15,iV ((m:Int)-1)),(17,mV H),(21,nV i),(19,mV (F+(H*((lim (b*2^s)).getD i 0:Nat):Nat))),(20,mV J),(22,mV (((((z.getD (m-1+i) 0)+(18446744073709551616-((F+(H*((lim (b*2^s)).getD i 0:Nat):Nat):Nat)%4294967296:Nat)))%18446744073709551616:Nat)+(18446744073709551616-J))%18446744073709551616))] ?_);refine aa e ac (lV 176 (mV ((((((z.getD (m-1+i) 0)+(18446744073709551616-((F+(H*((lim (b*2^s)).getD i 0:Nat):Nat):Nat)%4294967296:Nat)))%18446744073709551616:Nat)+(18446744073709551616-J))%18446744073709551616:Nat)/9223372036854775808)) ?_ (hr:=aK (n:=Mw ((((((z.getD (m-1+i) 0)+(18446744073709551616-((F+(H*((lim (b*2^s)).getD i 0:Nat):Nat):Nat)%4294967296:Nat)))%18446744073709551616:Nat)+(18446744073709551616-J))%18446744073709551616:Nat):Int) 9223372036854775808) kR (ei _ 9223372036854775808)));refine lL e ac (lN (kQ (lL e ac (lV 178 (mV ((F+(H*((lim (b*2^s)).getD i 0:Nat):Nat):Nat)/4294967296)) ?_ (hr:=aK (n:=Mw ((F+(H*((lim (b*2^s)).getD i 0:Nat):Nat):Nat):Int) 4294967296) kR (ei _ 4294967296))))));refine lL e ac (lN (kQ (lL e ac (bp 146 ((i:Nat)+1) (i+1) ?_))));refine lL e ac (lD ?_);intro a_ W;replace e:=e.rown [⟨141,1,sB zc,I,(z.set (m-1+i) ((((((z.getD (m-1+i) 0)+(18446744073709551616-((F+(H*((lim (b*2^s)).getD i 0:Nat):Nat):Nat)%4294967296:Nat)))%18446744073709551616:Nat)+(18446744073709551616-J))%18446744073709551616:Nat)%4294967296:Nat)).length,(z.set (m-1+i) ((((((z.getD (m-1+i) 0)+(18446744073709551616-((F+(H*((lim (b*2^s)).getD i 0:Nat):Nat):Nat)%4294967296:Nat)))%18446744073709551616:Nat)+(18446744073709551616-J))%18446744073709551616:Nat)%4294967296:Nat)).flatMap az⟩] (by simp only[Mg]);refine ⟨_,_,?_,⟨i+1,sB zc,I,z.set (m-1+i) ((((((z.getD (m-1+i) 0)+(18446744073709551616-((F+(H*((lim (b*2^s)).getD i 0:Nat):Nat):Nat)%4294967296:Nat)))%18446744073709551616:Nat)+(18446744073709551616-J))%18446744073709551616:Nat)%4294967296:Nat),((F+(H*((lim (b*2^s)).getD i 0:Nat):Nat):Nat)/4294967296:Nat),((((((z.getD (m-1+i) 0)+(18446744073709551616-((F+(H*((lim (b*2^s)).getD i 0:Nat):Nat):Nat)%4294967296:Nat)))%18446744073709551616:Nat)+(18446744073709551616-J))%18446744073709551616:Nat)/9223372036854775808:Nat),zu,rfl,rfl,e.to _ _,oM,(by rw[Mg];exact hua),(hWa.set _ (z2 _ kD)),oM,hS2,(uP (t:=((F+(H*((lim (b*2^s)).getD i 0:Nat):Nat):Nat))%4294967296) oM bf (Mf _ _ |>.trans oM) oM),(bm.set oM oM)⟩,W.to _ (by simp only[Mg];kernel_rfl)⟩
 omega
theorem oO (a:Nat)(A:Z9)(c:Nat)(l:(lim a).length<=c)(b:Nat)(D:Z9)(d:Nat)(j:(lim b).length<=d)(f:(lim a).length<=3000000000)(e:(lim b).length<=3000000000)(x:0<b)(w:World)(h:Hp)(g:G w h)(o:S3 A (lim a) h)(i:S3 D (lim b) h):CR 158 #[.slice A (lim a).length c,.slice D (lim b).length d] w h (fun v h1=>∃ p u,v=.tuple #[p,u]/\RN h1 p (a/b)/\RN h1 u (a%b)):=by
 have y:=bT.2 x
 rcases dS a b with h1|h1
 ·exact nJ a A c l b D d j f e h1 w h g o i
 ·rcases dS (lim b).length 2 with h2|h2
  ·exact mX a A c l b D d j f e h1 oM w h g o i
  ·exact p8 a A c l b D d j f e h1 h2 _ rfl w h g o i
theorem jm (x y:Nat):MC y (x%y)=MC x y:=by rw[MD y,<-Nat.gcd_rec,MD]
theorem Cm (a:Nat)(A:Z9)(c:Nat)(Z:(lim a).length<=c)(b:Nat)(D:Z9)(d:Nat)(U:(lim b).length<=d)(J:(lim a).length<=3000000000)(F:(lim b).length<=3000000000)(w:World)(h:Hp)(g:G w h)(hA:S3 A (lim a) h)(S:S3 D (lim b) h):CR 157 #[.slice A ((lim a).length) c,.slice D ((lim b).length) d] w h (fun v h1=>RN h1 v (MC a b)):=by
 have e:=(((sS g).aS hA).aS S);refine go Tryz.func157 [(0,qS A ((lim a).length) c),(1,qS D ((lim b).length) d)] rfl (aa e ac (ag (kZ ?_)));replace e:=e.aS e.f.1;replace e:=e.aS e.f.r.1;refine bH _ (CG.loop (fun C Γ O=>∃ (x:Nat)(j:Z9)(c1:Nat)(y:Nat)(o:Z9)(c2:Nat)(H:Hp),C=y/\Γ=[(4,sZ),(0,qS j ((lim x).length) c1),(1,qS o ((lim y).length) c2)]/\SS w h O H [] [] [S3 j (lim x),S3 o (lim y),S3 D (lim b),S3 A (lim a)]/\(lim x).length<=c1/\(lim y).length<=c2/\(lim x).length<=3000000000/\(lim y).length<=3000000000/\MC x y=MC a b) _ ⟨a,A,c,b,D,d,h,rfl,rfl,e.to _ _,Z,U,J,F,rfl⟩ ?_);rintro _ _ w1 ⟨x,j,c1,y,o,c2,h2,hm3,rfl,e,p,u,W,z,L⟩;refine cQ (aa e [.c,.v (nV ((lim y).length))] ?_);cases i:(decide ((0:Int)<(((lim y).length:Nat):Int)))
 .
  have l:=oF i;refine lB 9 i (ah (CG.exit ?_))
  show CG _ _ _ _ _ _ _ _
  refine aa e aD (lN (kX ?_));have B:y=0:=Nat.eq_zero_of_not_pos (fun H=>by have:=bT.2 H;omega);exact e.ret [] (qS j ((lim x).length) c1) (by rw[<-L,B,Nat.gcd_zero_right];exact ⟨j,c1,rfl,p,e.f.1⟩)
 have l:=oT i;refine lB 9 i (am (cK (kZ (aa e aD (lC 13 e (oO x j c1 p y o c2 u oM oM (bT.1 oM) _ _ e.g e.f.1 e.f.2.1) ?_)))));rintro _ w5 Q e ⟨_,_,rfl,⟨X,cq,rfl,V,hq⟩,⟨M,K,rfl,I,hr⟩⟩;replace e:=e.aS hr;have hmd:=z2 x (bT.1 (show 0<(lim y).length by omega));have Y:=dH (show x%y<=y by omega);refine lL e [.c,.v (qS X (lim (x/y)).length cq),.v (qS M ((lim (x%y)).length) K),.c,.c] (aG (lL e aD (lN (kQ (lL e aD (lD ?_))))));intro a_ ka;replace e:=((e.tl.tl.tl.aS e.f.1).aS e.f.r.1);refine ⟨_,_,?_,⟨y,o,c2,x%y,M,K,Q,rfl,rfl,e.to _ _,u,I,z,oM,(by rw[jm];exact L)⟩,ka.to _ kR⟩
 omega
end Go.Proofs.YthfkmhgnndmblaaGreatDoor
