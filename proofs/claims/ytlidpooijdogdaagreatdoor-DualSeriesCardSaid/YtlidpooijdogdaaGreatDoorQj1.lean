/- Laws of this claim, part 2. -/
import Derived.Test.YtlidpooijdogdaaGreatDoorQj0
set_option maxRecDepth 100000
set_option maxHeartbeats 4000000
namespace Go.Proofs.YtlidpooijdogdaaGreatDoor
open _root_.Array renaming getElem?_append_left -> tf, getElem?_append_right -> Ab, getElem?_eq_none -> dS, getElem?_push_size -> er, getElem?_replicate -> Af, getElem?_setIfInBounds_ne -> hP, getElem?_setIfInBounds_self_of_lt -> As, replicate -> s5
open Bool renaming and_eq_true -> i2, true_and -> Mu
open Int renaming fdiv -> Mt, toNat_natCast -> z7
open List renaming all_eq_true -> oi, drop_eq_getElem_cons -> Lt, drop_eq_nil_of_le -> Mm, eq_nil_of_length_eq_zero -> y7, flatMap_cons -> wj, getD_cons_succ -> yZ, getD_eq_getElem?_getD -> LI, getElem?_append_left -> vi, getElem?_append_right -> v6, getElem?_drop -> vl, getElem?_eq_none -> ta, getElem?_eq_some_iff -> Mi, getElem?_map -> LW, getElem?_range -> LX, getElem?_take_of_lt -> vj, getElem_mem -> e5, getElem_set_ne -> Bs, getElem_set_self -> B2, length -> Mp, length_append -> y5, length_cons -> tv, length_drop -> LU, length_set -> Md, length_take -> Lp, map_cons -> Ag, map_nil -> Mr, map_toArray -> Mq, mem_cons -> gs, mem_flatMap -> Mj, mem_iff_getElem -> ul, mem_map -> gg, mem_of_mem_eraseIdx -> A6, mem_range -> o0, pairwise_cons -> Mk, pairwise_iff_getElem -> A9, replicate -> zZ, set_cons_zero -> Mn, take_length -> yY, take_of_length_le -> LO
open Nat renaming add_assoc -> wi, add_mul -> LN, add_mul_div_left -> LD, add_mul_mod_self_left -> Mg, add_sub_cancel -> L5, add_zero -> yh, ble -> Ml, div_add_mod -> LR, div_div_eq_div_mul -> LH, div_eq_of_lt -> Hi, div_eq_of_lt_le -> L6, div_lt_iff_lt_mul -> L4, div_mul_le_self -> L1, eq_zero_or_pos -> Aw, gcd -> My, gcd_comm -> MA, le_of_ble_eq_true -> D0, le_refl -> ea, le_trans -> eb, lt_div_mul_add -> L3, lt_of_le_of_lt -> Ft, lt_of_lt_of_le -> ek, lt_of_mul_lt_mul_left -> Mh, lt_or_ge -> cD, min_eq_left -> Lq, mod_add_div -> Mc, mod_eq_of_lt -> z2, mod_lt -> z6, mul_add -> Lm, mul_add_div -> Mf, mul_assoc -> Ln, mul_comm -> H1, mul_div_mul_right -> L9, mul_le_mul -> Ma, mul_le_mul_left -> Lz, mul_le_mul_right -> zh, mul_lt_mul_of_pos_left -> LK, mul_lt_mul_of_pos_right -> L8, mul_mod_mul_right -> Mb, mul_pos -> L7, mul_succ -> LZ, mul_zero -> Ls, one_mul -> LP, pos_of_ne_zero -> L0, pow_add -> Ly, pow_le_pow_right -> Lw, pow_mul -> LB, pow_pos -> LF, pow_succ -> HA, pow_zero -> Mw, succ_pos -> Mx, two_pow_add_eq_or_of_lt -> LY, two_pow_pos -> Lv, zero_add -> y9, zero_le -> Mv, zero_mod -> Me, zero_mul -> y6
open Option renaming map_some -> tq
open Go.RowKit
theorem ii {s t:ByteArray}(h:kC s t=false):¬s=t:=fun e=>by
 subst e;have:kC s s=true:=beq_self_eq_true _;rw[this] at h;cases h
theorem oB {s t:ByteArray}(h:lZ s t=true):¬s=t:=ii (by unfold lZ at h;unfold kC;cases e:(s.toList == t.toList)<;>rw[e] at h<;>first|rfl|cases h)
theorem oO {s t:ByteArray}(h:lZ s t=false):s=t:=g7 (by unfold lZ at h;unfold kC;cases e:(s.toList == t.toList)<;>rw[e] at h<;>first|rfl|cases h)
def wds (n:Nat):List Nat:=gV 18446744073709551616 n
def aA (l:List Nat):Nat:=ai 18446744073709551616 l
def Wd (l:List Nat):Prop:=Dg 18446744073709551616 l
theorem ay (n:Nat):aA (wds n)=n:=jG kD n
theorem Wd.wds (n:Nat):Wd (wds n):=wR kD n
theorem Wd.get {l:List Nat}(h:Wd l)(k:Nat):l.getD k 0<18446744073709551616:=Dg.getD h kD k
theorem wM {p : Prop} (h : p := by first | omega | exact Wd.get (by assumption) _ | exact ES _) : p := h
theorem pe (n k:Nat):(wds n).getD k 0<18446744073709551616:=(Wd.wds n).get k
def b8 (x:Nat):List UInt8:=(List.range 8).map (fun k=>UInt8.ofNat (x/256^k))
theorem kg (x:Nat):(b8 x).length=8:=rfl
theorem GK (m:Nat):b8 (m%18446744073709551616)=b8 m:=by
 unfold b8
 apply List.map_congr_left
 intro k hk;have a:k<8:=o0.1 hk
 apply UInt8.toNat_inj.1
 show (m%18446744073709551616/256^k)%256=(m/256^k)%256
 have:k=0\/k=1\/k=2\/k=3\/k=4\/k=5\/k=6\/k=7:=by omega
 rcases this with rfl|rfl|rfl|rfl|rfl|rfl|rfl|rfl<;>omega
theorem Bn:∀ (f m:Nat),m<=f->wb f m=(gV 18446744073709551616 m).flatMap b8
  | 0,m,h=>by
    have:m=0:=by omega
    subst this;rfl
  | f+1,m,h=>by
    unfold wb
    split
    . rename_i h0;subst h0;rfl
    . rw[eU kD oM,wj,GK,Bn f _ oM];rfl
theorem EF (n:Nat):gV 18446744073709551616 (n/18446744073709551616)=(gV 18446744073709551616 n).drop 1:=by
 rcases Aw n with h|h
 ·subst h;rfl
 ·conv=>rhs;rw[eU kD h]
  rfl
theorem oo (n:Nat):(hi n).data.toList=((wds n).drop 1).flatMap b8:=by
 unfold hi wds
 rw[Bn _ _ oM,EF]
theorem oa (l:List Nat):(l.flatMap b8).length=8*l.length:=by
 induction l with
 | nil=>rfl
 | cons x l ih=>rw[wj,y5,ih,kg,tv];omega
theorem iZ (n:Nat):(hi n).size=8*((wds n).length-1):=by
 have:(hi n).size=(hi n).data.toList.length:=by rw[Array.length_toList];rfl
 rw[this,oo,oa,LU]
theorem nG:∀ (l:List Nat) (j k:Nat),j<l.length->k<8->(l.flatMap b8).getD (8*j+k) 0=(b8 (l.getD j 0)).getD k 0
  | [],j,k,hj,_=>by simp at hj
  | x::l,0,k,hj,hk=>by
    rw[wj]
    simp only[LI]
    rw[vi (by rw[kg];omega)]
    simp
  | x::l,j+1,k,hj,hk=>by
    rw[wj,yZ,<-nG l j k (by simpa using hj) hk]
    simp only[LI]
    rw[v6 (by rw[kg];omega),kg]
    congr 2
    omega
theorem GB (x k:Nat)(hk:k<8):((b8 x).getD k 0).toNat=x/256^k%256:=by
 unfold b8
 simp only[LI,LW,LX hk]
 rfl
theorem F0 (n j k:Nat)(a:j+1<(wds n).length)(hk:k<8):aU (hi n) (8*j+k)=(wds n).getD (j+1) 0/256^k%256:=by
 unfold aU
 rw[oo,nG _ _ _ (by rw[LU];omega) hk,GB _ _ hk,bD,Nat.add_comm 1 j]
theorem IC {s:ByteArray}{x:Nat}(a:x<18446744073709551616)(h:∀ k,k<8->aU s k=x/256^k%256):wv s=x:=by
 unfold wv
 rw[h 0 oM,h 1 oM,h 2 oM,h 3 oM,h 4 oM,h 5 oM,h 6 oM,h 7 oM]
 simp only[Nat.reducePow,Nat.div_one]
 omega
theorem jC (n j:Nat)(a:j+1<(wds n).length):wv ((hi n).extract (8*j) (hi n).size)=(wds n).getD (j+1) 0 :=
 IC (pe n _) (fun k hk=>by rw[qj,F0 n j k a hk])
theorem ff {n:Nat}(h:n<18446744073709551616):hi n=⟨#[]⟩:=mQ h
theorem de {n:Nat}(h:18446744073709551616<=n):2<=(wds n).length:=by
 rcases cD (wds n).length 2 with h1|h1
 ·have a:=jq (b:=18446744073709551616) kD n
  have:(18446744073709551616:Nat)^(gV 18446744073709551616 n).length<=18446744073709551616^1:=Lw kD (by show (wds n).length<=1;omega)
  omega
 ·exact h1
theorem fG {n:Nat}(h:18446744073709551616<=n):(hi n).size≠0:=by rw[iZ];have:=de h;omega
theorem kj {n:Nat}(h0:0<n)(h:n<18446744073709551616):wds n=[n]:=by
 unfold wds
 rw[eU kD h0,z2 h,Hi h,jT]
theorem ng:wds 0=[]:=rfl
theorem kz {n:Nat}:0<(wds n).length↔0<n:=oL kD
theorem rx (n:Nat):lo n=(((wds n).getD 0 0:Nat):Int):=by
 unfold lo wds
 rcases Aw n with h|h
 ·subst h;rfl
 ·rw[eU kD h];rfl
theorem ox {l:List Nat}(h:Wd l):wds (aA l)=l.take (tl l l.length):=Hr kD h
theorem mH {n:Nat}(h:0<n):(wds n).getD ((wds n).length-1) 0≠0:=mh kD n h
theorem H8 {n:Nat}{l:List UInt8}(h:l=((wds n).drop 1).flatMap b8):(⟨l.toArray⟩:ByteArray)=hi n:=by
 have:(hi n).data.toList=l:=by rw[oo,h]
 cases e:hi n with
 | mk d=>rw[e] at this;rw[<-this]
theorem dG (n:Nat):n<18446744073709551616^(wds n).length:=jq kD n
theorem dg {a b:Nat}(h:a<=b):(wds a).length<=(wds b).length:=fg kD (Ft h (dG b))
theorem gN {a b:Nat}(k:Nat)(h:a<2^k):a ||| b*2^k=a+b*2^k:=by
 have:=LY h b;rw[Nat.or_comm,H1 b,<-this];omega
def bV (a b:Nat):Int:=if a<b then -1 else if b<a then 1 else 0
theorem d9 {a b:Nat}(h:a<b):bV a b = -1:=by simp[bV,h]
theorem fR {a b:Nat}(h:b<a):bV a b=1:=by unfold bV;rw[if_neg oM,if_pos h]
theorem i7 {a b:Nat}(h:a=b):bV a b=0:=by unfold bV;rw[if_neg oM,if_neg oM]
theorem fM {a b:Nat}(h:b<=a):bV a b=0\/bV a b=1:=by
 unfold bV
 rw[if_neg oM]
 split<;>simp
theorem gu {a b:Nat}(h:(wds a).length<(wds b).length):a<b:=by
 rcases cD a b with hl|hl
 ·exact hl
 ·have:=dg hl;omega
theorem l5 {a b k:Nat}(d:(wds a).length=(wds b).length)(hk:k<(wds a).length)(h:(wds a).drop (k+1)=(wds b).drop (k+1))(c:(wds a).getD k 0<(wds b).getD k 0):a<b:=by
 have e:=bQ 18446744073709551616 (l:=wds a) (k:=k+1) oM;have i:=bQ 18446744073709551616 (l:=wds b) (k:=k+1) oM;have j:ai 18446744073709551616 (wds a)=a:=ay a;have u:ai 18446744073709551616 (wds b)=b:=ay b;have o:=aJ 18446744073709551616 (l:=wds a) (k:=k) hk;have x:=aJ 18446744073709551616 (l:=wds b) (k:=k) oM;have f:=bL (Dg.take (Wd.wds a) k);rw[Lp,Lq oM] at f
 have p:18446744073709551616^k*(wds a).getD k 0+18446744073709551616^k<=18446744073709551616^k*(wds b).getD k 0:=by
  rw[<-LZ];exact Lz _ c
 rw[h] at e
 omega
theorem lk {a b k:Nat}(c:(wds a).length=(wds b).length)(hk:k<(wds a).length)(d:(wds a).drop (k+1)=(wds b).drop (k+1))(e:(wds a).getD k 0≠(wds b).getD k 0):bV ((wds a).getD k 0) ((wds b).getD k 0)=bV a b:=by
 rcases cD ((wds a).getD k 0) ((wds b).getD k 0) with h|h
 ·rw[d9 h,d9 (l5 c hk d h)]
 ·rw[fR oM,fR (l5 c.symm oM d.symm oM)]
theorem fO {l m:List Nat}{k:Nat}(d:l.length=m.length)(hk:k<l.length)(c:l.drop (k+1)=m.drop (k+1))(a:l.getD k 0=m.getD k 0):l.drop k=m.drop k:=by
 rw[Lt hk,Lt (l:=m) (i:=k) oM,c]
 simp[hk,show k<m.length by omega] at a
 rw[a]
theorem uo (n:Nat):n%18446744073709551616=(wds n).getD 0 0:=Int.ofNat.inj (rx n)
theorem oy {a b:Nat}(c:(wds a).length=(wds b).length)(f:(wds a).drop 1=(wds b).drop 1):bV (a%18446744073709551616) (b%18446744073709551616)=bV a b:=by
  rw[uo,uo]
  by_cases h:(wds a).getD 0 0=(wds b).getD 0 0
  . have:a=b:=by
      rcases Aw (wds a).length with h0|h0
      . have d:=ay a
        have e:=ay b;have i:wds a=[]:=y7 h0;have j:wds b=[]:=y7 oM;rw[i] at d
        rw[j] at e
        exact d.symm.trans e
      . have:=fO c h0 f h
        simp only[List.drop_zero] at this
        rw[<-ay a,<-ay b,this]
    rw[h,i7 rfl,i7 this]
  . refine lk c ?_ f h
    rcases Aw (wds a).length with h0|h0
    . exfalso;apply h
      have d:wds a=[]:=y7 h0;have e:wds b=[]:=y7 oM;rw[d,e]
    . exact h0
theorem uk {n:Nat}(h:(wds n).length<=1):n<18446744073709551616:=by
 rcases cD n 18446744073709551616 with h1|h1
 ·exact h1
 ·have:=de h1;omega
theorem pV {a b:Nat}(c:(wds a).length-1=(wds b).length-1)(d:(wds a).drop 1=(wds b).drop 1):bV (a%18446744073709551616) (b%18446744073709551616)=bV a b:=by
 rcases cD 1 (wds a).length with h|h
 ·exact oy oM d
 ·rw[z2 (uk h),z2 (uk oM)]
theorem xl {n:Nat}(h:0<n):nb n=64*((wds n).length-1)+nb ((wds n).getD ((wds n).length-1) 0):=by
 have f:=kz.2 h;have e:=aJ 18446744073709551616 (l:=wds n) (k:=(wds n).length-1) oM;rw[show (wds n).length-1+1=(wds n).length by omega,yY] at e
 have d:ai 18446744073709551616 (wds n)=n:=ay n;have a:=bL (Dg.take (Wd.wds n) ((wds n).length-1));rw[Lp,Lq oM] at a
 have c:(18446744073709551616:Nat)^((wds n).length-1)=2^(64*((wds n).length-1)):=by rw[LB]
 rw[d,c] at e
 rw[c] at a
 have:=B6 a (L0 (mH h));rw[<-e] at this
 exact this
theorem jw {n:Nat}(h:n<18446744073709551616):Value.agg #[.int .u64 (n:Int),.string ⟨#[]⟩]=nv n:=by unfold nv;rw[mm h,mQ h]
theorem da {n:Nat}:(wds n).length<=1↔n<18446744073709551616:=by
 constructor
 ·intro h
  rcases cD n 18446744073709551616 with h1|h1
  ·exact h1
  ·have:=de h1;omega
 ·intro h
  rcases Aw n with h0|h0
  ·subst h0;simp[ng]
  ·rw[kj h0 h];simp
structure HalfQ (Y y1 y0 u u1 q r:Nat):Prop where
  e:q*y1+r=u
  lt:u*4294967296+u1<(q+1)*Y
  qb:q<=4294967297
theorem nh {Y y1 y0 u u1:Nat}(c:Y=y1*4294967296+y0)(h1:u1<4294967296)(hn:2147483648<=y1)(h0:y0<4294967296)(h:u<Y):HalfQ Y y1 y0 u u1 (u/y1) (u-u/y1*y1):=by
 have f:u/y1*y1<=u:=L1 u y1
 have d:u<(u/y1+1)*y1:=by
  have:=L3 (a:=u) (b:=y1) oM;rw[LN,LP];exact this
 refine ⟨by omega,?_,?_⟩
 ·have:(u/y1+1)*Y=(u/y1+1)*y1*4294967296+(u/y1+1)*y0:=by rw[c,Lm,Ln]
  omega
 ·have e:u/y1<4294967298:=by
   rw[L4 oM]
   omega
  omega
theorem nz {u y1:Nat}(h:0<y1):u-u/y1*y1<y1:=by
 have:=L3 (a:=u) (b:=y1) h;have c:u/y1*y1<=u:=L1 u y1
 omega
theorem HalfQ.dec {Y y1 y0 u u1 q r:Nat}(h:HalfQ Y y1 y0 u u1 q r)(c:Y=y1*4294967296+y0)(h1:u1<4294967296)(f:u<Y)(a:4294967296<=q\/4294967296*r+u1<q*y0):HalfQ Y y1 y0 u u1 (q-1) (r+y1):=by
 have d:0<q:=by
  rcases a with h2|h2
  ·omega
  ·rcases Aw q with h3|h3
   ·subst h3;omega
   ·exact h3
 obtain ⟨p,rfl⟩:∃ p,q=p+1:=⟨q-1,by omega⟩;have e:=h.e;rw[LN,LP] at e
 refine ⟨by rw[L5];omega,?_,by have:=h.qb;omega⟩;rw[L5]
 rcases a with h2|h2
 ·have:4294967296*Y<=(p+1)*Y:=zh _ h2
  omega
 ·have:(p+1)*Y=(p+1)*y1*4294967296+(p+1)*y0:=by rw[c,Lm,Ln]
  rw[LN p 1 y1,LP] at this
  omega
theorem HalfQ.fin {Y y1 y0 u u1 q r:Nat}(h:HalfQ Y y1 y0 u u1 q r)(d:Y=y1*4294967296+y0)(i:¬4294967296*r+u1<q*y0):q=(u*4294967296+u1)/Y/\(u*4294967296+u1)-q*Y=(u*4294967296+u1)%Y/\q*Y<=u*4294967296+u1:=by
 have a:q*Y<=u*4294967296+u1:=by
  have:q*Y=q*y1*4294967296+q*y0:=by rw[d,Lm,Ln]
  have:=h.e
  omega
 have c:q=(u*4294967296+u1)/Y:=(L6 a h.lt).symm;have f:=LR (u*4294967296+u1) Y;rw[<-c,H1] at f
 exact ⟨c,by omega,a⟩
theorem HalfQ.brk {Y y1 y0 u u1 q r:Nat}(h:HalfQ Y y1 y0 u u1 q r)(a:Y=y1*4294967296+y0)(h0:y0<4294967296)(hr:4294967296<=r)(c:q<=4294967296):q=(u*4294967296+u1)/Y/\(u*4294967296+u1)-q*Y=(u*4294967296+u1)%Y/\q*Y<=u*4294967296+u1 :=
 h.fin a (by
  have:q*y0<=4294967296*y0:=zh _ c
  omega)
theorem ki {A y s Y Q R:Nat}(c:Y=y*2^s)(d:A*2^s=Y*Q+R)(h:R<Y):A=y*Q+R/2^s/\R/2^s<y:=by
 have f:0<2^s:=Lv s;have e:y*Q*2^s=Y*Q:=by rw[c];ac_rfl
 have i:y*Q<=A:=by
  have:y*Q*2^s<=A*2^s:=by rw[d,e];omega
  exact Nat.le_of_mul_le_mul_right this f
 have a:R=(A-y*Q)*2^s:=by rw[Nat.sub_mul,d,e];omega
 rw[a,Nat.mul_div_cancel _ f];refine ⟨by omega,?_⟩;have:(A-y*Q)*2^s<y*2^s:=by rw[<-a,<-c];exact h
 exact Nat.lt_of_mul_lt_mul_right this
theorem vH {A y s a f Y u1 h o i u R:Nat}(c:Y=y*2^s)(C:A*2^s=a*18446744073709551616+f)(e:f=u1*4294967296+h)(l:0<y)
  (z:o=(a*4294967296+u1)/Y)(x:i=(a*4294967296+u1)%Y)(B:u=(i*4294967296+h)/Y)(j:R=(i*4294967296+h)%Y) :
  A=y*(o*4294967296+u)+R/2^s/\R/2^s<y:=by
 have d:0<Y:=by rw[c];exact L7 l (Lv s)
 have D:=LR (a*4294967296+u1) Y;have F:=LR (i*4294967296+h) Y;rw[<-z,<-x] at D
 rw[<-B,<-j] at F
 have p:R<Y:=by rw[j];exact z6 _ d
 refine ki c ?_ p;rw[C,e,Lm,<-Ln]
 clear z x B j C e p c d l
 omega
theorem uP {y:Nat}(h0:0<y)(h:y<18446744073709551616):9223372036854775808<=y*2^(64-nb y)/\y*2^(64-nb y)<18446744073709551616:=by
 obtain ⟨c,a,i⟩:=co h0;have d:nb y<=64:=kF (k:=64) h
 have e:(2:Nat)^(nb y-1)*2^(64-nb y)=9223372036854775808:=by
  rw[<-Ly,show nb y-1+(64-nb y)=63 by omega]
 have l:(2:Nat)^nb y*2^(64-nb y)=18446744073709551616:=by
  rw[<-Ly,show nb y+(64-nb y)=64 by omega]
 have f:=zh (2^(64-nb y)) c;have j:=L8 a (Lv (64-nb y))
 omega
theorem Ds {hi lo s:Nat}(d:s<=64)(c:lo<18446744073709551616):(hi*18446744073709551616+lo)*2^s=(hi*2^s+lo/2^(64-s))*18446744073709551616+lo*2^s%18446744073709551616/\lo/2^(64-s)<2^s:=by
 have e:(18446744073709551616:Nat)=2^(64-s)*2^s:=by rw[<-Ly,show 64-s+s=64 by omega]
 have h1:lo*2^s/18446744073709551616=lo/2^(64-s):=by
  rw[e,L9 _ _ (Lv s)]
 have a:=LR (lo*2^s) 18446744073709551616;rw[h1] at a
 constructor
 ·rw[LN,LN]
  have:hi*18446744073709551616*2^s=hi*2^s*18446744073709551616:=by ac_rfl
  omega
 ·rw[L4 (Lv _),H1,<-e];exact c
theorem nW {a b q Y r:Nat}(h:q*Y<=a*4294967296+b)(hr:a*4294967296+b-q*Y=r)(c:r<18446744073709551616):((a*4294967296%18446744073709551616+b)%18446744073709551616+(18446744073709551616-q*Y%18446744073709551616))%18446744073709551616=r:=by
 generalize q*Y=m at *
 omega
theorem E4 {a b:Nat}(ha:a<4294967296)(c:b<4294967296):a*b<18446744073709551616:=by
 have:a*b<=4294967295*4294967295:=Ma oM oM
 omega
theorem dV {a b c:Nat}(h:c<a*b):0<a:=by
 rcases Aw a with h0|h0
 ·rw[h0,y6] at h;omega
 ·exact h0
theorem qR {u u1 Y:Nat}(h:u<Y)(h1:u1<4294967296):(u*4294967296+u1)/Y<4294967296:=by
 rw[L4 oM];have:(u+1)*4294967296<=Y*4294967296:=zh _ h
 omega
theorem xj {p:Nat}(h:p<=64):(18446744073709551616:Nat)=2^(64-p)*2^p:=by rw[<-Ly,show 64-p+p=64 by omega]
theorem B5 {x p o:Nat}(h:p<=64)(d:x<18446744073709551616)(f:o<2^p) :
  o ||| (x*2^p%18446744073709551616)=o+x*2^p%18446744073709551616/\o+x*2^p%18446744073709551616<18446744073709551616/\x*2^p%18446744073709551616+18446744073709551616*(x/2^(64-p))=x*2^p/\x/2^(64-p)<2^p:=by
 have e:=xj h
 have c:x*2^p%18446744073709551616=x%2^(64-p)*2^p:=by
  conv=>lhs;rw[e]
  exact Mb _ _ _
 have a:x%2^(64-p)<2^(64-p):=z6 _ (Lv _);refine ⟨by rw[c];exact gN p f,?_,?_,?_⟩
 ·rw[c]
  have:(x%2^(64-p)+1)*2^p<=2^(64-p)*2^p:=zh _ a;rw[<-e,LN] at this
  omega
 ·have h1:x*2^p/18446744073709551616=x/2^(64-p):=by
   conv=>lhs;rw[e]
   exact L9 _ _ (Lv _)
  rw[<-h1];exact Mc _ _
 ·rw[L4 (Lv _),H1,<-e];exact d
theorem At {l w:List Nat}{i q p x o a c:Nat}(y:i+q+1<l.length)(hv:aA l=2^p*(18446744073709551616^q*ai 18446744073709551616 (w.take i)))(h0:l.getD (i+q+1) 0=0)(u:a+18446744073709551616*c=x*2^p)(f:x=w.getD i 0)(j:o=l.getD (i+q) 0) :
  aA ((l.set (i+q) (o+a)).set (i+q+1) c)=2^p*(18446744073709551616^q*ai 18446744073709551616 (w.take (i+1))):=by
 have e:=cH 18446744073709551616 (l:=l) (k:=i+q) (o+a) oM;have d:=cH 18446744073709551616 (l:=l.set (i+q) (o+a)) (k:=i+q+1) c (by rw[Md];omega);rw[bC oM,if_neg oM,h0] at d
 rw[<-j] at e
 have h:2^p*(18446744073709551616^q*ai 18446744073709551616 (w.take (i+1)))=aA l+18446744073709551616^(i+q)*(x*2^p):=by
  rw[aF,hv,<-f,Lm,Lm,Ly]
  congr 1
  ac_rfl
 rw[h,<-u];rw[HA] at d
 show ai 18446744073709551616 _=ai 18446744073709551616 l+_
 simp only[Lm,<-Ln] at e d ⊢
 omega
theorem wy (n:Nat):(2:Nat)^n=18446744073709551616^(n/64)*2^(n%64):=by
 have:n=64*(n/64)+n%64:=by omega
 conv=>lhs;rw[this,Ly,LB]
theorem pM {x y p:Nat}(i:p<=64)(f:x<18446744073709551616) :
  (x/2^p) ||| (y*2^(64-p)%18446744073709551616)=x/2^p+y*2^(64-p)%18446744073709551616/\x/2^p+y*2^(64-p)%18446744073709551616<18446744073709551616/\2^p*(x/2^p+y*2^(64-p)%18446744073709551616)+x%2^p=x+18446744073709551616*(y%2^p):=by
 have e:=xj i;have a:(18446744073709551616:Nat)=2^p*2^(64-p):=by rw[H1];exact e
 have c:y*2^(64-p)%18446744073709551616=y%2^p*2^(64-p):=by
  conv=>lhs;rw[a]
  exact Mb _ _ _
 have h:x/2^p<2^(64-p):=by rw[L4 (Lv _),<-e];exact f
 have d:y%2^p<2^p:=z6 _ (Lv _);refine ⟨by rw[c];exact gN (64-p) h,?_,?_⟩
 ·rw[c]
  have:(y%2^p+1)*2^(64-p)<=2^p*2^(64-p):=zh _ d;rw[<-a,LN] at this
  omega
 ·rw[c,Lm]
  have h1:=LR x (2^p);have j:2^p*(y%2^p*2^(64-p))=18446744073709551616*(y%2^p):=by rw[a];ac_rfl
  omega
theorem qf {l W:List Nat}{i p d c:Nat}(o:i<l.length)(inv:2^p*ai 18446744073709551616 l+c=ai 18446744073709551616 (W.take i)+18446744073709551616^i*(W.getD i 0%2^p))(h0:l.getD i 0=0)(j:2^p*d+W.getD i 0%2^p=W.getD i 0+18446744073709551616*(W.getD (i+1) 0%2^p)) :
  2^p*ai 18446744073709551616 (l.set i d)+c=ai 18446744073709551616 (W.take (i+1))+18446744073709551616^(i+1)*(W.getD (i+1) 0%2^p):=by
 have e:=cH 18446744073709551616 (l:=l) (k:=i) d o;rw[h0] at e
 rw[aF,HA];have a:18446744073709551616^i*(2^p*d+W.getD i 0%2^p)=18446744073709551616^i*(W.getD i 0+18446744073709551616*(W.getD (i+1) 0%2^p)):=by rw[j]
 have h:ai 18446744073709551616 (l.set i d)=ai 18446744073709551616 l+18446744073709551616^i*d:=by omega
 rw[h,Lm];have f:2^p*(18446744073709551616^i*d)=18446744073709551616^i*(2^p*d):=by ac_rfl
 rw[f]
 simp only[Lm,<-Ln] at a ⊢
 simp only[Ln] at a inv ⊢
 omega
theorem DB {l W:List Nat}{p m:Nat}(a:W.length<=m)(inv:2^p*ai 18446744073709551616 l+W.getD 0 0%2^p=ai 18446744073709551616 (W.take m)+18446744073709551616^m*(W.getD m 0%2^p)):aA l=aA W/2^p:=by
 rw[LO a] at inv
 have h0:W.getD m 0=0:=by simp[ta a]
 rw[h0,Me,Ls,yh] at inv
 have c:=Lv p;have d:=z6 (W.getD 0 0) c
 show ai _ l=ai _ W/_
 rw[<-inv,Mf c,Hi d,yh]
theorem nJ {w:List Nat}(c:Wd w){q:Nat}(a:q<=w.length):aA (w.drop q)=aA w/18446744073709551616^q:=by
 have e:=bQ 18446744073709551616 a;have h1:=bL (Dg.take c q);rw[Lp,Lq a] at h1
 show ai _ _=ai _ w/_
 rw[e,LD _ _ (LF kD),Hi h1,y9]
def nq (x:Nat):List Value:=[.int .u8 (x:Nat)]
theorem sO {b:Nat}(a:0<b){l:List Nat}(h:Dg b l)(j:Nat):l.getD j 0=ai b l/b^j%b:=by
 rcases cD j l.length with hj|hj
 ·have h1:=bQ b (l:=l) (k:=j) oM
  have d:=fX b (l:=l) (k:=j) hj;have c:=bL (Dg.take h j);rw[Lp,Lq oM] at c
  have e:0<b^j:=LF a;rw[h1,LD _ _ e,Hi c,y9,d,Mg,z2 (h.getD a j)]
 ·rw[ck hj,Hi,Me]
  exact ek (bL h) (Lw a hj)
theorem Ao {b:Nat}{l:List Nat}{k P:Nat}(hk:k<l.length)(d:0<b)(h:ai b l<b^k*P):l.getD k 0<P:=by
 have h1:=bQ b (l:=l) (k:=k) oM;have c:=fX b (l:=l) (k:=k) hk;have f:0<b^k:=LF d;refine Mh (a:=b^k) ?_;have e:b^k*l.getD k 0<=b^k*ai b (l.drop k):=Lz _ (by rw[c];omega)
 omega
theorem rB (k:Nat):(256:Nat)^k=18446744073709551616^(k/8)*2^(8*(k%8)):=by
 have:k=8*(k/8)+k%8:=by omega
 conv=>lhs;rw[this,Ly,LB]
 rw[LB 2 8]
theorem qI {l:List Nat}(a:Wd l)(k:Nat):l.getD (k/8) 0/2^(8*(k%8))%256=aA l/256^k%256:=by
 rw[sO kD a (k/8),rB,<-LH]
 show _=ai 18446744073709551616 l/_/_%256
 generalize ai 18446744073709551616 l/18446744073709551616^(k/8)=y
 have:k%8=0\/k%8=1\/k%8=2\/k%8=3\/k%8=4\/k%8=5\/k%8=6\/k%8=7:=by omega
 rcases this with h|h|h|h|h|h|h|h<;>rw[h]<;>omega
theorem wT (n k:Nat):(wds n).getD (k/8) 0/2^(8*(k%8))%256=n/256^k%256:=by
 rw[qI (Wd.wds n),ay]
theorem AU {b k:Nat}(a:b<256):b*2^(8*(k%8))<18446744073709551616:=by
 have:k%8=0\/k%8=1\/k%8=2\/k%8=3\/k%8=4\/k%8=5\/k%8=6\/k%8=7:=by omega
 rcases this with h|h|h|h|h|h|h|h<;>rw[h]<;>omega
theorem vY {a b k:Nat}(ha:a<2^(8*(k%8)))(c:b<256):a+b*2^(8*(k%8))<18446744073709551616:=by
 have:k%8=0\/k%8=1\/k%8=2\/k%8=3\/k%8=4\/k%8=5\/k%8=6\/k%8=7:=by omega
 rcases this with h|h|h|h|h|h|h|h<;>rw[h] at ha ⊢ <;> omega
theorem tA {l:List Nat}{n k x:Nat}(hk:k/8<l.length)(inv:aA l=n%256^k)(d:x=n/256^k%256) :
  (l.getD (k/8) 0 ||| x*2^(8*(k%8))%18446744073709551616)=l.getD (k/8) 0+x*2^(8*(k%8))/\l.getD (k/8) 0+x*2^(8*(k%8))<18446744073709551616 /\
  aA (l.set (k/8) (l.getD (k/8) 0+x*2^(8*(k%8))))=n%256^(k+1):=by
 have c:x<256:=by rw[d];exact z6 _ oM
 have a:aA l<256^k:=by rw[inv];exact z6 _ (LF oM)
 have f:l.getD (k/8) 0<2^(8*(k%8)):=Ao (b:=18446744073709551616) hk kD (by rw[<-rB];exact a);refine ⟨?_,vY f c,?_⟩
 ·rw[z2 (AU c)];exact gN _ f
 ·have e:=cH 18446744073709551616 (l:=l) (k:=k/8) (l.getD (k/8) 0+x*2^(8*(k%8))) hk
  rw[xP,<-d,<-inv]
  show ai _ _=ai _ l+_
  have h:256^k*x=18446744073709551616^(k/8)*(x*2^(8*(k%8))):=by rw[rB k];ac_rfl
  rw[Lm] at e
  rw[h]
  omega
theorem B1 (n:Nat):n<256^((nb n+7)/8):=by
 have h:=Id n;have e:(256:Nat)^((nb n+7)/8)=2^(8*((nb n+7)/8)):=by rw[LB]
 rw[e];exact ek h (Lw oM oM)
theorem mU (n:Nat):nb n<=64*(wds n).length:=by
 apply kF
 have:=dG n
 rwa [show (18446744073709551616:Nat)=2^64 by rfl,<-LB] at this
theorem mn (n:Nat):(wds n).length=(nb n+63)/64:=by
 rcases Aw n with h|h
 ·subst h;rfl
 ·have h1:=xl h
  have a:=mH h;have c:=pe n ((wds n).length-1);have f:=kz.2 h
  generalize (wds n).getD ((wds n).length-1) 0=t at *
  have d:=(co (L0 a)).2.2;have e:nb t<=64:=kF (k:=64) c
  omega
def Nw (K:Nat)(h:Hp)(b:Nat)(t:TypeId)(cs:List Value):Prop:=K<=b/\t≠0/\h[b]?=some (.cells cs.toArray t (0,0))
theorem Nw.gw {K:Nat}{h d:Hp}{b:Nat}{t:TypeId}{cs:List Value}(x:Nw K h b t cs)(u:Gw h d):Nw K d b t cs:=by
 obtain ⟨h1,c,a⟩:=x;refine ⟨h1,c,?_⟩
 rcases u.blk b (aR a) with e|e
 ·exact e.trans a
 ·rw[e] at a
  injection a with a
  unfold bg at a
  injection a with _ h4
  exact absurd h4.symm c
theorem Nw.seg {K:Nat}{h:Hp}{b:Nat}{t:TypeId}{cs sp:List Value}(x:Nw K h b t (cs++sp)):Seg h b 0 cs:=fun i v hv=>by
 unfold dR
 rw[x.2.2];have hi:i<cs.length:=(Mi.1 hv).1
 simp only[y9,List.getElem?_toArray]
 rw[vi hi];exact hv
theorem Nw.seg0 {K:Nat}{h:Hp}{b:Nat}{t:TypeId}{cs:List Value}(x:Nw K h b t cs):Seg h b 0 cs:=Nw.seg (sp:=[]) (by rw[List.append_nil];exact x)
theorem nr {vs cs:List Value}{o:Nat}(h:(vs.drop o).take cs.length=cs)(i:Nat)(v:Value)(hv:cs[i]?=some v):vs[o+i]?=some v:=by
 have hi:i<cs.length:=(Mi.1 hv).1;rw[<-h,vj hi,vl] at hv
 exact hv
section laws
variable {M:Ms}{P:Program}{n:Nat}{N R:Po}{X:Nat->Po}{ops:Array Oper}{k k0:Nat}{hr:Hp}{AL:List Al}{L:Array Bool}{Γ:cl}{w:World}{h:Hp}{w0:World}{h0:Hp}{B:List Bx}{Rs:List Rw}{F:List (Hp->Prop)}
theorem kd:∀ (cs vs:List Value) (o:Nat),(bW vs o cs).length=vs.length
 | [],_,_=>rfl
 | c::cs,vs,o=>by show (bW (vs.set o c) (o+1) cs).length=_;rw[kd,Md]
theorem SlO.flat {α:Type}{sz:Nat}{f:α->List Value}{d:α}{A:Z9}:∀ {l:List α},(∀ x,(f x).length=sz)->SlO sz f d h A l->Seg h (aB A) (aO A) (l.flatMap f)
  | l,hf,s=>fun i v hv=>by
    have hi:i<(l.flatMap f).length:=(Mi.1 hv).1;rw[bY hf] at hi
    rcases Aw sz with h0'|hp
    . subst h0';simp at hi
    . have hk:i/sz<l.length:=(L4 hp).2 hi
      have hr:i%sz<sz:=z6 _ hp;have c:=s.el (i/sz) hk (i%sz) v;have e:=fU hf d l (i/sz) hk;have a:i/sz*sz+i%sz=i:=by rw[H1];exact LR i sz
      have:=c (by rw[<-e,vj hr,vl,a];exact hv)
      rwa [wi,a] at this
theorem gJ {b o:Nat}{news:List Value}(g:G w h)(a:Seg h b o news):∀ j u,news[j]?=some u->w.cell? ((⟨b,o,none⟩:Addr).add j)=some u:=by
 intro j u c;have:=kV g (a j u c)
 unfold Addr.add
 split
 ·rename_i h0;subst h0;exact this
 ·exact this
theorem qL {α:Type}{f:α->List Value}{l m:List α}:l.flatMap f++m.flatMap f=(l++m).flatMap f:=by simp
theorem KU {α:Type}(t j:Nat)(ty:TypeId)(sz c:Nat)(A:Z9)(l:List α)(f:α->List Value)(d:α)(J:Z9)(m:List α)(c2 K:Nat)(z:Value)(s:SS w0 h0 w h B Rs F)(so:SlO sz f d h J m)(y:0<m.length)
  (H:∀ i c' w' p,SS w0 h0 w' p B (Rs.set j ⟨ty,sz,i,c',(l++m).length,(l++m).flatMap f⟩) F->LG P n N R X ops (k+1) ((t,.slice i (l++m).length c')::Γ) w')
  (O:cL ops Γ k t n=true:=by kernel_rfl)(I:p9 P (ev Γ) (am ops k)=some (.slice A l.length c,.slice J m.length c2,ty,z,sz,K):=by kernel_rfl)(hf:∀ x,(f x).length=sz:=by intro _;rfl)(h1:∀ x,(f x).all (·.oneCell')=true:=by intro _;kernel_rfl)(o:z.cells.size=sz:=by kernel_rfl)(a:0<sz:=by decide)
  (hr:Rs.getD j default=⟨ty,sz,A,c,l.length,l.flatMap f⟩:=by kernel_rfl)(V:decide (j<Rs.length)=true:=by kernel_rfl)(Q:l.length+m.length<=1099511627776:=by omega)(L:(l.length+m.length)*K<=140737488355328:=by omega):LG P n N R X ops k Γ w:=by
 have e:=oT V;have M:=so.ok y;rw[M] at I
 refine JZ t j (m.flatMap f) s (gJ s.g (so.flat hf)) (bY hf m) (fun u S=>?_) e (fc hr e) O I o a Q L (fun i c' w' p C=>?_)
 ·obtain ⟨x,_,U⟩:=Mj.1 S
  exact (oi.1 (h1 x)) u U
 ·have D:l.length+m.length=(l++m).length:=by simp
  rw[qL,D] at C
  rw[D];exact H i c' w' p C
theorem SS.newr {α:Type}{f:α->List Value}{l:List α}{sz:Nat}(s:SS w0 h0 w h B Rs F)(ty:TypeId)(hf:∀ x,(f x).length=sz)(d:l.length<=maxLen):SS w0 h0 (w.alloc (.cells (l.flatMap f).toArray ty (0,0))) (h.push bg) B (⟨ty,sz,some ⟨w.heap.size,0,none⟩,l.length,l.length,l.flatMap f⟩::Rs) F:=by
  have u:Up w h (w.alloc (.cells (l.flatMap f).toArray ty (0,0))) (h.push bg):=Up.allocAny s.g _ _ (.inr rfl);have c:=s.step u;refine ⟨c.g0,c.st,fun r hr=>?_,Mk.2 ⟨fun r hr=>?_,c.ap⟩,c.mo,c.f⟩
  . rcases gs.1 hr with rfl|hr
    . refine ⟨⟨bY hf l,.inr ⟨w.heap.size,l.length,(l.flatMap f).toArray,rfl,by rw[s.g.size];exact s.st.sz,?_,ea _,d,?_,?_⟩⟩,fun b a=>?_,fun b a d=>?_⟩
      . rw[heap_alloc];exact er
      . simp[<-bY hf l]
      . show List.take (l.length*sz) (l.flatMap f)=_
        rw[<-bY hf l];exact yY
      . simp[Rw.v,Value.ownBlock] at a
        subst a;rw[s.g.size];exact er
      . simp[Rw.v,Value.ownBlock] at a
        obtain ⟨x,j,e⟩:=gg.1 d;have:=(s.st.own x j).lt;have o:x.b=b:=e
        omega
    . exact c.ro r hr
  . intro b a i
    have:=js (s.ro r hr).own i
    simp[Rw.v,Value.ownBlock] at a
    omega
theorem HW {α:Type}(t:Nat)(ty:TypeId)(sz:Nat)(f:α->List Value)(l:List α)(s:SS w0 h0 w h B Rs F)(H:∀ b w' h',SS w0 h0 w' h' B (⟨ty,sz,some ⟨b,0,none⟩,l.length,l.length,l.flatMap f⟩::Rs) F->LG P n N R X ops (k+1) ((t,.slice (some ⟨b,0,none⟩) l.length l.length)::Γ) w')(a:cL ops Γ k t n=true:=by kernel_rfl)
  (hr:(execOp (ev Γ) (am ops k)).run P w=.ok (.value (.slice (some ⟨w.heap.size,0,none⟩) l.length l.length)) (w.alloc (.cells (l.flatMap f).toArray ty (0,0))):=by kernel_rfl)(hf:∀ x,(f x).length=sz:=by intro _;rfl)(c:Ml l.length 1000=true:=by kernel_rfl):LG P n N R X ops k Γ w :=
 LG.val t _ _ (bM a).1 (bM a).2 hr (H _ _ _ (s.newr ty hf (by have:=D0 c;unfold maxLen;omega)))
theorem nI (j o:Nat)(cs:List Value)(s:SS w0 h0 w h B Rs F)(H:∀ w',Put (aw B j).b w w'->SS w0 h0 w' h (ib B j o cs) Rs F->LG P n N R X ops (k+1) Γ w')(c:cS ops Γ k=true:=by kernel_rfl)
  (a:(decide (j<B.length) && decide (o+cs.length<=(aw B j).vs.length))=true:=by kernel_rfl)(d:dO P (execOp (ev Γ) (am ops k))=some (.skip,np (aw B j).b o cs):=by kernel_rfl):LG P n N R X ops k Γ w :=
 LG.put j o cs s.st s.g0 (iu c).1 (iu c).2 a d (fun w' p e=>H w' p (s.put0 (oT (i2 _ _▸a).1) p e (o9 (oT (i2 _ _▸a).1))))
theorem tX (i t:Nat)(A:Z9)(len a sz:Nat)(x:Int)(j:Nat)(e:A=some ⟨aB A,aO A,none⟩)(H:AG M P n N R X ops k0 (L.setIfInBounds i true) ((t,.pointer (some ⟨aB A,aO A+j*sz,none⟩))::Γ) w)(d:cT n ops k0 L Γ i t=true:=by kernel_rfl)(f:CC P (ev Γ) (am ops i)=some (.slice A len a,.int .i64 x,sz):=by kernel_rfl)(hk:x=j:=by omega)(c:j<len:=by omega):AG M P n N R X ops k0 L Γ w :=
 T.val i t _ w (jh d).1 (jh d).2 (ia f e hk c w) H
theorem eK {α:Type}(i t:Nat)(ty:TypeId)(m sz C:Nat)(z:Value)(f:α->List Value)(d:α)(s:SS w0 h0 w h B Rs F)(H:∀ b w' h',SS w0 h0 w' h' (⟨b,ty,(zZ m d).flatMap f⟩::B) Rs F->EG M P n N R X ops k0 hr AL (L.setIfInBounds i true) ((t,.slice (some ⟨b,0,none⟩) m m)::Γ) w' h')(y:Fp n ops k0 AL L Γ i t=true:=by kernel_rfl)
  (I:Jz P (ev Γ) (am ops i)=some (.int .i64 (m:Int),.int .i64 (m:Int),ty,z,sz,C):=by kernel_rfl)(p:z.cells.toList=f d:=by kernel_rfl)(j:z.cells.size=sz:=by kernel_rfl)(c:0<sz:=by decide)(D:C*m<=140737488355328:=by omega)(o:m<9223372036854775808:=by omega):EG M P n N R X ops k0 hr AL L Γ w h :=
 Rg.event i t (jl y).1 (jl y).2 (fun w1 h1 u=>by
  have a:=s.step u;have e:Up w1 h1 (w1.alloc (.cells ((zZ m d).flatMap f).toArray ty (0,0))) (h1.push bg):=Up.allocAny a.g _ _ (.inr rfl);refine .inl ⟨_,_,_,uf I p j c D o w1,e.m M.l,H _ _ _ (a.new e (by rw[a.g.size];exact ea _) (St.new1 (x:=⟨0,0,.cells ((zZ m d).flatMap f).toArray ty (0,0)⟩) a.st (a.st.step e) ⟨?_,?_,?_⟩ ty _ rfl))⟩
  ·rw[heap_alloc];exact er
  ·rw[a.g.size];exact er
  ·show h1.size<=w1.heap.size;rw[a.g.size];exact ea _)
theorem SS.blkp {F1:List (Hp->Prop)}{wr:World}{x:Al}{b:Nat}(a:List Bx)(j:SS w0 h0 wr hr B Rs F1)(s:SS w0 h0 w h (a++B) Rs F)(k:Blk hr w h (x,b))(t:TypeId)(vs:List Value)(l:x.o=.cells vs.toArray t (0,0))(z:a.all (fun y=>y.t != t)=true):SS w0 h0 w h (⟨b,t,vs⟩::(a++B)) Rs F :=
 ⟨s.g0,St.new j.st s.st (fun y d=>by
  rcases List.mem_append.1 d with d|d
  ·right
   intro e;have h1:=s.st.own y (List.mem_append_left _ d);have p:w.heap[b]?=some x.o:=k.1
   unfold Own at h1
   rw[e,p,l] at h1
   injection h1 with h1
   injection h1 with _ h3
   have:=(oi.1 z) y d
   simp only[bne_iff_ne,ne_eq] at this
   exact this h3.symm
  ·exact .inl (aR (j.st.jk y d))) k t vs l,fun r i=>(s.ro r i).new b (fun c u e=>by
  have h1:=(j.ro r i).lt u;have p:hr.size<=b:=k.2.2
  omega),s.ap,s.mo,s.f⟩
theorem iO {F1:List (Hp->Prop)}{wr:World}{x:Al}(a:List Bx)(d:SS w0 h0 wr hr B Rs F1)(s:SS w0 h0 w h (a++B) Rs F)(t:TypeId)(vs:List Value)(H:∀ w' c b,SS w0 h0 w' c (⟨b,t,vs⟩::(a++B)) Rs F->AG M P n N R X ops k0 (L.setIfInBounds x.i true) ((x.t,.pointer (some ⟨b,0,none⟩))::Γ) w')(f:(gI ops [x] L && decide (x.t<n))=true:=by kernel_rfl)(e:x.o=.cells vs.toArray t (0,0):=by kernel_rfl)(j:a.all (fun y=>y.t != t)=true:=by kernel_rfl):EG M P n N R X ops k0 hr [x] L Γ w h :=
 Rg.fin1 f (fun w' c b u k=>H w' c b (SS.blkp a d (s.step u) k t vs e j))
end laws
theorem SS.at_ {w:World}{h:Hp}{rb:Nat}{t:TypeId}{vs:List Value}(g:G w h)(o:Own w rb t vs)(j:h[rb]?=some bg):∃ w0 h0,SS w0 h0 w h [⟨rb,t,vs⟩] [] []:=by
 obtain ⟨w0,h0,d,c⟩:=St.at_ g o j;exact ⟨w0,h0,d,c,fun _ a=>(by cases a),.nil,fun _ a=>(by cases a),trivial⟩
theorem SlO.take {α:Type}{sz:Nat}{f:α->List Value}{d:α}{h:Hp}{A:Z9}{l:List α}(s:SlO sz f d h A l)(k:Nat):SlO sz f d h A (l.take k) :=
 ⟨fun a=>s.ok (by rw[Lp] at a;omega),fun i hi=>by
  rw[Lp] at hi
  have:=s.el i oM
  rwa [LI,vj oM,<-LI]⟩
theorem SlO.drop {α:Type}{sz:Nat}{f:α->List Value}{d:α}{h:Hp}{A:Z9}{l:List α}(s:SlO sz f d h A l)(k c:Nat)(o:l.length<=c):SlO sz f d h (if c=k then A else A.map (·.add (k*sz))) (l.drop k):=by
 rcases cD k l.length with hk|hk
 ·rw[if_neg oM]
  have j:=s.ok oM
  have a:(⟨aB A,aO A,none⟩:Addr).add (k*sz)=⟨aB A,aO A+k*sz,none⟩:=by
   unfold Addr.add
   split
   ·rename_i h0;rw[h0];rfl
   ·rfl
  have e:A.map (·.add (k*sz))=some ⟨aB A,aO A+k*sz,none⟩:=by rw[j];simp only[tq,aB,aO] at a ⊢;rw[<-a]
  refine ⟨fun _=>by rw[e];rfl,fun i hi=>?_⟩;rw[e]
  show Seg h (aB A) (aO A+k*sz+i*sz) _
  rw[LU] at hi
  have:=s.el (k+i) oM;rw[LN,<-wi] at this
  rwa [LI,vl,<-LI]
 ·rw[Mm hk];exact SlO.nil
section ss
variable {w0:World}{h0:Hp}{w:World}{h:Hp}{B:List Bx}{R:List Rw}{F:List (Hp->Prop)}
theorem SS.rowA (s:SS w0 h0 w h B R F)(j:Nat){ty:TypeId}{sz c m:Nat}{A:Z9}{cs:List Value}(d:0<m)(hr:R.getD j default=⟨ty,sz,A,c,m,cs⟩:=by kernel_rfl)(f:decide (j<R.length)=true:=by kernel_rfl):∃ b,A=some ⟨b,0,none⟩:=by
 have a:=oT f;have r:=s.ro _ (e5 a);rw[fc hr a] at r
 rcases r.own with ⟨_,⟨_,e⟩|⟨b,cap,cur,e,_⟩⟩
 ·simp only[] at e;omega
 ·simp only[Rw.v] at e
  injection e with e
  exact ⟨b,e⟩
theorem SS.rowO (s:SS w0 h0 w h B R F)(j:Nat){ty:TypeId}{sz c m b:Nat}{cs:List Value}(hr:R.getD j default=⟨ty,sz,some ⟨b,0,none⟩,c,m,cs⟩)(a:j<R.length):∃ vs:List Value,Own w b ty vs/\vs.take (m*sz)=cs/\cs.length=m*sz/\h0.size<=b/\m<=c/\c<=maxLen/\vs.length=c*sz:=by
 have r:=s.ro _ (e5 a);rw[fc hr a] at r
 rcases r.own with ⟨h1,⟨e,_⟩|⟨g,cap,cur,e,hb,hg,hn,hm,hs,ht⟩⟩
 ·simp[Rw.v] at e
 ·simp only[Rw.v] at e
  injection e with e1 e2 e3
  injection e1 with e1
  injection e1 with e1
  subst e1 e3;exact ⟨cur.toList,by simpa [Own] using hg,ht,h1,hb,hn,hm,by simpa using hs⟩
theorem BO {vs cs:List Value}{k i:Nat}{v:Value}(h:vs.take k=cs)(hv:cs[i]?=some v):vs[i]?=some v:=by
 have hi:i<cs.length:=(Mi.1 hv).1;rw[<-h] at hi
 rw[Lp] at hi
 rw[<-h,vj oM] at hv
 exact hv
theorem lp:∀ (cs vs:List Value) (o k:Nat),o+cs.length<=k->(bW vs o cs).take k=bW (vs.take k) o cs
  | [],_,_,_,_=>rfl
  | c::cs,vs,o,k,h=>by
    show (bW (vs.set o c) (o+1) cs).take k=bW ((vs.take k).set o c) (o+1) cs
    rw[lp cs _ _ _ (by simp only[tv] at h;omega),List.take_set]
theorem SS.rowput (s:SS w0 h0 w h B R F)(j:Nat){ty:TypeId}{sz c m b o:Nat}{cs l:List Value}{w':World}{vs:List Value}(hr:R.getD j default=⟨ty,sz,some ⟨b,0,none⟩,c,m,cs⟩)(C:j<R.length)(p:Put b w w')(W:Own w' b ty (bW vs o l))(hv:vs.take (m*sz)=cs)(U:vs.length=c*sz)(Z:o+l.length<=cs.length):SS w0 h0 w' h B (R.set j ⟨ty,sz,some ⟨b,0,none⟩,c,m,bW cs o l⟩) F:=by
  have D:=fc hr C;have r:=s.ro _ (e5 C);rw[D] at r
  have L:=r.jk b rfl;obtain ⟨_,_,_,J,y,I,M,_⟩:=s.rowO j hr C;have S:∀ x∈B,x.b≠b:=fun x u e=>r.ap b rfl (gg.2 ⟨x,u,e⟩)
  have V:=A9.1 s.ap;refine ⟨s.g0,⟨s.st.up.put p L y s.g0.size,?_,s.st.jk,s.st.lo,s.st.nd⟩,?_,?_,s.mo,s.f⟩
  . intro x u
    show w'.heap[x.b]?=_
    rw[p.blk _ (S x u)];exact s.st.own x u
  . intro x u
    obtain ⟨i,hi,H⟩:=ul.1 u;have a:i<R.length:=by simpa using hi
    by_cases e:j=i
    . subst e
      simp only[B2] at H
      rw[<-H];refine ⟨⟨?_,.inr ⟨b,c,(bW vs o l).toArray,rfl,y,W,I,M,by simp[kd,U],?_⟩⟩,r.jk,r.ap⟩
      . show (bW cs o l).length=m*sz;rw[kd];exact J
      . show (bW vs o l).take (m*sz)=bW cs o l
        rw[lp _ _ _ _ oM,hv]
    . rw[Bs e] at H
      rw[<-H]
      have z:Apart R[i].v R[j].v:=by
        rcases Nat.lt_or_gt_of_ne e with hl'|hl'
        . exact (V j i C a hl').symm
        . exact V i j a C hl'
      rw[D] at z
      have Q:=s.ro _ (e5 a);exact ⟨eD Q.own (fun d Y=>p.blk d (fun X=>z d Y (by rw[X];rfl))),Q.jk,Q.ap⟩
  . refine A9.2 (fun i k hi hk K=>?_)
    have a:i<R.length:=by simpa using hi
    have O:k<R.length:=by simpa using hk
    have:=V i k a O K
    by_cases e:j=i
    . subst e
      rw[B2,Bs oM];rw[D] at this
      exact this
    . by_cases e2:j=k
      . subst e2
        rw[B2,Bs oM];rw[D] at this
        exact this
      . rw[Bs e,Bs e2]
        exact this
theorem SS.rown (s:SS w0 h0 w h B R F)(R':List Rw)(e:R=R'):SS w0 h0 w h B R' F:=e▸s
end ss
theorem jB {α:Type}{f:α->List Value}{sz:Nat}(hf:∀ x,(f x).length=sz)(d:α){o:Nat}{cs:List Value}:∀ (l:List α) (k:Nat) (x:α),k<l.length->o+cs.length<=sz->bW (f (l.getD k d)) o cs=f x->bW (l.flatMap f) (k*sz+o) cs=(l.set k x).flatMap f
  | [],k,x,h,_,_=>by simp at h
  | y::l,0,x,h,ho,e=>by
    simp only[wj,y6,y9,Mn,List.getD_cons_zero] at e ⊢
    rw[<-e];exact putAt_left _ _ _ _ (by rw[hf];exact ho)
  | y::l,k+1,x,h,ho,e=>by
    simp only[wj,List.set_cons_succ,yZ] at e ⊢
    rw[Nat.succ_mul,show k*sz+sz+o=(f y).length+(k*sz+o) by rw[hf];omega,g8,jB hf d l k x (by simpa using h) ho e]
where
  putAt_left:∀ (cs a b:List Value) (o:Nat),o+cs.length<=a.length->bW (a++b) o cs=bW a o cs++b
    | [],_,_,_,_=>rfl
    | c::cs,a,b,o,h=>by
      show bW ((a++b).set o c) (o+1) cs=bW (a.set o c) (o+1) cs++b
      simp only[tv] at h
      rw[List.set_append_left _ _ oM,putAt_left cs _ b _ (by rw[Md];omega)]
section laws
variable {M:Ms}{P:Program}{n:Nat}{N R:Po}{X:Nat->Po}{ops:Array Oper}{k k0:Nat}{hr:Hp}{AL:List Al}{L:Array Bool}{Γ:cl}{w:World}{h:Hp}{w0:World}{h0:Hp}{B:List Bx}{Rs:List Rw}{F:List (Hp->Prop)}
theorem SS.rowrun {α:Type}{w':World}{d:Sem α}{r:α}(s:SS w0 h0 w h B Rs F)(j:Nat){ty:TypeId}{sz c m b o:Nat}{cs e:List Value}(p:Rs.getD j default=⟨ty,sz,some ⟨b,0,none⟩,c,m,cs⟩)(z:j<Rs.length)(l:(cs.drop o).take e.length=e)(x:Ext w w')(y:bX P d e=some (r,lg b o e.length)):d.run P w'=.ok r w':=by
 obtain ⟨vs,u,hv,_⟩:=s.rowO j p z;exact cP _ _ _ _ y (fun i a v ha f=>by rw[fk _ _ _ _ _ ha,(u.ext x).cell];exact BO hv (nr l i v f))
theorem Jy (t j:Nat)(v:Value)(a:List Value){ty:TypeId}{sz c m b o:Nat}{cs:List Value}(s:SS w0 h0 w h B Rs F)(e:(cs.drop o).take a.length=a)(H:LG P n N R X ops (k+1) ((t,v)::Γ) w)(d:Rs.getD j default=⟨ty,sz,some ⟨b,0,none⟩,c,m,cs⟩:=by kernel_rfl)(l:decide (j<Rs.length)=true:=by kernel_rfl)(f:cL ops Γ k t n=true:=by kernel_rfl)(i:bX P (execOp (ev Γ) (am ops k)) a=some (.value v,lg b o a.length):=by kernel_rfl):LG P n N R X ops k Γ w :=
 LG.val t v w (bM f).1 (bM f).2 (s.rowrun j d (oT l) e (Ext.refl _) i) H
theorem Li (j o:Nat)(a:List Value){ty:TypeId}{sz c m b:Nat}{cs:List Value}(s:SS w0 h0 w h B Rs F)(z:o+a.length<=cs.length)(H:∀ w',SS w0 h0 w' h B (Rs.set j ⟨ty,sz,some ⟨b,0,none⟩,c,m,bW cs o a⟩) F->LG P n N R X ops (k+1) Γ w')(f:Rs.getD j default=⟨ty,sz,some ⟨b,0,none⟩,c,m,cs⟩:=by kernel_rfl)(I:decide (j<Rs.length)=true:=by kernel_rfl)(u:cS ops Γ k=true:=by kernel_rfl)
  (D:dO P (execOp (ev Γ) (am ops k))=some (.skip,np b o a):=by kernel_rfl):LG P n N R X ops k Γ w:=by
 have e:=oT I;obtain ⟨vs,y,hv,C,_,x,_,l⟩:=s.rowO j f e
 have p:o+a.length<=vs.length:=by
  have:=congrArg Mp hv;rw[Lp] at this
  omega
 obtain ⟨w',d,J,i⟩:=fy _ _ o a vs w D y p;exact LG.store w' (iu u).1 (iu u).2 d (H w' (s.rowput j f e J i hv l z))
theorem KY (i j o:Nat)(a:List Value){ty:TypeId}{sz c m b:Nat}{cs:List Value}(s:SS w0 h0 w h B Rs F)(I:o+a.length<=cs.length)(H:∀ w',SS w0 h0 w' h B (Rs.set j ⟨ty,sz,some ⟨b,0,none⟩,c,m,bW cs o a⟩) F->AG M P n N R X ops k0 (L.setIfInBounds i true) Γ w')(l:Rs.getD j default=⟨ty,sz,some ⟨b,0,none⟩,c,m,cs⟩:=by kernel_rfl)(U:decide (j<Rs.length)=true:=by kernel_rfl)
  (Q:(il ops k0 L i && aY Γ (am ops i) && ((am ops i).dst == none))=true:=by kernel_rfl)(O:bh ops Γ (am ops i)=some true:=by kernel_rfl)
  (S:dO P (execOp (ev Γ) (am ops i))=some (.skip,np b o a):=by kernel_rfl)(hz:∀ K bs,M.z=some (K,bs)->K<=b\/b∈bs:=by intro _ _ e;cases e):AG M P n N R X ops k0 L Γ w:=by
 have f:=oT U;obtain ⟨vs,D,hv,J,_,C,_,u⟩:=s.rowO j l f
 have x:o+a.length<=vs.length:=by
  have:=congrArg Mp hv;rw[Lp] at this
  omega
 obtain ⟨w',d,y,p⟩:=fy _ _ o a vs w S D x;exact T.store i w' Q O d (y.tl hz) (H w' (s.rowput j l f y p hv u I))
theorem FB (i t j:Nat)(v:Value)(a:List Value){ty:TypeId}{sz c m b o:Nat}{cs:List Value}(s:SS w0 h0 w h B Rs F)(d:(cs.drop o).take a.length=a)(H:EG ⟨[],none⟩ P n N R X ops k0 hr AL (L.setIfInBounds i true) ((t,v)::Γ) w h)(e:Rs.getD j default=⟨ty,sz,some ⟨b,0,none⟩,c,m,cs⟩:=by kernel_rfl)(u:decide (j<Rs.length)=true:=by kernel_rfl)(f:Cn n ops k0 AL L Γ i t=true:=by kernel_rfl)(p:bX P (execOp (ev Γ) (am ops i)) a=some (.value v,lg b o a.length):=by kernel_rfl):EG ⟨[],none⟩ P n N R X ops k0 hr AL L Γ w h :=
 Rg.load i t v (iG f).1 (iG f).2 (fun _ l=>s.rowrun j e (oT u) d l.ext p) H
end laws
theorem nP (x y:Int):(if y>x then y else x)=max x y:=by omega
theorem fH (x y:Int):(if y<x then y else x)=min x y:=by omega
section z
variable {bs:List Nat}{P:Program}{n:Nat}{N R:Po}{X:Nat->Po}{ops:Array Oper}{k0:Nat}{hr:Hp}{AL:List Al}{L:Array Bool}{Γ:cl}{w wr:World}{h:Hp}{w0:World}{h0:Hp}{B:List Bx}{Rs:List Rw}{F F1:List (Hp->Prop)}
abbrev Mz (hr:Hp)(bs:List Nat):Ms:=⟨[],some (hr.size,bs)⟩
theorem FF {id:Nat}{d:Bool}(k0:Nat)(AL:List Al)(bs:List Nat)(e:P.follows .mixedOrders=true)(s:SS w0 h0 w h B Rs F)(c:∀ x∈AL,AlOk P ops k0 x)(H:EG (Mz h bs) P n N R X ops k0 h AL (s5 ops.size false) Γ w h)(a:lc ops=true:=by kernel_rfl):CG P n N R X (.region id ops d) Γ w :=
 CG.region (Mz h bs) k0 AL e a s.g c (fun _ f=>by cases f) H
theorem H9 (c:SS w0 h0 wr hr B Rs F1)(s:SS w0 h0 w h B Rs F){w':World}(d:∀ b,b<hr.size->b ∉ bs->b ∉ ([]:List Nat)->w'.heap[b]?=w.heap[b]?):∀ x∈B,x.b ∉ bs->Own w' x.b x.t x.vs:=fun x a e =>
 (d x.b (aR (c.st.jk x a)) e List.not_mem_nil).trans (s.st.own x a)
theorem Bw (i t:Nat)(ps:List (Nat × Nat × Nat))(v:Value)(c:SS w0 h0 wr hr B Rs F1)(s:SS w0 h0 w h B Rs F)(H:EG (Mz hr bs) P n N R X ops k0 hr AL (L.setIfInBounds i true) ((t,v)::Γ) w h)(hM:∀ p∈ps,(aw B p.1).b ∉ bs:=by intro _ _;exact List.not_mem_nil)(a:cE n ops k0 AL L Γ i t=true:=by kernel_rfl)(f:db B ps=true:=by kernel_rfl)(e:bX P (execOp (ev Γ) (am ops i)) (dM B ps)=some (.value v,cG B ps):=by kernel_rfl):EG (Mz hr bs) P n N R X ops k0 hr AL L Γ w h :=
 Rg.loadZ i t v rfl (jt a).1 (jt a).2 (fun w' d=>cP _ _ _ _ e (gX hM (H9 c s d) ps (fun _ h=>h) f)) H
theorem F7 {x y:Al}(C:SS w0 h0 wr hr B Rs F)(s:SS w0 h0 w h B Rs F)(t:TypeId)(vs:List Value)(l:TypeId)(a:List Value)(H:∀ w' p b c,hr.size<=b->hr.size<=c->SS w0 h0 w' p (⟨b,t,vs⟩::⟨c,l,a⟩::B) Rs F->AG (Mz hr bs) P n N R X ops k0 ((L.setIfInBounds y.i true).setIfInBounds x.i true) ((x.t,.pointer (some ⟨b,0,none⟩))::(y.t,.pointer (some ⟨c,0,none⟩))::Γ) w')(M:(gI ops [x,y] L && decide (x.t<n) && decide (y.t<n) && (x.t != y.t) && (x.i != y.i))=true:=by kernel_rfl)(J:x.o=.cells vs.toArray t (0,0):=by kernel_rfl)(z:y.o=.cells a.toArray l (0,0):=by kernel_rfl):EG (Mz hr bs) P n N R X ops k0 hr [x,y] L Γ w h :=
 Rg.fin2 M (fun w' p b c u k k2 D=>H w' p b c k.2.2 k2.2.2 ⟨s.g0,St.new2 C.st (s.st.step u) k k2 D t vs J l a z,fun r j=>(((s.step u).ro r j).new c (fun d I e=>by
  have h1:=(C.ro r j).lt I;have K:hr.size<=c:=k2.2.2
  omega)).new b (fun d I e=>by
  have h1:=(C.ro r j).lt I;have K:hr.size<=b:=k.2.2
  omega),s.ap,s.mo,(s.step u).f⟩)
theorem i5 {b:Nat}(c:hr.size<=b):∀ K a,(Mz hr bs).z=some (K,a)->K<=b\/b∈a:=fun K a e=>by
 injection e with e
 injection e with e1 e2
 subst e1;exact .inl c
theorem gC {b:Nat}(c:b∈bs):∀ K a,(Mz hr bs).z=some (K,a)->K<=b\/b∈a:=fun K a e=>by
 injection e with e
 injection e with e1 e2
 subst e2;exact .inr c
end z
theorem fF {α:Type}{f:α->List Value}{sz:Nat}(hf:∀ x,(f x).length=sz)(d:α)(l:List α)(k:Nat)(hk:k<l.length):((l.flatMap f).drop (0+k*sz)).take (f (l.getD k d)).length=f (l.getD k d):=by
 rw[y9,hf];exact fU hf d l k hk
section row
variable {P:Program}{n:Nat}{N R:Po}{X:Nat->Po}{ops:Array Oper}{k:Nat}{Γ:cl}{w:World}{h:Hp}{w0:World}{h0:Hp}{B:List Bx}{Rs:List Rw}{F:List (Hp->Prop)}
theorem FG {α:Type}(j e i:Nat)(a:List Value)(l:List α)(f:α->List Value)(sz:Nat)(d x:α){ty:TypeId}{c b:Nat}(s:SS w0 h0 w h B Rs F)(hk:e<l.length)(H:∀ w',SS w0 h0 w' h B (Rs.set j ⟨ty,sz,some ⟨b,0,none⟩,c,l.length,(l.set e x).flatMap f⟩) F->LG P n N R X ops (k+1) Γ w')
  (C:bW (f (l.getD e d)) i a=f x:=by rfl)(hf:∀ x,(f x).length=sz:=by intro _;rfl)(y:Ml (i+a.length) sz=true:=by kernel_rfl)(p:Rs.getD j default=⟨ty,sz,some ⟨b,0,none⟩,c,l.length,l.flatMap f⟩:=by kernel_rfl)(I:decide (j<Rs.length)=true:=by kernel_rfl)(z:cS ops Γ k=true:=by kernel_rfl)
  (D:dO P (execOp (ev Γ) (am ops k))=some (.skip,np b (0+e*sz+i) a):=by kernel_rfl):LG P n N R X ops k Γ w:=by
 have o:=D0 y;refine Li j (0+e*sz+i) a s ?_ (fun w' u=>H w' ?_) p I z D
 ·rw[bY hf,y9]
  have:(e+1)*sz<=l.length*sz:=zh _ hk;rw[LN,LP] at this
  omega
 ·rw[y9,jB hf d l e x hk o C] at u
  exact u
end row
theorem pI {P:Program}(w:World)(t ty e:TypeId)(i:TypeInfo)(z:Value)(l:P.underlying t=some (.slice e))(hi:P.info? e=some i)(hz:i.zero=some z)(h a:Addr)(m c:Nat)(news:List Value)(f:news.length=m*i.size)(d:∀ j u,news[j]?=some u->w.cell? (a.add j)=some u)(x:0<m)(p:m<=1099511627776)(o:m*i.bytes<=140737488355328) :
  (Builtin.append_ #[t,t] ty #[.slice (some h) 0 0,.slice (some a) m c]).run P w=(Builtin.append_ #[t,t] ty #[.slice none 0 0,.slice (some a) m c]).run P w:=by
 rw[run_append_grow (P:=P) w t ty e i z l hi hz h 0 0 [] (by simp) (by simp) a m c news f d oM oM (growslice_fits oM (by simpa using o)),
  run_append_nil (P:=P) w t ty e i z l hi hz a m c news f d oM oM oM]
 simp
section app
variable {M:Ms}{P:Program}{n:Nat}{N R:Po}{X:Nat->Po}{ops:Array Oper}{k k0:Nat}{hr:Hp}{AL:List Al}{L:Array Bool}{Γ:cl}{w:World}{h:Hp}{w0:World}{h0:Hp}{B:List Bx}{Rs:List Rw}{F:List (Hp->Prop)}
theorem qG {o:Oper}{x y:Operand}{t e:TypeId}{z:Value}{sz F m2 c:Nat}{news:List Value}{K a:Addr}(S:o.op=.call { callee:=.builtin .append,args:=#[x,y],argTypes:=#[t,t] })
    (X:ev Γ x=.slice (some K) 0 0)(O:ev Γ y=.slice (some a) m2 c)(M:P.underlying t=some (.slice e))(hi:(P.info? e).map (fun i=>(i.zero,i.size,i.bytes))=some (some z,sz,F))(C:z.cells.size=sz)(p:0<sz)
    (s:St w0 h0 w h B)(I:news.length=m2*sz)(f:∀ j u,news[j]?=some u->w.cell? (a.add j)=some u)(h1:∀ u∈news,u.oneCell'=true)(D:0<m2)
    (W:m2<=1099511627776)(H:m2*F<=140737488355328) :
    ∃ v' w',(execOp (ev Γ) o).run P w=.ok (.value v') w'/\w'.ownsRow h0.size e sz v' (0+m2) ([]++news)/\w.grownBy w' (Value.slice none 0 0).ownBlock/\(v'.ownBlock=(Value.slice none 0 0).ownBlock\/v'.ownBlock=some w.heap.size):=by
  cases d:P.info? e with
  | none=>rw[d] at hi;cases hi
  | some inf =>
    rw[d] at hi
    simp only[tq,Option.some.injEq,Prod.mk.injEq] at hi
    obtain ⟨i1,L,J⟩:=hi;obtain ⟨v',w',l,U,Q,Y,V⟩:=run_append_own_at (P:=P) w h0.size t o.type e inf z sz F M d i1 L J C p (.slice none 0 0) 0 [] (World.ownsRow_nil _ _ _ _) a m2 c news I f h1 (by unfold maxLen;omega) (by rw[y9];exact H) (by rw[s.g.size];exact s.sz);refine ⟨v',w',?_,U,Q,V⟩;rw[<-pI (P:=P) w t o.type e inf z M d i1 K a m2 c news (by rw[L];exact I) f D W (by rw[J];exact H)] at l
    unfold execOp
    simp only[S,resolve,invoke,builtin,Sem.run_bind,Sem.run_pure,Result.andThen_ok,Mq,Ag,Mr,X,O,l]
theorem SS.appE (s:SS w0 h0 w h B Rs F){o:Oper}{ty:TypeId}{sz Q c2 X:Nat}{z:Value}{α:Type}{f:α->List Value}{d:α}{O:Z9}{m:List α}(M:p9 P (ev Γ) o=some (.slice (some ⟨X,0,none⟩) 0 0,.slice O m.length c2,ty,z,sz,Q))(so:SlO sz f d h O m)(i:0<m.length)(h1:∀ x∈m,(f x).all (·.oneCell')=true)(hf:∀ x,(f x).length=sz)(H:z.cells.size=sz)(l:0<sz)(hm:m.length<=1099511627776)(U:m.length*Q<=140737488355328) :
  ∃ D c' w' C,(execOp (ev Γ) o).run P w=.ok (.value (.slice D m.length c')) w'/\Up w h w' C/\SS w0 h0 w' C B (⟨ty,sz,D,c',m.length,m.flatMap f⟩::Rs) F:=by
 rw[so.ok i] at M
 obtain ⟨x',y,V,W,K,S,J,hi⟩:=ju M
 obtain ⟨v',w',p,Z,a,e⟩:=qG (P:=P) W K S J hi H l s.st (bY hf m) (gJ s.g (so.flat hf)) (fun u J=>by
  obtain ⟨x,I,K⟩:=Mj.1 J;exact (oi.1 (h1 x I)) u K) i hm U
 obtain ⟨C,D,c',rfl,e2,L⟩:=(s.nil ty sz).grown (j:=0) (by simp) (w':=w') (v':=v') (m2:=m.length) (news:=m.flatMap f) Z a e;refine ⟨D,c',w',C,?_,⟨⟨a.os,a.tape,a.output,a.size,fun c Y=>a.block c Y (by simp[Value.ownBlock])⟩,e2,L.g⟩,?_⟩
 ·rw[p];simp
 ·simpa using L
theorem Lh {α:Type}(t:Nat)(ty:TypeId)(sz:Nat)(f:α->List Value)(d:α)(C:Nat)(p:Z9)(m:List α)(c2 u:Nat)(z:Value)(s:SS w0 h0 w h B Rs F)(so:SlO sz f d h p m)(l:0<m.length)(h1:∀ x∈m,(f x).all (·.oneCell')=true)
  (H:∀ e c' w' j,SS w0 h0 w' j B (⟨ty,sz,e,c',m.length,m.flatMap f⟩::Rs) F->LG P n N R X ops (k+1) ((t,.slice e m.length c')::Γ) w')
  (o:cL ops Γ k t n=true:=by kernel_rfl)(J:p9 P (ev Γ) (am ops k)=some (.slice (some ⟨C,0,none⟩) 0 0,.slice p m.length c2,ty,z,sz,u):=by kernel_rfl)(hf:∀ x,(f x).length=sz:=by intro _;rfl)(i:z.cells.size=sz:=by kernel_rfl)(a:0<sz:=by decide)(I:m.length<=1099511627776:=by omega)(y:m.length*u<=140737488355328:=by omega):LG P n N R X ops k Γ w:=by
 obtain ⟨e,c',w',j,c,_,D⟩:=s.appE (P:=P) J so l h1 hf i a I y;exact LG.val t _ w' (bM o).1 (bM o).2 c (H e c' w' j D)
end app
def az (x:Nat):List Value:=[.int .u32 (x:Nat)]
abbrev S3 (A:Z9)(l:List Nat):Hp->Prop:=fun h_=>SlO 1 az 0 h_ A l
theorem nQ:∀ f n:Nat,qh f n=qU 4294967296 f n
  | 0,_=>rfl
  | f+1,n=>by
    unfold qh qU
    split
    . rfl
    . rw[nQ f]
theorem uU (n:Nat):lim n=gV 4294967296 n:=nQ n n
def Ld (l:List Nat):Prop:=Dg 4294967296 l
theorem Ld.lim (n:Nat):Ld (lim n):=fun x a=>j9 n x a
theorem Ld.get {l:List Nat}(h:Ld l)(k:Nat):l.getD k 0<4294967296:=Dg.getD h kD k
theorem Ld.set {l:List Nat}(h:Ld l)(k:Nat){x:Nat}(a:x<4294967296):Ld (l.set k x):=Dg.set h k a
theorem Ld.rep (n:Nat):Ld (zZ n 0):=Dg.rep kD
theorem dd (n:Nat):ai 4294967296 (lim n)=n:=by rw[<-kB];exact gi n
theorem se {l:List Nat}(h:Ld l){n:Nat}(e:ai 4294967296 l=n):lim n=l.take (tl l l.length):=by
 rw[<-e,<-kB];exact BM h
theorem mB {l:List Nat}(h:Ld l){n:Nat}(e:ai 4294967296 l=n):(lim n).length=tl l l.length:=by
 rw[se h e,Lp];have:=iq l l.length;omega
theorem cB (n:Nat):n<4294967296^(lim n).length:=by rw[uU];exact jq kD n
theorem dE {a b:Nat}(h:a<=b):(lim a).length<=(lim b).length:=eo (Ft h (cB b))
theorem gn {a b k:Nat}(h:a<=b)(c:(lim b).length<=k):(lim a).length<=k:=eb (dE h) c
theorem iJ {a b k:Nat}(ha:(lim a).length<=k)(c:(lim b).length<=k):(lim (a+b)).length<=k+1:=by
 refine eo ?_;have h1:=cB a;have d:=cB b;have e:4294967296^(lim a).length<=4294967296^k:=Lw kD ha;have f:4294967296^(lim b).length<=4294967296^k:=Lw kD c;rw[HA]
 omega
theorem gm {a b:Nat}:(lim (a*b)).length<=(lim a).length+(lim b).length:=by
 refine eo ?_;rw[Ly];exact Nat.mul_lt_mul'' (cB a) (cB b)
theorem uK (n:Nat):(lim n).length<=2*(wds n).length:=by
 refine eo ?_;have:=dG n
 rwa [show (18446744073709551616:Nat)=4294967296^2 by rfl,<-LB] at this
theorem EC (n:Nat):(wds n).length<=(lim n).length:=by
 refine fg kD ?_;have:=cB n;exact ek this (Nat.pow_le_pow_left kD _)
theorem gA {a b:Nat}(h:(lim a).length<(lim b).length):a<b:=by
 rcases cD a b with hl|hl
 ·exact hl
 ·have:=dE hl;omega
theorem Eh {a b:Nat}(h:lim a=lim b):a=b:=by rw[<-gi a,<-gi b,h]
theorem gY {a b k:Nat}(e:(lim a).length=(lim b).length)(hk:k<(lim a).length)(i:(lim a).drop (k+1)=(lim b).drop (k+1))(c:(lim a).getD k 0<(lim b).getD k 0):a<b:=by
 have d:=bQ 4294967296 (l:=lim a) (k:=k+1) oM;have f:=bQ 4294967296 (l:=lim b) (k:=k+1) oM;rw[dd] at d f
 rw[i] at d
 have j:=aJ 4294967296 (l:=lim a) (k:=k) hk;have p:=aJ 4294967296 (l:=lim b) (k:=k) oM;have h:=bL (Dg.take (Ld.lim a) k);rw[Lp,Lq oM] at h
 have o:4294967296^k*(lim a).getD k 0+4294967296^k<=4294967296^k*(lim b).getD k 0:=by
  rw[<-LZ];exact Lz _ c
 omega
def RN (h:Hp)(v:Value)(n:Nat):Prop:=JU 1 az 0 h v (lim n)
def RI (h:Hp)(v:Value)(z:Int):Prop:=∃ A c,v=.agg #[.bool (af z),.slice A (lim (ab z)).length c]/\(lim (ab z)).length<=c/\SlO 1 az 0 h A (lim (ab z))
def RP (h:Hp)(v:Value)(z:Int)(n:Nat):Prop:=∃ A c B d,v=.agg #[.bool (af z),.slice A (lim (ab z)).length c,.slice B (lim n).length d]/\(lim (ab z)).length<=c/\(lim n).length<=d/\SlO 1 az 0 h A (lim (ab z))/\SlO 1 az 0 h B (lim n)
def RQ (h:Hp)(v:Value)(q:Rat):Prop:=RP h v q.num q.den
theorem RP.gw {h a:Hp}{v:Value}{z:Int}{n:Nat}(r:RP h v z n)(u:Gw h a):RP a v z n:=by
 obtain ⟨A,c,B,d,h1,f,i,j,e⟩:=r;exact ⟨A,c,B,d,h1,f,i,j.gw u,e.gw u⟩
theorem RQ.gw {h a:Hp}{v:Value}{q:Rat}(r:RQ h v q)(u:Gw h a):RQ a v q:=RP.gw r u
theorem RN.trim {h:Hp}{A:Z9}{l:List Nat}{n m a:Nat}(c:Ld l)(e:ai 4294967296 l=n)(f:l.length=m)(i:m<=a)(s:SlO 1 az 0 h A l):RN h (.slice A (tl l m) a) n:=by
 subst f;have d:=mB c e;have:=iq l l.length;refine ⟨A,a,by rw[d],by omega,?_⟩;rw[se c e];exact s.take _
theorem sn {h:Hp}{p b:Bool}{n a:Nat}{A:Z9}(c:b=(p && decide (0<n)))(e:(lim n).length<=a)(d:SlO 1 az 0 h A (lim n)):RI h (.agg #[.bool b,.slice A (lim n).length a]) (bA p n):=by
 subst c;refine ⟨A,a,?_,?_,?_⟩
 ·rw[jN,fu]
 ·rw[fu];exact e
 ·rw[fu];exact d
theorem Cv {l:List Nat}{m:Nat}(h:0<m)(h0:l.getD (m-1) 0=0):tl l m=tl l (m-1):=by
 obtain ⟨k,rfl⟩:∃ k,m=k+1:=⟨m-1,by omega⟩;rw[k9,if_pos (by simpa using h0)];rfl
theorem Ac {b:Nat}{z:List Nat}{i c c' s t X:Nat}(hi:i<z.length)(h0:z.getD i 0=0)(inv:ai b z+b^i*c=X)(e:s+b*c'=c+t):ai b (z.set i s)+b^(i+1)*c'=X+b^i*t:=by
 have h1:=cH b s hi;rw[h0,Ls,yh] at h1
 have a:=congrArg (b^i * ·) e
 simp only[Lm] at a
 rw[HA,Ln,h1]
 omega
theorem tI {b:Nat}{z:List Nat}{c v:Nat}(inv:ai b z+b^z.length*c=v)(h:v<b^z.length):ai b z=v:=by
 rcases Aw c with hc|hc
 ·subst hc;rw[Ls,yh] at inv;exact inv
 ·have:b^z.length*1<=b^z.length*c:=Lz _ hc
  omega
theorem qK {l:List Nat}{k x:Nat}(hk:k<l.length)(h:∀ i,k<=i->l.getD i 0=0):∀ i,k+1<=i->(l.set k x).getD i 0=0:=fun i hi=>by rw[bC hk,if_neg oM];exact h i oM
theorem Cf {b:Nat}{z:List Nat}{x y c:Nat}(a:Dg b z)(inv:ai b z+y=x+b^z.length*c)(d:y<=x):ai b z=x-y:=by
 have h1:=bL a
 rcases Aw c with hc|hc
 ·subst hc;rw[Ls,yh] at inv;omega
 ·have:b^z.length*1<=b^z.length*c:=Lz _ hc
  omega
theorem Dm {b:Nat}{z y x:List Nat}{i c c' s:Nat}(hi:i<z.length)(h0:z.getD i 0=0)(inv:ai b z+ai b (y.take i)=ai b (x.take i)+b^i*c)(e:s+y.getD i 0+c=x.getD i 0+b*c') :
  ai b (z.set i s)+ai b (y.take (i+1))=ai b (x.take (i+1))+b^(i+1)*c':=by
 have h1:=cH b s hi;rw[h0,Ls,yh] at h1
 have a:=congrArg (b^i * ·) e
 simp only[Lm] at a
 rw[aF,aF,HA,Ln,h1]
 omega
theorem BV {x y c t:Nat}(e:x<4294967296)(d:y<4294967296)(f:c<=1)(a:t=((x+(18446744073709551616-y))%18446744073709551616+(18446744073709551616-c))%18446744073709551616):t%4294967296+y+c=x+4294967296*(t/9223372036854775808)/\t/9223372036854775808<=1:=by
 subst a
 omega
theorem rR {r x:Nat}(a:x<4294967296):r*4294967296 ||| x=r*4294967296+x:=by
 have:=LY (i:=32) (b:=x) oM r;rw[H1];exact this.symm
theorem vu {r x d:Nat}(a:0<d)(hr:r<d)(c:x<4294967296)(e:d<4294967296) :
  (r*4294967296+x)/d%4294967296=(r*4294967296+x)/d/\r*4294967296+x=d*((r*4294967296+x)/d)+(r*4294967296+x)%d/\(r*4294967296+x)%d<d:=by
 refine ⟨z2 ?_,(LR _ _).symm,z6 _ a⟩;rw[L4 a];have h1:(r+1)*4294967296<=d*4294967296:=zh _ hr;rw[H1]
 omega
theorem B0 {b:Nat}{l z:List Nat}{m d r a q X:Nat}(j:0<m)(f:m-1<z.length)(h0:z.getD (m-1) 0=0)(inv:X=d*ai b z+(b^m*r+ai b (l.take m)))(e:r*b+l.getD (m-1) 0=d*q+a) :
  X=d*ai b (z.set (m-1) q)+(b^(m-1)*a+ai b (l.take (m-1))):=by
 obtain ⟨k,rfl⟩:∃ k,m=k+1:=⟨m-1,by omega⟩;rw[L5] at *
 have h1:=cH b q f;rw[h0,Ls,yh] at h1
 have c:=congrArg (b^k * ·) e
 simp only[Lm] at c
 rw[inv,h1,aF,HA,Lm];have i:b^k*(r*b)=b^k*b*r:=by rw[H1 r b,Ln]
 have h:b^k*(d*q)=d*(b^k*q):=by ac_rfl
 rw[i,h] at c
 omega
theorem x8 (k:Nat):(2:Nat)^k=4294967296^(k/32)*2^(k%32):=by
 have:k=32*(k/32)+k%32:=by omega
 conv=>lhs;rw[this,Ly,LB]
theorem JJ {x p c:Nat}(f:p<32)(e:x<4294967296)(d:c<2^p) :
  (c ||| x*2^p%18446744073709551616)=c+x*2^p/\c+x*2^p<18446744073709551616/\(c+x*2^p)/4294967296<2^p:=by
 have h0:2^p<=2^31:=Lw kD oM;have h1:x*2^p<=4294967295*2^p:=zh _ oM;have a:x*2^p<18446744073709551616:=by omega
 refine ⟨?_,by omega,?_⟩
 ·rw[z2 a];exact gN p d
 ·rw[L4 kD];omega
theorem xS {b:Nat}{l:List Nat}{i c P Q s x:Nat}{a:List Nat}(j:0<b)(inv:ai b l+b^l.length*c=b^Q*(P*ai b (a.take i)))(f:l.length=Q+i)(e:s=c+x*P)(d:x=a.getD i 0) :
  ai b (l++[s%b])+b^(l++[s%b]).length*(s/b)=b^Q*(P*ai b (a.take (i+1))):=by
 have h:b^l.length*s=b^l.length*(s%b)+b^l.length*(b*(s/b)):=by rw[<-Lm,Mc]
 have o:b^l.length*s=b^l.length*c+b^Q*(P*(b^i*x)):=by
  rw[e,Lm,f,Ly]
  congr 1
  ac_rfl
 rw[cO,y5,aF,<-d,Lm P,Lm (b^Q),<-inv]
 show _+b^l.length*(s%b+b*0)+b^(l.length+1)*_=_
 rw[Ls,yh,HA,Ln]
 omega
theorem Ld.app {l:List Nat}(h:Ld l){x:Nat}(a:x<4294967296):Ld (l++[x]):=Dg.append h (Dg.one a)
theorem wd {a n q m p:Nat}(h:a<4294967296^n)(f:p<=32)(d:m=q+(n+1)):a*(4294967296^q*2^p)<4294967296^m:=by
 have h1:(2:Nat)^p<=4294967296:=eb (Lw kD f) (ea (2^32));subst d;rw[Ly,HA];have c:a*2^p<4294967296^n*4294967296:=ek (L8 h (Lv p)) (Lz _ h1);have e:a*(4294967296^q*2^p)=4294967296^q*(a*2^p):=by ac_rfl
 rw[e];exact LK c (LF kD)
theorem Jp {x y p:Nat}(B:p<32)(u:x<4294967296)(o:y<4294967296) :
  (x ||| y*4294967296%18446744073709551616)=x+y*4294967296/\x+y*4294967296<18446744073709551616 /\
  2^p*((x+y*4294967296)/2^p%4294967296)+x%2^p=x+4294967296*(y%2^p):=by
 have h0:2^p*2^(32-p)=4294967296:=by rw[<-Ly,show p+(32-p)=32 by omega]
 have c:=Lv p;refine ⟨?_,by omega,?_⟩
 ·rw[z2 oM]
  exact gN 32 oM
 ·-- y=2^p*y1+y0
  have h:=LR y (2^p);have i:=LR x (2^p)
  generalize y/2^p=y1 at *
  generalize hy0:y%2^p=y0 at *
  generalize hxq:x/2^p=x1 at *
  generalize hx0:x%2^p=x0 at *
  have f:x0<2^p:=by rw[<-hx0];exact z6 _ c
  have d:y0<2^p:=by rw[<-hy0];exact z6 _ c
  have j:x1<2^(32-p):=by
   refine Mh (a:=2^p) ?_
   omega
  have e:x+y*4294967296=2^p*(x1+2^(32-p)*(2^p*y1+y0))+x0:=by
   rw[<-i,<-h,Lm,<-Ln (2^p) (2^(32-p)),h0]
   generalize 2^p*y1+y0=Y
   omega
  rw[e,Mf c,Hi f,yh]
  have l:x1+2^(32-p)*(2^p*y1+y0)=(x1+2^(32-p)*y0)+4294967296*y1:=by
   rw[Lm,<-Ln,H1 (2^(32-p)) (2^p),h0];omega
  have z:2^(32-p)*y0+2^(32-p)<=4294967296:=by
   have:2^(32-p)*(y0+1)<=2^(32-p)*2^p:=Lz _ d;rw[H1 (2^(32-p)) (2^p),h0,Lm] at this
   omega
  rw[l,Mg,z2 oM,Lm,<-Ln,h0]
  omega
theorem Gj {b:Nat}{l X:List Nat}{j P d a:Nat}(i:l.length=j)(inv:P*ai b l+a=ai b (X.take j)+b^j*(X.getD j 0%P))(h:P*d+X.getD j 0%P=X.getD j 0+b*(X.getD (j+1) 0%P)) :
  P*ai b (l++[d])+a=ai b (X.take (j+1))+b^(j+1)*(X.getD (j+1) 0%P):=by
 have c:ai b (l++[d])=ai b l+b^j*d:=by
  rw[cO,i];show _+b^j*(d+b*0)=_;rw[Ls,yh]
 have o:=congrArg (b^j * ·) h
 simp only[Lm] at o
 rw[c,aF,HA,Lm];have f:P*(b^j*d)=b^j*(P*d):=by ac_rfl
 have e:b^j*b*(X.getD (j+1) 0%P)=b^j*(b*(X.getD (j+1) 0%P)):=by ac_rfl
 rw[f,e]
 omega
theorem FI {a k:Nat}{l:List Nat}(i:(lim a).length<=k/32+l.length)(inv:2^(k%32)*ai 4294967296 l+((lim a).drop (k/32)).getD 0 0%2^(k%32)=ai 4294967296 (((lim a).drop (k/32)).take l.length)+4294967296^l.length*(((lim a).drop (k/32)).getD l.length 0%2^(k%32))):ai 4294967296 l=a/2^k:=by
 have c:((lim a).drop (k/32)).length<=l.length:=by rw[LU];omega
 rw[LO c,ck c,Me,Ls,yh] at inv
 have f:ai 4294967296 ((lim a).drop (k/32))=a/4294967296^(k/32):=by
  rcases cD (lim a).length (k/32) with h|h
  ·rw[Mm oM,Hi]
   ·rfl
   ·exact ek (cB a) (Lw kD oM)
  ·have e:=bQ 4294967296 (l:=lim a) (k:=k/32) h
   rw[dd] at e
   have h1:=bL (Dg.take (Ld.lim a) (k/32));rw[Lp,Lq h] at h1
   have d:a/4294967296^(k/32)=(ai 4294967296 ((lim a).take (k/32))+4294967296^(k/32)*ai 4294967296 ((lim a).drop (k/32)))/4294967296^(k/32):=by rw[<-e]
   rw[d,LD _ _ (LF kD),Hi h1,y9]
 rw[x8 k,<-LH,<-f,<-inv,Mf (Lv _),Hi (z6 _ (Lv _)),yh]
section bld
variable {P:Program}{n:Nat}{N R:Po}{X:Nat->Po}{ops:Array Oper}{k:Nat}{Γ:cl}{w0:World}{h0:Hp}{B:List Bx}{Rs:List Rw}{F:List (Hp->Prop)}{wB:World}{hB:Hp}
theorem SS.liftJ (s:SS w0 h0 wB hB B Rs F){w:World}(x:Ext wB w):∃ c,SS w0 h0 w c B Rs F/\∀ b,wB.heap.size<=b->b<w.heap.size->c[b]?=some bg:=by
 have f:=x.size;have h:=s.g.size;refine ⟨hB++s5 (w.heap.size-wB.heap.size) bg,s.step ⟨x,⟨by simp,fun b a=>tf a⟩,⟨by simp;omega,fun b=>?_⟩⟩,fun b h1 d=>?_⟩
 ·rcases cD b hB.size with a|a
  ·rw[tf a]
   have e:=Below.block x b oM
   rcases s.g.blk b with h1|h1
   ·exact .inl (h1.trans e.symm)
   ·exact .inr h1
  ·rw[Ab a,Af]
   by_cases hl:b<w.heap.size
   ·right;rw[if_pos oM]
   ·left;rw[if_neg oM,dS oM]
 ·rw[Ab oM,Af,if_pos oM]
theorem Lj (t:Nat)(ty:TypeId)(vs:List Value){w:World}{h:Hp}(s:SS w0 h0 w h B Rs F)(H:∀ w',Ext w w'->w.heap.size<=w'.heap.size->w'.heap[w.heap.size]?=some (.cells vs.toArray ty (0,0))->LG P n N R X ops (k+1) ((t,.pointer (some ⟨w.heap.size,0,none⟩))::Γ) w')(a:cL ops Γ k t n=true:=by kernel_rfl)
  (hr:(execOp (ev Γ) (am ops k)).run P w=.ok (.value (.pointer (some ⟨w.heap.size,0,none⟩))) (w.alloc (.cells vs.toArray ty (0,0))):=by kernel_rfl):LG P n N R X ops k Γ w :=
 LG.val t _ (w.alloc (.cells vs.toArray ty (0,0))) (bM a).1 (bM a).2 hr (H _ ((Ext.refl _).alloc _) (by rw[heap_alloc];simp) (by rw[heap_alloc];simp))
theorem KP (t:Nat){f:FuncId}{args:Array Value}{V:Value}{Q:World->Prop}{w:World}(s:SS w0 h0 wB hB B Rs F)(x:Ext wB w)(c:Calls P f args w fun e w'=>e=.returned V/\(Q w'/\Below wB.heap.size w w'))(H:∀ w' a,SS w0 h0 w' a B Rs F->Ext wB w'->Q w'->LG P n N R X ops (k+1) ((t,V)::Γ) w')(d:cL ops Γ k t n=true:=by kernel_rfl)
  (hr:(execOp (ev Γ) (am ops k)).run P w=.ok (.enter f args) w:=by kernel_rfl):LG P n N R X ops k Γ w :=
 LG.call t f args (bM d).1 (bM d).2 hr (c.mono fun e w' ⟨j,q,b⟩=>by
  have h:Ext wB w':=Below.trans x b;obtain ⟨a,i,_⟩:=s.liftJ h;exact ⟨V,j,H w' a i h q⟩)
def Dd (a b:Nat):List Nat:=(List.range b).filter (fun c=>decide (a<=c))
theorem l7 {a b c:Nat}:c∈Dd a b↔a<=c/\c<b:=by
 unfold Dd;rw[List.mem_filter,o0];simp;omega
theorem A.takeK {M:Ms}{Q:Exit->Act->World->Prop}{k0:Nat}{L:Array Bool}{a:Act}{w:World}{i:Nat}{o:Oper}{v:Value}{S:World->Prop}
  (hi:ops[i]?=some o)(hk:i<k0)(f:Region.noSelect ops=true)(hf:Region.free .any ops L i=true)(hr:i∈Region.ready .any ops L)(D:∀ c a w,¬Q (.panic c) a w)
  (p:∀ w w',S w->Mo M.l w w'->S w')(B:S w)(y:YieldsIf P ops S o v a)
  (d:(∀ w,S w)\/(∀ w w',S w->Tl M w w'->S w')\/∀ j h,ops[j]?=some h->k0<=j->j≠i->∃ e∈h.after,Region.binds .any e=true/\e.on=i)
  (H:A M P ops Q k0 (L.setIfInBounds i true) (a.put o.dst v) w):A M P ops Q k0 L a w:=by
 unfold A at *
 rw[fS hr]
 exact mM hi (Region.noSelect_spec f) (fun c a w z=>absurd z (D _ _ _)) p _ _ _ _
  (fun j h C x u=>Region.free_spec hi hf j h C x u) d hr y B H hk
variable {M:Ms}{k0:Nat}{L:Array Bool}{w:World}
theorem aV (i t:Nat)(v:Value)(H:AG M P n N R X ops k0 (L.setIfInBounds i true) ((t,v)::Γ) w)(j:cE n ops k0 [] L Γ i t=true:=by kernel_rfl)(hv:∀ w,(execOp (ev Γ) (am ops i)).run P w=.ok (.value v) w:=by intro _;kernel_rfl):AG M P n N R X ops k0 L Γ w:=by
 obtain ⟨d,h⟩:=jt j;rw[i2] at d
 have c:=dX d.1;intro a e;have f:=e.exec (Region.noSelect_spec c.sel i _ · · c.get) d.2;refine A.takeK (v:=v) (S:=fun _=>True) c.get c.lt c.sel c.free c.ready (fun _ _ _ l=>l) (fun _ _ _ _=>trivial) trivial (.inl ⟨e.want h,fun w _=>by rw[f];exact hv w⟩) (.inl fun _=>trivial) ?_;rw[c.dst];exact H _ (e.put c.tn v)
theorem aL (i t:Nat)(v:Value)(hr:∀ w',Mo M.l w w'->(execOp (ev Γ) (am ops i)).run P w'=.ok (.value v) w')(H:AG M P n N R X ops k0 (L.setIfInBounds i true) ((t,v)::Γ) w)(u:Cn n ops k0 [] L Γ i t=true:=by kernel_rfl):AG M P n N R X ops k0 L Γ w:=by
 obtain ⟨d,p⟩:=iG u;rw[i2,i2] at d
 obtain ⟨⟨e,j⟩,h⟩:=d;have c:=dX e;intro a f;have y:=f.exec (Region.noSelect_spec c.sel i _ · · c.get) j;refine A.takeK (v:=v) (S:=fun w'=>Mo M.l w w') c.get c.lt c.sel c.free c.ready (fun _ _ _ x=>x) (fun _ _ h1 o=>h1.trans o) (Mo.refl _ _) (.inl ⟨f.want p,fun w' z=>by rw[y];exact hr w' z⟩) (.inr (.inr (jJ h))) ?_;rw[c.dst];exact H _ (f.put c.tn v)
theorem aH (i t:Nat)(v:Value){h:Hp}{b o:Nat}{cs:List Value}(s:SS w0 h0 w h B Rs F)(a:Seg h b o cs)(H:AG M P n N R X ops k0 (L.setIfInBounds i true) ((t,v)::Γ) w)(hM:∀ b∈M.l,h[b]?=some bg)(e:Cn n ops k0 [] L Γ i t=true:=by kernel_rfl)(d:bX P (execOp (ev Γ) (am ops i)) cs=some (.value v,lg b o cs.length):=by kernel_rfl):AG M P n N R X ops k0 L Γ w :=
 aL i t v (fun _ c=>Seg.runM a s.g hM c d) H e
def Ix (ops:Array Oper)(k0:Nat)(L:Array Bool)(i:Nat):Bool:=decide (i<ops.size) && decide (i<k0) && Region.noSelect ops && (Region.ready .any ops L == [i])
theorem aC (i t:Nat){f:FuncId}{args:Array Value}(c:Calls P f args w fun e w'=>∃ v,e=.returned v/\Mo M.l w w'/\AG M P n N R X ops k0 (L.setIfInBounds i true) ((t,v)::Γ) w')(h:(Ix ops k0 L i && aY Γ (am ops i) && ((am ops i).dst == some t) && decide (t<n))=true:=by kernel_rfl)(z:bh ops Γ (am ops i)=some true:=by kernel_rfl)
  (hr:(execOp (ev Γ) (am ops i)).run P w=.ok (.enter f args) w:=by kernel_rfl):AG M P n N R X ops k0 L Γ w:=by
 simp only[i2,decide_eq_true_eq,beq_iff_eq] at h
 obtain ⟨⟨⟨h1,y⟩,x⟩,B⟩:=h
 unfold Ix at h1
 simp only[i2,decide_eq_true_eq,beq_iff_eq] at h1
 have u:=bG (ops:=ops) h1.1.1.1;intro a d;refine A.intro (fun h0=>by rw[h1.2] at h0;cases h0) (fun j p=>?_);rw[h1.2,List.mem_singleton] at p
 subst p;refine OpR.wpOp (R:=fun v w'=>Mo M.l w w'/\AG M P n N R X ops k0 (L.setIfInBounds j true) ((t,v)::Γ) w') u ⟨d.want z,.inr (.inr ⟨f,args,?_,c⟩)⟩ (fun v w' o=>⟨Rl.mo h1.1.1.2 o.1,?_⟩)
 ·rw[d.exec (Region.noSelect_spec h1.1.2 j _ · · u) y];exact hr
 ·rw[x];exact o.2 _ (d.put B v)
theorem wn {id:Nat}(M:Ms)(k0:Nat)(d:P.follows .mixedOrders=true)(H:AG M P n N R X ops k0 (s5 ops.size false) Γ w.drew):CG P n N R X (.region id ops true) Γ w:=by
 intro a c;refine wp_region_any d ?_;have h1:=H a c
 unfold A at h1
 rw[jm] at h1
 exact lz _ _ _ _ _ _ _ _ _ h1
theorem SS.drew {h:Hp}(s:SS w0 h0 w h B Rs F):SS w0 h0 w.drew h B Rs F:=s.step (Up.drew (Up.refl s.g))
theorem xp {K:Nat}{w w':World}(x:Below K w w'):Mo (Dd K w.heap.size) w w':=⟨x.os,x.tape,x.output,x.size,fun c a hn=>by
 rcases cD c K with h|h
 ·exact Below.block x c h
 ·exact absurd (l7.2 ⟨h,a⟩) hn⟩
theorem rm {K:Nat}{T e:TypeId}{b:Nat}{bs:List Value}{w w1:World}(h:Lib.IsBuilder T e K b bs w)(x:Ext w w1):Lib.IsBuilder T e K b bs w1:=by
 have key:∀ p,Lib.BuilderAt T e K b p bs w->Lib.BuilderAt T e K b p bs w1:=by
  rintro p ⟨h1,v,a,f,j⟩
  have d:b<w.heap.size:=by
   rcases cD b w.heap.size with h'|h'
   ·exact h'
   ·rw[dS h'] at a;cases a
  exact ⟨h1,v,(Below.block x b d).trans a,eD f (fun c i=>Below.block x c (js f i)),j⟩
 rcases h with h|h
 ·exact .inl (key _ h)
 ·exact .inr (key _ h)
theorem aX (i t:Nat)(A:Z9)(len a sz:Nat)(x:Int)(j:Nat)(d:A=some ⟨aB A,aO A,none⟩)(H:AG M P n N R X ops k0 (L.setIfInBounds i true) ((t,.pointer (some ⟨aB A,aO A+j*sz,none⟩))::Γ) w)(f:cE n ops k0 [] L Γ i t=true:=by kernel_rfl)(e:CC P (ev Γ) (am ops i)=some (.slice A len a,.int .i64 x,sz):=by kernel_rfl)(hk:x=j:=by omega)(c:j<len:=by omega):AG M P n N R X ops k0 L Γ w :=
 aV i t _ H f (fun w=>ia e d hk c w)
theorem rZ {P:List UInt8}{x m:Nat}(a:m<8):Lib.byteCells (P++(b8 x).take m)++[.int .u8 ((x/2^(8*m)%256:Nat):Int)]=Lib.byteCells (P++(b8 x).take (m+1)):=by
 have e:(b8 x).take (m+1)=(b8 x).take m++[UInt8.ofNat (x/256^m)]:=by
  rw[List.take_add_one]
  congr 1
  unfold b8
  rw[LW,LX a];rfl
 rw[e,<-List.append_assoc]
 unfold Lib.byteCells
 rw[List.map_append (l₁:=P++_)]
 congr 1
 show _=[Value.int .u8 ((x/256^m%256:Nat):Int)]
 rw[LB]
theorem wc {l:List Nat}{k:Nat}(hk:k<l.length):((l.take k).flatMap b8)++(b8 (l.getD k 0)).take 8=(l.take (k+1)).flatMap b8:=by
 have e:(b8 (l.getD k 0)).take 8=b8 (l.getD k 0):=LO (by rw[kg];omega);rw[iN hk,List.flatMap_append,e];simp
theorem vE {l:List Nat}{k m x:Nat}(hk:k<=l.length)(a:m<=8)(c:l.length<=1099511627776):(Lib.byteCells ((l.take k).flatMap b8++(b8 x).take m)).length+1<=140737488355328:=by
 rw[Lib.byteCells_length,y5,oa,Lp,Lp,kg];omega
theorem DG {l:List Nat}(h:tl l l.length=0):Value.agg #[.int .u64 0,.string ⟨#[]⟩]=nv (aA l):=by
 have e:=jR 18446744073709551616 l l.length (ea _);rw[h,yY] at e
 have:aA l=0:=e.symm;rw[this];rfl
theorem Ho {l:List Nat}(d:Wd l)(h:tl l l.length=1):Value.agg #[.int .u64 (l.getD 0 0:Nat),.string ⟨#[]⟩]=nv (aA l):=by
 have e:=jR 18446744073709551616 l l.length (ea _);have a:=iq l l.length;rw[h,yY,aF] at e
 have c:aA l=l.getD 0 0:=by show ai _ l=_;rw[<-e];simp[ai]
 rw[c];have:=d.get 0
 unfold nv
 rw[mm this,mQ this]
theorem DH {l:List Nat}(c:Wd l)(h:0<tl l l.length):Value.agg #[.int .u64 (l.getD 0 0:Nat),.string ⟨(((l.drop 1).take (tl l l.length-1)).flatMap b8).toArray⟩]=nv (aA l):=by
 have e:=ox c;have a:((l.drop 1).take (tl l l.length-1))=(wds (aA l)).drop 1:=by rw[e,List.drop_take]
 unfold nv
 rw[H8 (n:=aA l) (by rw[a]),rx,e,jD h]
end bld
section
variable {P:Program}{Γ:cl}{o:Oper}
theorem eg {f:FuncId}{args:Array Value}{v:Value}{w:World}(h:(execOp (ev Γ) o).run P w=(callFunc f args).run P w)(k:(callFunc f args).run P w=.ok (.value v) w):(execOp (ev Γ) o).run P w=.ok (.value v) w:=h.trans k
end
theorem fa (x y c:Nat)(d:x<18446744073709551616)(a:y<18446744073709551616)(f:c<=1):∃ s c':Nat,s+18446744073709551616*c'=x+y+c/\s<18446744073709551616/\c'<=1/\∀ w,(callFunc 206 #[.int .u64 x,.int .u64 y,.int .u64 c]).run Tryz.prog w=.ok (.value (.tuple #[.int .u64 s,.int .u64 c'])) w:=by
 refine ⟨(x+y+c)%18446744073709551616,(x+y+c)/18446744073709551616,by omega,by omega,by omega,fun w=>?_⟩;rw[run_callFunc_extern Tryz.func206 kR kR kR (e:=add64Entry) kR,run_add64 x y c oM oM oM oM]
 simp only[Result.andThen]
 congr 5<;>omega
theorem jA (x y b:Nat)(f:x<18446744073709551616)(d:y<18446744073709551616)(c:b<=1):∃ s a:Nat,s+y+b=x+18446744073709551616*a/\s<18446744073709551616/\a<=1/\∀ w,(callFunc 207 #[.int .u64 x,.int .u64 y,.int .u64 b]).run Tryz.prog w=.ok (.value (.tuple #[.int .u64 s,.int .u64 a])) w:=by
 refine ⟨(x+18446744073709551616-y-b)%18446744073709551616,if x<y+b then 1 else 0,by split<;>omega,by omega,by split<;>omega,fun w=>?_⟩;rw[run_callFunc_extern Tryz.func207 kR kR kR (e:=sub64Entry) kR,run_sub64 x y b c]
 rfl
theorem Ret.of_same {f:FuncId}{args:Array Value}{V:Value}{P:Program}{w:World}{h:Hp}(g:G w h)(c:Calls P f args w fun e w'=>e=.returned V/\w'=w):Calls P f args w (Ret w h fun v _=>v=V) :=
 c.mono fun e w' ⟨d,a⟩=>by subst a;exact ⟨V,h,d,Up.refl g,rfl⟩
theorem oP (x y:Nat)(c:x<18446744073709551616)(a:y<18446744073709551616)(w:World)(h:Hp)(g:G w h):CR 205 #[uV x,uV y] w h (fun v _=>∃ hi lo:Nat,v=.tuple #[uV hi,uV lo]/\lo+18446744073709551616*hi=x*y/\lo<18446744073709551616/\hi<18446744073709551616/\hi<=18446744073709551614):=by
 refine (Ret.of_same g (Tryz.bits_Mul64 x y c a w)).mono ?_;rintro e w' ⟨v,f,d,u,rfl⟩;have h1:x*y<=18446744073709551615*18446744073709551615:=Ma oM oM;exact ⟨_,f,d,u,x*y/18446744073709551616,x*y%18446744073709551616,rfl,by omega,by omega,by omega,by omega⟩
theorem nU {n:Nat}(h:n<18446744073709551616):Lib.bitLen n=nb n:=by
 rcases Aw n with h0|h0
 ·subst h0;rfl
 ·obtain ⟨a,e,f⟩:=co h0
  have c:nb n<=64:=kF (k:=64) h;have:=Lib.bitLen_shift (nb n-1) n a h
  have h1:n/2^(nb n-1)=1:=by
   have:n<2^(nb n-1)*2:=by rw[<-HA];rwa [show (nb n-1).succ=nb n by omega]
   refine L6 oM oM
  rw[h1] at this
  have d:Lib.bitLen 1=1:=by decide
  omega
theorem Bk (x:Nat)(a:x<18446744073709551616)(w:World)(h:Hp)(g:G w h):CV 121 #[uV x] w h (nV (nb x)):=by
 have:=Ret.of_same g (Tryz.bits_Len64 x w oM oM);rw[z7,nU a] at this
 exact this
theorem Ez (x:Nat)(a:x<18446744073709551616)(w:World)(h:Hp)(g:G w h):CV 202 #[uV x] w h (nV (64-nb x)):=by
 have:=Ret.of_same g (Tryz.bits_LeadingZeros64 x w oM oM);have c:nb x<=64:=kF (k:=64) a;rw[z7,nU a,show (64:Int)-(nb x:Nat)=((64-nb x:Nat):Int) by omega] at this
 exact this
theorem jI {a b:Nat}(ha:a<18446744073709551616)(d:b<18446744073709551616):a*b<=340282366920938463426481119284349108225:=by
 have h1:a<=18446744073709551615:=by omega
 have c:b<=18446744073709551615:=by omega
 exact Ma h1 c
theorem jj (A:Z9)(c:Nat)(l:List Nat)(m:Nat)(F:l.length=m)(C:l.length<=1099511627776)(D:l.length<=c)(w:World)(h:Hp)(g:G w h)(z:S3 A l h):CV 66 #[.slice A m c] w h (.slice A (tl l m) c):=by
 have a:=((sS g).aS z);refine go Tryz.func66 [(0,qS A m c)] rfl (aa a ac (aG (lL a [.c,.v (nV m),.c] (ah (kZ ?_)))));refine bH _ (CG.loop (fun o Γ x=>∃ (n:Nat)(h_:Hp),o=n/\Γ=[(0,qS A m c),(2,sZ),(3,nV n)]/\SS w h x h_ [] [] [S3 A l]/\n<=m/\tl l m=tl l n) _ ⟨m,h,rfl,rfl,a.to _ _,nR _,rfl⟩ ?_);rintro _ _ w1 ⟨n,y,u,rfl,a,hn,p⟩;refine cQ (aa a ac ?_);cases d:(decide ((0:Int)<(n:Int)))
 .
  have i:=oF d;refine lB 7 d (lL a ac (lG 9 ?_));refine lG 10 (lG 11 (lG 12 (lG 13 (lG 14 (lL a [.v qF] (ag (CG.exit ?_)))))))
  show CG _ _ _ _ _ _ _ _
  refine aa a ax (lT 20 A m c 1 (n:Nat) n ?_);exact lL a ac (ae a [] (qS A n c) (by rw[p,og oM]))
 have i:=oT d;refine lB 7 d (lL a cJ (bv 11 ((n:Nat)-1) (n-1) ?_));refine lX 12 A m c 1 (n-1:Nat) (n-1) ((a.f.1).ok oM) (lH 13 (mW (l.getD (n-1) 0)) a ((a.f.1).el (n-1) oM) ?_);cases e:(((l.getD (n-1) 0:Nat):Int) == (0:Int))
 .
  have j:=aj e;refine lB 14 e (lL a [.v qF] (ag (CG.exit ?_)))
  show CG _ _ _ _ _ _ _ _
  refine aa a ax (lT 20 A m c 1 (n:Nat) n ?_);exact lL a ac (ae a [] (qS A n c) (by rw[p,og oM]))
 have j:=eq_of_beq e;refine lB 14 e (lL a [.v qT] (ak (cK (kZ (kQ (lL a ac (bv 17 ((n:Nat)-1) (n-1) ?_)))))));refine lL a ac (lD ?_);intro H B;refine ⟨_,_,?_,⟨n-1,y,rfl,rfl,a.to _ _,oM,(by rw[p];exact Cv oM oM)⟩,B.to _ kR⟩
 omega
theorem vD {h:Hp}{A:Z9}{n a:Nat}(hn:n<18446744073709551616)(c:2<=a)(s:SlO 1 az 0 h A [n%4294967296,n/4294967296]):RN h (.slice A (tl [n%4294967296,n/4294967296] 2) a) n :=
 RN.trim (Dg.cons oM (Dg.one oM)) (by simp only[ai];omega) rfl c s
theorem ot (n:Nat)(hn:n<18446744073709551616)(w:World)(h:Hp)(g:G w h):CR 33 #[mV n] w h (fun v h=>RN h v n):=by
 have a:=sS g;refine go Tryz.func33 [(0,mV n)] rfl (aa a ac (aG (lL a ac (lV 4 (mW (n%4294967296)) ?_ (hr:=rT ((n:Int)) kR (gU _))))));refine lL a ac (lV 6 (mV (n/4294967296)) ?_ (hr:=aI (n:=Mt (n:Int) 4294967296) kR (eh _ 4294967296)));refine lV 7 (mW (n/4294967296)) ?_ (hr:=rT (((n/4294967296:Nat):Int)) kR (o4 oM oM));refine lR 8 139 2 ([mW (n%4294967296),mW (n/4294967296)]) a (fun c w2 e a=>?_);replace a:=a.aS (SlO.of_flat (sz:=1) (f:=az) (d:=0) (l:=[(n%4294967296),(n/4294967296)]) (fun _=>rfl) a.f.1);exact aq 9 a (jj (sB c) 2 ([(n%4294967296),(n/4294967296)]) 2 (by first|rfl|omega|assumption) (by simp) (by simp) _ _ a.g a.f.1) (fun j i a=>lL a ac (ae a [] (qS (sB c) (tl ([(n%4294967296),(n/4294967296)]) 2) 2) (vD hn oM a.f.1)))
theorem Kp (n:Nat)(A:Z9)(a:Nat)(i:(lim n).length<=a)(w:World)(h:Hp)(g:G w h)(e:S3 A (lim n) h):CR 65 #[.bool false,.slice A ((lim n).length) a] w h (fun v h=>RI h v (bA false n)):=by
 have d:=((sS g).aS e);refine go Tryz.func65 [(0,qF),(1,qS A ((lim n).length) a)] rfl (aD (lA 4 26 ([qF,sZ]) d (fun l w2 o d=>aG (lL d ax (lG 7 ?_)))));exact lG 8 (lG 9 (lL d [.v qF,.c,.v (.agg #[qF,qS A ((lim n).length) a])] (lP 0 0 ([qF,qS A ((lim n).length) a]) d (fun j d=>ae d [(0,0,2)] (.agg #[qF,qS A ((lim n).length) a]) (sn rfl i d.f.1)))))
theorem J0 (n:Nat)(A:Z9)(a:Nat)(j:(lim n).length<=a)(w:World)(h:Hp)(g:G w h)(l:S3 A (lim n) h):CR 65 #[.bool true,.slice A ((lim n).length) a] w h (fun v h=>RI h v (bA true n)):=by
 have d:=((sS g).aS l);have y:=@bR n;refine go Tryz.func65 [(0,qT),(1,qS A ((lim n).length) a)] rfl (aD (lA 4 26 ([qF,sZ]) d (fun o w2 p d=>aG (lL d [.c,.c,.c,.v (nV ((lim n).length))] ?_))));cases e:(decide ((0:Int)<(((lim n).length:Nat):Int)))
 .
  have i:=oF e;exact lB 9 e (lL d [.v qF,.c,.v (.agg #[qF,qS A ((lim n).length) a])] (lP 0 0 ([qF,qS A ((lim n).length) a]) d (fun x d=>ae d [(0,0,2)] (.agg #[qF,qS A ((lim n).length) a]) (sn (by simp only[Mu];first|(symm;exact decide_eq_true oM)|(symm;exact decide_eq_false oM)) j d.f.1))))
 have i:=oT e;exact lB 9 e (lL d [.v qT,.c,.v (.agg #[qT,qS A ((lim n).length) a])] (lP 0 0 ([qT,qS A ((lim n).length) a]) d (fun u d=>ae d [(0,0,2)] (.agg #[qT,qS A ((lim n).length) a]) (sn (by simp only[Mu];first|(symm;exact decide_eq_true oM)|(symm;exact decide_eq_false oM)) j d.f.1))))
theorem rI (p:Bool)(n:Nat)(A:Z9)(a:Nat)(d:(lim n).length<=a)(w:World)(h:Hp)(g:G w h)(c:S3 A (lim n) h):CR 65 #[.bool p,.slice A (lim n).length a] w h (fun v h=>RI h v (bA p n)):=by
 cases p
 ·exact Kp n A a d w h g c
 ·exact J0 n A a d w h g c
theorem sJ (z:Int)(h0:z<0)(h1 : -9223372036854775808<=z)(w:World)(h:Hp)(g:G w h):CR 32 #[iV z] w h (fun v h=>RI h v (bA true (ab z))):=by
 have a:=sS g;have hi:ab z<=9223372036854775808:=by unfold ab;omega
 refine go Tryz.func32 [(0,iV z)] rfl (aD (lA 2 26 ([qF,sZ]) a (fun B w2 C a=>ah (aa a ac ?_))));have ⟨c,i⟩:=dT (p:=(z:Int)<(0:Int)) oM;refine lB 4 c (ak (aa a ac (lV 6 (mV (18446744073709551616-ab z)) ?_ (hr:=rU (z) kR (by rw[IntKind.wrap_u64];unfold ab;omega)))));refine lV 7 (mV (ab z)) ?_ (hr:=rU ((0-((18446744073709551616-ab z:Nat):Int))) kR (by rw[IntKind.wrap_u64];omega));refine lC 8 a (ot (ab z) oM _ _ a.g) ?_;rintro _ D _ a ⟨x,u,rfl,d,e⟩;replace a:=a.aS e;refine lC 9 a (rI true (ab z) x u d _ _ a.g a.f.1) ?_;rintro _ _ _ a ⟨j,l,rfl,o,y⟩;replace a:=a.aS y;exact lP 0 0 ([.bool (af (bA true (ab z))),qS j ((lim (ab (bA true (ab z)))).length) l]) a (fun _ a=>ae a [(0,0,2)] (.agg #[.bool (af (bA true (ab z))),qS j ((lim (ab (bA true (ab z)))).length) l]) (⟨_,_,rfl,o,a.f.1⟩))
theorem rv (z:Nat)(h1:z<9223372036854775808)(w:World)(h:Hp)(g:G w h):CR 32 #[nV z] w h (fun v h=>RI h v (bA false z)):=by
 have a:=sS g;refine go Tryz.func32 [(0,nV z)] rfl (aD (lA 2 26 ([qF,sZ]) a (fun B w2 C a=>ah (aa a ac ?_))));have ⟨c,i⟩:=dF (p:=(z:Int)<(0:Int)) oM;refine lB 4 c (ag (cK (aa a ac (lV 11 (mV z) ?_ (hr:=rU ((z:Int)) kR (be oM oM))))));refine lC 12 a (ot z oM _ _ a.g) ?_;rintro _ D _ a ⟨x,u,rfl,d,e⟩;replace a:=a.aS e;refine lC 13 a (rI false z x u d _ _ a.g a.f.1) ?_;rintro _ _ _ a ⟨j,l,rfl,o,y⟩;replace a:=a.aS y;exact lP 0 0 ([.bool (af (bA false z)),qS j ((lim (ab (bA false z))).length) l]) a (fun _ a=>ae a [(0,0,2)] (.agg #[.bool (af (bA false z)),qS j ((lim (ab (bA false z))).length) l]) (⟨_,_,rfl,o,a.f.1⟩))
theorem sL (z:Int)(h0 : -9223372036854775808<=z)(h1:z<9223372036854775808)(w:World)(h:Hp)(g:G w h):CR 32 #[iV z] w h (fun v h=>RI h v z):=by
 rcases Int.lt_or_le z 0 with hz|hz
 ·have e:bA true (ab z)=z:=by unfold bA ab;simp;omega
  have:=sJ z hz h0 w h g;rw[e] at this
  exact this
 ·obtain ⟨n,rfl⟩:=Int.eq_ofNat_of_zero_le hz
  exact rv n oM w h g
theorem gZ (a:Nat)(A:Z9)(c:Nat)(V:(lim a).length<=c)(b:Nat)(D:Z9)(d:Nat)(Z:(lim b).length<=d)(J:(lim a).length<=4000000000)(Q:(lim b).length<=4000000000)(w:World)(h:Hp)(g:G w h)(K:S3 A (lim a) h)(H:S3 D (lim b) h):CV 64 #[.slice A ((lim a).length) c,.slice D ((lim b).length) d] w h (iV (bV a b)):=by
 have e:=(((sS g).aS K).aS H);refine go Tryz.func64 [(0,qS A ((lim a).length) c),(1,qS D ((lim b).length) d)] rfl (aa e ac (ah (aa e [.c,.v (nV ((lim a).length)),.c,.v (nV ((lim b).length))] ?_)));cases l:((((lim a).length:Nat):Int) != (((lim b).length:Nat):Int))
 .
  have u:=aW l;refine lB 10 l (ag (cK (cQ (aa e [.c,.v (nV ((lim a).length))] (lV 18 (iV ((((lim a).length:Nat):Int)-1)) ?_ (hr:=rS ((((lim a).length:Nat)-1)) kR ((gH oM oM).trans oM)))))));refine lL e ac (aZ ?_);refine bH _ (CG.loop (fun C Γ I=>∃ (m:Nat)(h_:Hp),C=m/\Γ=[(0,qS A ((lim a).length) c),(1,qS D ((lim b).length) d),(5,iV ((m:Int)-1))]/\SS w h I h_ [] [] [S3 D (lim b),S3 A (lim a)]/\m<=(lim a).length/\(lim a).length=(lim b).length/\(lim a).drop m=(lim b).drop m) _ ⟨(lim a).length,h,rfl,rfl,e.to _ _,nR _,oM,(by rw[Mm oM,Mm oM])⟩ ?_);rintro _ _ w2 ⟨m,U,L,rfl,e,W,p,i⟩;refine cQ (aa e ac ?_);cases j:(decide ((0:Int)<=((m:Int)-1:Int)))
  .
   have y:=oF j;refine lB 20 j (ag (CG.exit ?_))
   show CG _ _ _ _ _ _ _ _
   exact aa e ac (ae e [] (iV 0) (by rw[i7 (Eh (by obtain rfl:m=0:=oM;simpa using i))]))
  have y:=oT j;refine lB 20 j (ak (cK (cQ (kZ (cQ (cR 9 [] mixed e ar ?_))))));refine eV 0 23 (qS A ((lim a).length) c) (eV 1 24 (iV ((m:Int)-1)) (eX 2 25 A ((lim a).length) c 1 ((m:Int)-1) (m-1) ((e.f.2.1).ok oM) (eH 3 26 (mW ((lim a).getD (m-1) 0)) e ((e.f.2.1).el (m-1) oM) (eV 4 27 (qS D ((lim b).length) d) (eV 5 28 (iV ((m:Int)-1)) (eX 6 29 D ((lim b).length) d 1 ((m:Int)-1) (m-1) ((e.f.1).ok oM) (eH 7 30 (mW ((lim b).getD (m-1) 0)) e ((e.f.1).el (m-1) oM) ?_)))))));cases o:((((lim a).getD (m-1) 0:Nat):Int) != (((lim b).getD (m-1) 0:Nat):Int))
  .
   have x:=aW o;refine eB 8 31 o (bS e (fun X F e=>tN (dC (cK (kQ (lL e ac (lV 22 (iV (((m-1:Nat):Int)-1)) ?_ (hr:=rS ((((m:Int)-1)-1)) kR ((gH oM oM).trans oM)))))))));refine lL e ac (lD ?_);intro Y M;refine ⟨_,_,?_,⟨m-1,F,rfl,rfl,e.to _ _,oM,p,(fO (k:=m-1) p oM (by rw[show m-1+1=m by omega];exact i) oM)⟩,M.to _ kR⟩
   omega
  have x:=aK o;refine eB 8 31 o (bS e (fun _ _ e=>tN (cn (cQ (cQ (cR 9 [] mixed e ar ?_))))));refine eV 0 32 (qS A ((lim a).length) c) (eV 1 33 (iV ((m:Int)-1)) (eX 2 34 A ((lim a).length) c 1 ((m:Int)-1) (m-1) ((e.f.2.1).ok oM) (eH 3 35 (mW ((lim a).getD (m-1) 0)) e ((e.f.2.1).el (m-1) oM) (eV 4 36 (qS D ((lim b).length) d) (eV 5 37 (iV ((m:Int)-1)) (eX 6 38 D ((lim b).length) d 1 ((m:Int)-1) (m-1) ((e.f.1).ok oM) (eH 7 39 (mW ((lim b).getD (m-1) 0)) e ((e.f.1).el (m-1) oM) ?_)))))));cases z:(decide ((((lim a).getD (m-1) 0:Nat):Int)<(((lim b).getD (m-1) 0:Nat):Int)))
  .
   have O:=oF z;exact eB 8 40 z (bS e (fun _ _ e=>tN (dC (cK (aa e ac (ae e [] (iV 1) (by rw[fR (by first|exact gA oM|exact gY (k:=m-1) oM oM (by rw[show m-1+1=m by omega];exact i.symm) oM)])))))))
  have O:=oT z;exact eB 8 40 z (bS e (fun _ _ e=>tN (cn (aa e ac (ae e [] (iV (-1)) (by rw[d9 (by first|exact gA oM|exact gY (k:=m-1) oM oM (by rw[show m-1+1=m by omega];exact i) oM)]))))))
 have u:=aK l;refine lB 10 l (ak (cQ (aa e [.c,.v (nV ((lim a).length)),.c,.v (nV ((lim b).length))] ?_)));cases B:(decide ((((lim a).length:Nat):Int)<(((lim b).length:Nat):Int)))
 .
  have S:=oF B;exact lB 15 B (ag (cK (aa e ac (ae e [] (iV 1) (by rw[fR (by first|exact gA oM|exact gY (k:=m-1) oM oM (by rw[show m-1+1=m by omega];exact i.symm) oM)])))))
 have S:=oT B;exact lB 15 B (ak (aa e ac (ae e [] (iV (-1)) (by rw[d9 (by first|exact gA oM|exact gY (k:=m-1) oM oM (by rw[show m-1+1=m by omega];exact i) oM)]))))
theorem Hy (A:Z9)(c:Nat)(l:List Nat)(m:Nat)(u:l.length=m)(i:Nat)(hi:i<=1099511627776)(p:Ld l)(w:World)(h:Hp)(g:G w h)(o:S3 A l h):CV 193 #[.slice A m c,nV i] w h (mV (l.getD i 0)):=by
 have a:=((sS g).aS o);have j:=p.get i;refine go Tryz.func193 [(0,qS A m c),(1,nV i)] rfl (aa a ac (ah (aa a [.c,.c,.v (nV m)] ?_)));cases d:(decide ((i:Int)<(m:Int)))
 .
  have e:=oF d;exact lB 8 d (ag (cK (aa a ac (ae a [] (uV 0) (by rw[ck oM];rfl)))))
 have e:=oT d;refine lB 8 d (ak (aa a ax (lX 11 A m c 1 (i:Nat) i ((a.f.1).ok oM) ?_)));refine lH 12 (mW (l.getD i 0)) a ((a.f.1).el i oM) (lV 13 (mV (l.getD i 0)) ?_ (hr:=rU (((l.getD i 0:Nat):Int)) kR (be oM oM)));exact lL a ac (ae a [] (mV (l.getD i 0)) rfl)
theorem tR (a:Nat)(A:Z9)(c:Nat)(hc:(lim a).length<=c)(b:Nat)(D:Z9)(d:Nat)(hd:(lim b).length<=d)(W:(lim a).length<=4000000000)(hLb:(lim b).length<=4000000000)(w:World)(h:Hp)(g:G w h)(V:S3 A (lim a) h)(O:S3 D (lim b) h):CR 187 #[.slice A ((lim a).length) c,.slice D ((lim b).length) d] w h (fun v h1=>RN h1 v (a+b)):=by
 have e:=(((sS g).aS V).aS O);refine go Tryz.func187 [(0,qS A ((lim a).length) c),(1,qS D ((lim b).length) d)] rfl (aa e ac (aG (lL e [.c,.v (nV ((lim a).length)),.c,.v (nV ((lim b).length))] (lV 13 (nV (max (lim a).length (lim b).length)) ?_ (hr:=aI (n:=if (((lim b).length:Nat):Int)>(((lim a).length:Nat):Int) then (((lim b).length:Nat):Int) else (((lim a).length:Nat):Int)) kR (by split<;>omega))))));refine lL e ac (aG (lL e ac (bv 15 (((max (lim a).length (lim b).length):Nat)+1) (((max (lim a).length (lim b).length):Nat)+1) ?_)));refine lK 16 139 (((max (lim a).length (lim b).length):Nat)+1:Nat) 1 4 (uW 0) az 0 e (fun x w2 M e=>?_);have F:(zZ (((max (lim a).length (lim b).length):Nat)+1:Nat) 0).length=(((max (lim a).length (lim b).length):Nat)+1:Nat):=by simp
 refine lL e ac (aG (lL e ac (ah (aa e ac (aZ ?_)))));refine bH _ (CG.loop (fun C Γ S=>∃ (i:Nat)(z:List Nat)(j:Nat)(h_:Hp),C=(max (lim a).length (lim b).length)+1-i/\Γ=[(0,qS A ((lim a).length) c),(1,qS D ((lim b).length) d),(4,sZ),(5,nV (max (lim a).length (lim b).length)),(6,qS (sB x) (((max (lim a).length (lim b).length):Nat)+1:Nat) (((max (lim a).length (lim b).length):Nat)+1:Nat)),(8,nV i),(7,mV j)]/\SS w h S h_ [⟨x,139,(z).flatMap az⟩] [] [S3 D (lim b),S3 A (lim a)]/\i<=(max (lim a).length (lim b).length)+1/\z.length=(max (lim a).length (lim b).length)+1/\Ld z/\j<=1/\ai 4294967296 z+4294967296^i*j=ai 4294967296 ((lim a).take i)+ai 4294967296 ((lim b).take i)/\(∀ k,i<=k->z.getD k 0=0)) _ ⟨0,zZ (((max (lim a).length (lim b).length):Nat)+1:Nat) 0,0,M,rfl,rfl,e.to _ _,Mv _,F,Ld.rep _,oM,(by rw[dJ];simp[ai]),fun k _=>ef⟩ ?_);rintro _ _ w5 ⟨i,z,j,h6,Q,rfl,e,hi,p,J,Y,inv,hz⟩;have X:=(Ld.lim a).get i;have L:=(Ld.lim b).get i;refine cQ (aa e ax ?_);cases u:(decide ((i:Int)<=(((max (lim a).length (lim b).length):Nat):Int)))
 .
  have B:=oF u;refine lB 19 u (ag (CG.exit ?_))
  show CG _ _ _ _ _ _ _ _
  refine aa e ac ?_;have H:i=(max (lim a).length (lim b).length)+1:=by omega
  rw[LO (show (lim a).length<=i by omega),LO (show (lim b).length<=i by omega),dd,dd,H,<-p] at inv
  have U:ai 4294967296 z=a+b:=tI inv (by rw[p];exact ek (cB _) (Lw kD (iJ oM oM)));obtain ⟨h9,e,y,I,K⟩:=e.pub 0;replace e:=(e.to [] []).aS (SlO.of_flat (sz:=1) (f:=az) (d:=0) (b:=x) (o:=0) (l:=z) (fun _=>rfl) y);exact aq 39 e (jj (sB x) (((max (lim a).length (lim b).length):Nat)+1:Nat) z (((max (lim a).length (lim b).length):Nat)+1:Nat) p oM oM _ _ e.g e.f.1) (fun _ _ e=>lL e ac (ae e [] (qS (sB x) (tl z (((max (lim a).length (lim b).length):Nat)+1:Nat)) (((max (lim a).length (lim b).length):Nat)+1:Nat)) (RN.trim J U p (nR _) e.f.1)))
 have B:=oT u;refine lB 19 u (ak (cK (cQ (kZ (aa e cJ (aq 25 e (Hy A c (lim a) ((lim a).length) rfl i oM (Ld.lim _) _ _ e.g e.f.2.1) (fun _ _ e=>lV 26 (mV (j+((lim a).getD i 0))) ?_ (hr:=rU (((j:Int)+(((lim a).getD i 0:Nat):Int))) kR (eM j ((lim a).getD i 0) oM)))))))));refine lL e ax (aq 29 e (Hy D d (lim b) ((lim b).length) rfl i oM (Ld.lim _) _ _ e.g e.f.1) (fun _ zb e=>lV 30 (mV ((j+((lim a).getD i 0):Nat)+((lim b).getD i 0))) ?_ (hr:=rU ((((j+((lim a).getD i 0):Nat):Int)+(((lim b).getD i 0:Nat):Int))) kR (eM (j+((lim a).getD i 0):Nat) ((lim b).getD i 0) oM))));refine lL e ac (aG (lL e cJ (lV 34 (mW (((j+((lim a).getD i 0):Nat)+((lim b).getD i 0):Nat)%4294967296)) ?_ (hr:=rT ((((j+((lim a).getD i 0):Nat)+((lim b).getD i 0):Nat):Int)) kR (gU _)))));refine lX 35 (sB x) (((max (lim a).length (lim b).length):Nat)+1:Nat) (((max (lim a).length (lim b).length):Nat)+1:Nat) 1 (i:Nat) i rfl (lW 0 z az 1 i (((j+((lim a).getD i 0):Nat)+((lim b).getD i 0):Nat)%4294967296:Nat) e oM (fun _ e=>?_));have za:((z).set i (((j+((lim a).getD i 0):Nat)+((lim b).getD i 0):Nat)%4294967296:Nat)).length=(((max (lim a).length (lim b).length):Nat)+1:Nat):=by rw[Md];exact p
 replace e:=e.to [⟨x,139,((z).set i (((j+((lim a).getD i 0):Nat)+((lim b).getD i 0):Nat)%4294967296:Nat)).flatMap az⟩] [];refine lN (kQ (lL e ac (lV 37 (mV (((j+((lim a).getD i 0):Nat)+((lim b).getD i 0):Nat)/4294967296)) ?_ (hr:=aI (n:=Mt (((j+((lim a).getD i 0):Nat)+((lim b).getD i 0):Nat):Int) 4294967296) kR (eh _ 4294967296)))));refine lL e ac (lN (kQ (lL e ac (bv 21 ((i:Nat)+1) (i+1) ?_))));refine lL e ac (lD ?_);intro a_ Z;refine ⟨_,_,?_,⟨i+1,(z).set i (((j+((lim a).getD i 0):Nat)+((lim b).getD i 0):Nat)%4294967296:Nat),(((j+((lim a).getD i 0):Nat)+((lim b).getD i 0):Nat)/4294967296:Nat),zb,rfl,rfl,e.to _ _,oM,za,(J.set _ oM),oM,(by rw[Ac (t:=(lim a).getD i 0+(lim b).getD i 0) oM (hz i (nR _)) inv oM,aF,aF,Lm];omega),(qK oM hz)⟩,Z.to _ kR⟩
 omega
theorem kS (a:Nat)(A:Z9)(c:Nat)(hc:(lim a).length<=c)(b:Nat)(D:Z9)(d:Nat)(hd:(lim b).length<=d)(hLa:(lim a).length<=4000000000)(hLb:(lim b).length<=4000000000)(H:b<=a)(w:World)(h:Hp)(g:G w h)(hA:S3 A (lim a) h)(W:S3 D (lim b) h):CR 188 #[.slice A ((lim a).length) c,.slice D ((lim b).length) d] w h (fun v h1=>RN h1 v (a-b)):=by
 have e:=(((sS g).aS hA).aS W);have hlm:=dE H;refine go Tryz.func188 [(0,qS A ((lim a).length) c),(1,qS D ((lim b).length) d)] rfl (aa e ac (aG (lL e [.c,.v (nV ((lim a).length))] (lK 11 139 ((lim a).length) 1 4 (uW 0) az 0 e (fun x w2 V e=>?_)))));have K:(zZ ((lim a).length) 0).length=((lim a).length):=by simp
 refine lL e ac (aG (lL e ac (ah (aa e ac (aZ ?_)))));refine bH _ (CG.loop (fun J Γ Y=>∃ (i:Nat)(z:List Nat)(j:Nat)(h_:Hp),J=(lim a).length-i/\Γ=[(0,qS A ((lim a).length) c),(1,qS D ((lim b).length) d),(4,sZ),(5,qS (sB x) ((lim a).length) ((lim a).length)),(7,nV i),(6,mV j)]/\SS w h Y h_ [⟨x,139,(z).flatMap az⟩] [] [S3 D (lim b),S3 A (lim a)]/\i<=(lim a).length/\z.length=(lim a).length/\Ld z/\j<=1/\ai 4294967296 z+ai 4294967296 ((lim b).take i)=ai 4294967296 ((lim a).take i)+4294967296^i*j/\(∀ k,i<=k->z.getD k 0=0)) _ ⟨0,zZ ((lim a).length) 0,0,V,rfl,rfl,e.to _ _,Mv _,K,Ld.rep _,oM,(by rw[dJ];simp[ai]),fun k _=>ef⟩ ?_);rintro _ _ w5 ⟨i,z,j,h6,X,rfl,e,hi,p,Q,O,inv,hz⟩;have L:=(Ld.lim a).get i;have I:=(Ld.lim b).get i;refine cQ (aa e [.c,.c,.v (nV ((lim a).length))] ?_);cases u:(decide ((i:Int)<(((lim a).length:Nat):Int)))
 .
  have F:=oF u;refine lB 15 u (ag (CG.exit ?_))
  show CG _ _ _ _ _ _ _ _
  refine aa e ac ?_;have M:i=(lim a).length:=by omega
  rw[LO (show (lim a).length<=i by omega),LO (show (lim b).length<=i by omega),dd,dd,M,<-p] at inv
  have Z:ai 4294967296 z=a-b:=Cf Q inv H;obtain ⟨h9,e,y,S,U⟩:=e.pub 0;replace e:=(e.to [] []).aS (SlO.of_flat (sz:=1) (f:=az) (d:=0) (b:=x) (o:=0) (l:=z) (fun _=>rfl) y);exact aq 37 e (jj (sB x) ((lim a).length) z ((lim a).length) p oM oM _ _ e.g e.f.1) (fun _ _ e=>lL e ac (ae e [] (qS (sB x) (tl z ((lim a).length)) ((lim a).length)) (RN.trim Q Z p (nR _) e.f.1)))
 have F:=oT u;refine lB 15 u (ak (cK (cQ (kZ (cQ (cR 11 [] mixed e ar ?_))))));refine eV 0 18 (qS A ((lim a).length) c) (eV 1 19 (nV i) (eX 2 20 A ((lim a).length) c 1 (i:Nat) i ((e.f.2.1).ok oM) (eH 3 21 (mW ((lim a).getD i 0)) e ((e.f.2.1).el i oM) (eV 4 22 (mV ((lim a).getD i 0)) ?_ (hv:=fun _=>rU ((((lim a).getD i 0:Nat):Int)) kR (be oM oM))))));refine eV 5 23 (qS D ((lim b).length) d) (eV 6 24 (nV i) (eV 9 27 (mV j) (au 7 25 e (fun _ _ e=>Hy D d (lim b) ((lim b).length) rfl i oM (Ld.lim _) _ _ e.g e.f.1) (fun _ _ e=>eV 8 26 (mV ((((lim a).getD i 0)+(18446744073709551616-((lim b).getD i 0)))%18446744073709551616)) ?_ (hv:=fun _=>rU (((((lim a).getD i 0:Nat):Int)-(((lim b).getD i 0:Nat):Int))) kR (kO ((lim a).getD i 0) ((lim b).getD i 0) oM))))));refine eV 10 28 (mV ((((((lim a).getD i 0)+(18446744073709551616-((lim b).getD i 0)))%18446744073709551616:Nat)+(18446744073709551616-j))%18446744073709551616)) ?_ (hv:=fun _=>rU (((((((lim a).getD i 0)+(18446744073709551616-((lim b).getD i 0)))%18446744073709551616:Nat):Int)-(j:Int))) kR (kO ((((lim a).getD i 0)+(18446744073709551616-((lim b).getD i 0)))%18446744073709551616:Nat) j oM));refine bS e (fun _ zb e=>tV 11 8 (mV ((((((lim a).getD i 0)+(18446744073709551616-((lim b).getD i 0)))%18446744073709551616:Nat)+(18446744073709551616-j))%18446744073709551616)) (rW ?_));obtain ⟨t,ht⟩:∃ t,t=((((((lim a).getD i 0)+(18446744073709551616-((lim b).getD i 0)))%18446744073709551616:Nat)+(18446744073709551616-j))%18446744073709551616:Nat):=⟨_,rfl⟩;obtain ⟨C,B⟩:=BV L I O ht;rw[ht] at C B
 refine lL e cJ (lV 32 (mW (((((((lim a).getD i 0)+(18446744073709551616-((lim b).getD i 0)))%18446744073709551616:Nat)+(18446744073709551616-j))%18446744073709551616:Nat)%4294967296)) ?_ (hr:=rT ((((((((lim a).getD i 0)+(18446744073709551616-((lim b).getD i 0)))%18446744073709551616:Nat)+(18446744073709551616-j))%18446744073709551616:Nat):Int)) kR (gU _)));refine lX 33 (sB x) ((lim a).length) ((lim a).length) 1 (i:Nat) i rfl (lW 0 z az 1 i (((((((lim a).getD i 0)+(18446744073709551616-((lim b).getD i 0)))%18446744073709551616:Nat)+(18446744073709551616-j))%18446744073709551616:Nat)%4294967296:Nat) e oM (fun _ e=>?_));have za:((z).set i (((((((lim a).getD i 0)+(18446744073709551616-((lim b).getD i 0)))%18446744073709551616:Nat)+(18446744073709551616-j))%18446744073709551616:Nat)%4294967296:Nat)).length=((lim a).length):=by rw[Md];exact p
 replace e:=e.to [⟨x,139,((z).set i (((((((lim a).getD i 0)+(18446744073709551616-((lim b).getD i 0)))%18446744073709551616:Nat)+(18446744073709551616-j))%18446744073709551616:Nat)%4294967296:Nat)).flatMap az⟩] [];refine lN (kQ (lL e ac (lV 35 (mV (((((((lim a).getD i 0)+(18446744073709551616-((lim b).getD i 0)))%18446744073709551616:Nat)+(18446744073709551616-j))%18446744073709551616:Nat)/9223372036854775808)) ?_ (hr:=aI (n:=Mt (((((((lim a).getD i 0)+(18446744073709551616-((lim b).getD i 0)))%18446744073709551616:Nat)+(18446744073709551616-j))%18446744073709551616:Nat):Int) 9223372036854775808) kR (eh _ 9223372036854775808)))));refine lL e ac (lN (kQ (lL e ac (bv 17 ((i:Nat)+1) (i+1) ?_))));refine lL e ac (lD ?_);intro a_ ka;refine ⟨_,_,?_,⟨i+1,(z).set i (((((((lim a).getD i 0)+(18446744073709551616-((lim b).getD i 0)))%18446744073709551616:Nat)+(18446744073709551616-j))%18446744073709551616:Nat)%4294967296:Nat),(((((((lim a).getD i 0)+(18446744073709551616-((lim b).getD i 0)))%18446744073709551616:Nat)+(18446744073709551616-j))%18446744073709551616:Nat)/9223372036854775808:Nat),zb,rfl,rfl,e.to _ _,oM,za,(Q.set _ oM),B,(Dm oM (hz i (nR _)) inv C),(qK oM hz)⟩,ka.to _ kR⟩
 omega
theorem Hc {x y:Nat}(a:x<4294967296)(c:y<4294967296):x*y<=18446744065119617025:=Ma (show x<=4294967295 by omega) (show y<=4294967295 by omega)
theorem wt {a b q r:Nat}(h:a=b*q+r)(hr:r<b):q=a/b/\r=a%b:=by
 subst h;rw[Mf oM,Hi hr,Nat.mul_add_mod,z2 hr];simp
theorem oh {l:List Nat}{k j x:Nat}(hk:k<l.length)(h:∀ i,j<=i->l.getD i 0=0)(a:k<j):∀ i,j<=i->(l.set k x).getD i 0=0:=fun i hi=>by rw[bC hk,if_neg oM];exact h i hi
theorem oJ (a:Nat)(A:Z9)(c:Nat)(hc:(lim a).length<=c)(b:Nat)(D:Z9)(d:Nat)(hd:(lim b).length<=d)(hLa:(lim a).length<=4000000000)(hLb:(lim b).length<=4000000000)(w:World)(h:Hp)(g:G w h)(hA:S3 A (lim a) h)(hD:S3 D (lim b) h):CR 156 #[.slice A ((lim a).length) c,.slice D ((lim b).length) d] w h (fun v h1=>RN h1 v (a*b)):=by
 have e:=(((sS g).aS hA).aS hD);refine go Tryz.func156 [(0,qS A ((lim a).length) c),(1,qS D ((lim b).length) d)] rfl (aa e ac (aG (lL e [.c,.v (nV ((lim a).length)),.c,.v (nV ((lim b).length))] (bv 13 (((lim a).length:Nat)+((lim b).length:Nat)) (((lim a).length)+((lim b).length)) ?_))));refine lK 14 139 (((lim a).length)+((lim b).length):Nat) 1 4 (uW 0) az 0 e (fun u w2 h3 e=>?_);have M:(zZ (((lim a).length)+((lim b).length):Nat) 0).length=(((lim a).length)+((lim b).length):Nat):=by simp
 refine lL e ac (ah (aa e ac (aZ ?_)));refine bH _ (CG.loop (fun B Γ L=>∃ (i:Nat)(l:List Nat)(h_:Hp),B=(lim a).length-i/\Γ=[(0,qS A ((lim a).length) c),(1,qS D ((lim b).length) d),(4,sZ),(5,qS (sB u) (((lim a).length)+((lim b).length):Nat) (((lim a).length)+((lim b).length):Nat)),(6,nV i)]/\SS w h L h_ [⟨u,139,(l).flatMap az⟩] [] [S3 D (lim b),S3 A (lim a)]/\i<=(lim a).length/\l.length=(lim a).length+(lim b).length/\Ld l/\ai 4294967296 l=ai 4294967296 ((lim a).take i)*b/\(∀ k,i+(lim b).length<=k->l.getD k 0=0)) _ ⟨0,zZ (((lim a).length)+((lim b).length):Nat) 0,h3,rfl,rfl,e.to _ _,Mv _,M,Ld.rep _,(by rw[dJ];simp[ai]),fun k _=>ef⟩ ?_);rintro _ _ w5 ⟨i,l,h6,hm7,rfl,e,hi,C,Y,hv,hz⟩;have O:=(Ld.lim a).get i;refine cQ (aa e [.c,.c,.v (nV ((lim a).length))] ?_);cases x:(decide ((i:Int)<(((lim a).length:Nat):Int)))
 .
  have I:=oF x;refine lB 18 x (ag (CG.exit ?_))
  show CG _ _ _ _ _ _ _ _
  refine aa e ac ?_;have U:i=(lim a).length:=by omega
  rw[U,yY,dd] at hv
  have hE:ai 4294967296 l=a*b:=hv;obtain ⟨h9,e,H,X,Z⟩:=e.pub 0;replace e:=(e.to [] []).aS (SlO.of_flat (sz:=1) (f:=az) (d:=0) (b:=u) (o:=0) (l:=l) (fun _=>rfl) H);exact aq 66 e (jj (sB u) (((lim a).length)+((lim b).length):Nat) l (((lim a).length)+((lim b).length):Nat) C oM oM _ _ e.g e.f.1) (fun _ _ e=>lL e ac (ae e [] (qS (sB u) (tl l (((lim a).length)+((lim b).length):Nat)) (((lim a).length)+((lim b).length):Nat)) (RN.trim Y hE C (nR _) e.f.1)))
 have I:=oT x;refine lB 18 x (ak (cK (cQ (kZ (aa e ac (ah (aa e ac (aZ ?_))))))));refine bH _ (CG.loop (fun B Γ L=>∃ (j:Nat)(l2:List Nat)(p:Nat)(h_:Hp),B=(lim b).length-j/\Γ=[(0,qS A ((lim a).length) c),(1,qS D ((lim b).length) d),(4,sZ),(5,qS (sB u) (((lim a).length)+((lim b).length):Nat) (((lim a).length)+((lim b).length):Nat)),(6,nV i),(8,nV j),(7,mV p)]/\SS w h L h_ [⟨u,139,(l2).flatMap az⟩] [] [S3 D (lim b),S3 A (lim a)]/\j<=(lim b).length/\l2.length=(lim a).length+(lim b).length/\Ld l2/\p<4294967296/\ai 4294967296 l2+4294967296^(i+j)*p=ai 4294967296 l+4294967296^i*((lim a).getD i 0*ai 4294967296 ((lim b).take j))/\(∀ k,i+(lim b).length<=k->l2.getD k 0=0)) _ ⟨0,l,0,h6,rfl,rfl,e.to _ _,Mv _,C,Y,by omega,(by simp[ai]),hz⟩ ?_);rintro _ _ _ ⟨j,l2,p,ze,W,rfl,e,hj,y,F,hcy,inv,z⟩;have V:=(Ld.lim b).get j;have hlk:=F.get (i+j);have hxy:=Hc O V;refine cQ (aa e [.c,.c,.v (nV ((lim b).length))] ?_);cases K:(decide ((j:Int)<(((lim b).length:Nat):Int)))
 .
  have zb:=oF K;refine lB 24 K (ag (CG.exit ?_))
  show CG _ _ _ _ _ _ _ _
  refine kQ (lL e [.c,.c,.c,.v (nV ((lim b).length))] (bv 61 ((i:Nat)+((lim b).length:Nat)) (i+((lim b).length)) ?_));refine lL e ac (lV 63 (mW (p%4294967296)) ?_ (hr:=rT ((p:Int)) kR (gU _)));refine lX 64 (sB u) (((lim a).length)+((lim b).length):Nat) (((lim a).length)+((lim b).length):Nat) 1 (i+((lim b).length):Nat) (i+((lim b).length):Nat) rfl (lW 0 l2 az 1 (i+((lim b).length):Nat) (p%4294967296) e oM (fun _ e=>?_));have zc:((l2).set (i+((lim b).length):Nat) (p%4294967296)).length=(((lim a).length)+((lim b).length):Nat):=by rw[Md];exact y
  replace e:=e.to [⟨u,139,((l2).set (i+((lim b).length):Nat) (p%4294967296)).flatMap az⟩] [];refine lN (kQ (lL e ac (bv 20 ((i:Nat)+1) (i+1) ?_)));refine lL e ac (lD ?_);intro a_ Q;refine ⟨_,_,?_,⟨i+1,(l2).set (i+((lim b).length):Nat) (p%4294967296),ze,rfl,rfl,e.to _ _,oM,zc,(F.set _ oM),(by have S:j=(lim b).length:=oM;rw[S] at inv;have J:=uS oM inv (z _ oM);rw[dd] at J;rw[show p%4294967296=p by omega];exact J.trans (u6 hv)),(oh oM (fun k hk=>z k oM) oM)⟩,Q.to _ kR⟩
  omega
 have zb:=oT K;refine lB 24 K (ak (cK (cQ (kZ (cQ (cR 21 [] mixed e ar ?_))))));refine eV 0 27 (mV p) (eV 1 28 (qS (sB u) (((lim a).length)+((lim b).length):Nat) (((lim a).length)+((lim b).length):Nat)) (eV 2 29 (nV i) (eV 3 30 (nV j) (j4 4 31 ((i:Nat)+(j:Nat)) (i+j) (eX 5 32 (sB u) (((lim a).length)+((lim b).length):Nat) (((lim a).length)+((lim b).length):Nat) 1 (i+j:Nat) (i+j) rfl (eQ 6 33 0 l2 az 1 0 (i+j) (mW ((l2).getD (i+j) 0)) e oM (eV 7 34 (mV ((l2).getD (i+j) 0)) ?_ (hv:=fun _=>rU ((((l2).getD (i+j) 0:Nat):Int)) kR (be oM oM)))))))));refine eV 8 35 (mV (p+((l2).getD (i+j) 0))) ?_ (hv:=fun _=>rU (((p:Int)+(((l2).getD (i+j) 0:Nat):Int))) kR (eM p ((l2).getD (i+j) 0) oM));refine eV 9 36 (qS A ((lim a).length) c) (eV 10 37 (nV i) (eX 11 38 A ((lim a).length) c 1 (i:Nat) i ((e.f.2.1).ok oM) (eH 12 39 (mW ((lim a).getD i 0)) e ((e.f.2.1).el i oM) (eV 13 40 (mV ((lim a).getD i 0)) ?_ (hv:=fun _=>rU ((((lim a).getD i 0:Nat):Int)) kR (be oM oM))))));refine eV 14 41 (qS D ((lim b).length) d) (eV 15 42 (nV j) (eX 16 43 D ((lim b).length) d 1 (j:Nat) j ((e.f.1).ok oM) (eH 17 44 (mW ((lim b).getD j 0)) e ((e.f.1).el j oM) (eV 18 45 (mV ((lim b).getD j 0)) ?_ (hv:=fun _=>rU ((((lim b).getD j 0:Nat):Int)) kR (be oM oM))))));refine eV 19 46 (mV (((lim a).getD i 0)*((lim b).getD j 0))) ?_ (hv:=fun _=>rU (((((lim a).getD i 0:Nat):Int)*(((lim b).getD j 0:Nat):Int))) kR (jp ((lim a).getD i 0) ((lim b).getD j 0) oM));refine eV 20 47 (mV ((p+((l2).getD (i+j) 0):Nat)+(((lim a).getD i 0)*((lim b).getD j 0):Nat))) ?_ (hv:=fun _=>rU ((((p+((l2).getD (i+j) 0):Nat):Int)+((((lim a).getD i 0)*((lim b).getD j 0):Nat):Int))) kR (eM (p+((l2).getD (i+j) 0):Nat) (((lim a).getD i 0)*((lim b).getD j 0):Nat) oM));refine bS e (fun _ zf e=>tV 21 7 (mV ((p+((l2).getD (i+j) 0):Nat)+(((lim a).getD i 0)*((lim b).getD j 0):Nat))) (rW (lL e cJ (bv 51 ((i:Nat)+(j:Nat)) (i+j) ?_))));refine lL e ac (lV 53 (mW (((p+((l2).getD (i+j) 0):Nat)+(((lim a).getD i 0)*((lim b).getD j 0):Nat):Nat)%4294967296)) ?_ (hr:=rT ((((p+((l2).getD (i+j) 0):Nat)+(((lim a).getD i 0)*((lim b).getD j 0):Nat):Nat):Int)) kR (gU _)));refine lX 54 (sB u) (((lim a).length)+((lim b).length):Nat) (((lim a).length)+((lim b).length):Nat) 1 (i+j:Nat) (i+j) rfl (lW 0 l2 az 1 (i+j) (((p+((l2).getD (i+j) 0):Nat)+(((lim a).getD i 0)*((lim b).getD j 0):Nat):Nat)%4294967296:Nat) e oM (fun _ e=>?_));have zd:((l2).set (i+j) (((p+((l2).getD (i+j) 0):Nat)+(((lim a).getD i 0)*((lim b).getD j 0):Nat):Nat)%4294967296:Nat)).length=(((lim a).length)+((lim b).length):Nat):=by rw[Md];exact y
 replace e:=e.to [⟨u,139,((l2).set (i+j) (((p+((l2).getD (i+j) 0):Nat)+(((lim a).getD i 0)*((lim b).getD j 0):Nat):Nat)%4294967296:Nat)).flatMap az⟩] [];refine lN (kQ (lL e ac (lV 56 (mV (((p+((l2).getD (i+j) 0):Nat)+(((lim a).getD i 0)*((lim b).getD j 0):Nat):Nat)/4294967296)) ?_ (hr:=aI (n:=Mt (((p+((l2).getD (i+j) 0):Nat)+(((lim a).getD i 0)*((lim b).getD j 0):Nat):Nat):Int) 4294967296) kR (eh _ 4294967296)))));refine lL e ac (lN (bH [(0,qS A ((lim a).length) c),(1,qS D ((lim b).length) d),(4,sZ),(5,qS (sB u) (((lim a).length)+((lim b).length):Nat) (((lim a).length)+((lim b).length):Nat)),(6,nV i),(8,nV j),(7,mV (((p+((l2).getD (i+j) 0):Nat)+(((lim a).getD i 0)*((lim b).getD j 0):Nat):Nat)/4294967296))] ?_));refine kQ (lL e ac (bv 26 ((j:Nat)+1) (j+1) ?_));refine lL e ac (lD ?_);intro a_ Q;refine ⟨_,_,?_,⟨j+1,(l2).set (i+j) (((p+((l2).getD (i+j) 0):Nat)+(((lim a).getD i 0)*((lim b).getD j 0):Nat):Nat)%4294967296:Nat),(((p+((l2).getD (i+j) 0):Nat)+(((lim a).getD i 0)*((lim b).getD j 0):Nat):Nat)/4294967296:Nat),zf,rfl,rfl,e.to _ _,oM,zd,(F.set _ oM),oM,(lE oM inv oM),(oh oM z oM)⟩,Q.to _ kR⟩
 omega
theorem J5 (a:Nat)(A:Z9)(c:Nat)(hc:(lim a).length<=c)(hLa:(lim a).length<=4000000000)(d:Nat)(I:0<d)(hd:d<4294967296)(w:World)(h:Hp)(g:G w h)(hA:S3 A (lim a) h):CR 161 #[.slice A ((lim a).length) c,mW d] w h (fun v h1=>∃ Q,∃ r:Nat,v=.tuple #[Q,mW r]/\RN h1 Q (a/d)/\r=a%d):=by
 have e:=((sS g).aS hA);refine go Tryz.func161 [(0,qS A ((lim a).length) c),(1,mW d)] rfl (aa e ax (aG (lL e [.c,.v (nV ((lim a).length))] (lK 11 139 ((lim a).length) 1 4 (uW 0) az 0 e (fun p w2 X e=>?_)))));have K:(zZ ((lim a).length) 0).length=((lim a).length):=by simp
 refine lL e ac (aG (lL e ac (ah (aa e [.c,.v (nV ((lim a).length))] (lV 14 (iV ((((lim a).length:Nat):Int)-1)) ?_ (hr:=rS ((((lim a).length:Nat)-1)) kR ((gH oM oM).trans oM)))))));refine lL e ac (aZ ?_);refine bH _ (CG.loop (fun J Γ Z=>∃ (m:Nat)(z:List Nat)(r:Nat)(h_:Hp),J=m/\Γ=[(0,qS A ((lim a).length) c),(1,mW d),(4,sZ),(5,uW 0),(6,qS (sB p) ((lim a).length) ((lim a).length)),(8,iV ((m:Int)-1)),(7,mV r)]/\SS w h Z h_ [⟨p,139,(z).flatMap az⟩] [] [S3 A (lim a)]/\m<=(lim a).length/\z.length=(lim a).length/\Ld z/\a=d*ai 4294967296 z+(4294967296^m*r+ai 4294967296 ((lim a).take m))/\r<d/\(∀ k,k<m->z.getD k 0=0)) _ ⟨(lim a).length,zZ ((lim a).length) 0,0,X,rfl,rfl,e.to _ _,nR _,K,Ld.rep _,(by rw[dJ,yY,dd];simp),I,fun k _=>ef⟩ ?_);rintro _ _ w5 ⟨m,z,r,W,Y,rfl,e,hm,B,S,inv,hr,hz⟩;have D:=(Ld.lim a).get (m-1);refine cQ (aa e ac ?_);cases i:(decide ((0:Int)<=((m:Int)-1:Int)))
 .
  have F:=oF i;refine lB 16 i (ag (CG.exit ?_))
  show CG _ _ _ _ _ _ _ _
  refine aa e ac ?_;have M:m=0:=by omega
  rw[M,Mw,LP,List.take_zero] at inv
  have H:a=d*ai 4294967296 z+r:=by simpa [ai] using inv
  obtain ⟨L,O⟩:=wt H hr;have hE:ai 4294967296 z=a/d:=L;obtain ⟨h9,e,C,U,V⟩:=e.pub 0;replace e:=(e.to [] []).aS (SlO.of_flat (sz:=1) (f:=az) (d:=0) (b:=p) (o:=0) (l:=z) (fun _=>rfl) C);refine aq 40 e (jj (sB p) ((lim a).length) z ((lim a).length) B oM oM _ _ e.g e.f.1) (fun _ _ e=>lL e ac (lV 42 (mW r) ?_ (hr:=aI (aI (n:=IntKind.wrap .u32 (r:Int)) kR (gU _)) oM)));exact lL e ax (ae e [] (.tuple #[qS (sB p) (tl z ((lim a).length)) ((lim a).length),mW r]) (⟨_,r,rfl,RN.trim S hE B (nR _) e.f.1,O⟩))
 have F:=oT i;refine lB 16 i (ak (cK (cQ (kZ (aa e ac (lV 20 (mV (r*4294967296%18446744073709551616)) ?_ (hr:=rU (((r:Int)*4294967296)) kR (jW r 4294967296))))))));refine lL e ax (lX 23 A ((lim a).length) c 1 ((m:Int)-1) (m-1) ((e.f.1).ok oM) ?_);refine lH 24 (mW ((lim a).getD (m-1) 0)) e ((e.f.1).el (m-1) oM) (lV 25 (mV ((lim a).getD (m-1) 0)) ?_ (hr:=rU ((((lim a).getD (m-1) 0:Nat):Int)) kR (be oM oM)));refine lV 26 (mV (r*4294967296+(lim a).getD (m-1) 0)) ?_ (hr:=aI (ir (t:=43) (u:=43) (x:=.tmp 20) (y:=.tmp 25) (a:=(r*4294967296%18446744073709551616)) (b:=((lim a).getD (m-1) 0)) kR kR kR oM oM _) (by rw[z2 (show r*4294967296<18446744073709551616 by omega),rR D]));refine lL e ac (aG (lL e m4 (lV 31 (mV d) ?_ (hr:=rU ((d:Int)) kR (be oM oM)))));have j:=vu (r:=r) (x:=(lim a).getD (m-1) 0) I hr D hd;refine lV 32 (mV ((r*4294967296+(lim a).getD (m-1) 0)/d)) ?_ (hr:=aI (dD (t:=43) (u:=43) (x:=.tmp 29) (y:=.tmp 31) (k:=.u64) (a:=((r*4294967296+(lim a).getD (m-1) 0:Nat):Int)) (b:=(d:Int)) kR kR kR oM _) (km (r*4294967296+(lim a).getD (m-1) 0) d oM));refine lV 33 (mW (((r*4294967296+(lim a).getD (m-1) 0)/d:Nat)%4294967296)) ?_ (hr:=rT ((((r*4294967296+(lim a).getD (m-1) 0)/d:Nat):Int)) kR (gU _));refine lX 34 (sB p) ((lim a).length) ((lim a).length) 1 ((m:Int)-1) (m-1) rfl (lW 0 z az 1 (m-1) (((r*4294967296+(lim a).getD (m-1) 0)/d:Nat)%4294967296:Nat) e oM (fun _ e=>?_));have za:((z).set (m-1) (((r*4294967296+(lim a).getD (m-1) 0)/d:Nat)%4294967296:Nat)).length=((lim a).length):=by rw[Md];exact B
 replace e:=e.to [⟨p,139,((z).set (m-1) (((r*4294967296+(lim a).getD (m-1) 0)/d:Nat)%4294967296:Nat)).flatMap az⟩] [];refine lN (kQ (lL e ax (lV 37 (mV d) ?_ (hr:=rU ((d:Int)) kR (be oM oM)))));refine lV 38 (mV ((r*4294967296+(lim a).getD (m-1) 0)%d)) ?_ (hr:=aI (fq (t:=43) (u:=43) (x:=.tmp 35) (y:=.tmp 37) (k:=.u64) (a:=((r*4294967296+(lim a).getD (m-1) 0:Nat):Int)) (b:=(d:Int)) kR kR kR oM _) (dk (r*4294967296+(lim a).getD (m-1) 0) d));refine lL e ac (lN (kQ (lL e ac (lV 18 (iV (((m-1:Nat):Int)-1)) ?_ (hr:=rS ((((m:Int)-1)-1)) kR ((gH oM oM).trans oM))))));refine lL e ac (lD ?_);intro a_ ka;refine ⟨_,_,?_,⟨m-1,(z).set (m-1) (((r*4294967296+(lim a).getD (m-1) 0)/d:Nat)%4294967296:Nat),((r*4294967296+(lim a).getD (m-1) 0)%d:Nat),W,rfl,rfl,e.to _ _,oM,za,(S.set _ (z6 _ kD)),(by rw[j.1];exact B0 oM oM (hz _ oM) inv j.2.1),j.2.2,(fun k hk=>by rw[bC oM,if_neg oM];exact hz k oM)⟩,ka.to _ kR⟩
 omega
theorem rE {B:List Bx}:∀ (ps:List (Nat × Nat × Nat)) (q:Nat) (a:Addr),(cG B ps)[q]?=some a->∃ p∈ps,a.block=(aw B p.1).b:=by
  intro ps
  induction ps with
  | nil=>intro q a h;simp[cG] at h
  | cons p ps ih =>
    intro q a h
    unfold cG at h
    rcases cD q (lg (aw B p.1).b p.2.1 p.2.2).length with hl|hl
    . rw[vi hl] at h
      exact ⟨p,by simp,by rw[fk _ _ _ _ _ h]⟩
    . rw[v6 hl] at h
      obtain ⟨d,c,e⟩:=ih _ _ h;exact ⟨d,by simp[c],e⟩
section
variable {M:Ms}{P:Program}{n:Nat}{N R:Po}{X:Nat->Po}{ops:Array Oper}{k k0:Nat}{L:Array Bool}{Γ:cl}{w:World}{h:Hp}{w0:World}{h0:Hp}{B:List Bx}{Rs:List Rw}{F:List (Hp->Prop)}
theorem JS {α:Type}(j:Nat)(l:List α)(f:α->List Value)(sz e:Nat)(x:α)(s:SS w0 h0 w h B Rs F)(hk:e<l.length)(H:∀ w',Put (aw B j).b w w'->SS w0 h0 w' h (iw B j ((l.set e x).flatMap f)) Rs F->LG P n N R X ops (k+1) Γ w')(c:cS ops Γ k=true:=by kernel_rfl)
  (a:decide (j<B.length)=true:=by kernel_rfl)(hB:(aw B j).vs=l.flatMap f:=by kernel_rfl)(hf:∀ x,(f x).length=sz:=by intro _;rfl)
  (d:dO P (execOp (ev Γ) (am ops k))=some (.skip,np (aw B j).b (0+e*sz) (f x)):=by kernel_rfl):LG P n N R X ops k Γ w :=
 LG.putA j l f sz e x s.st s.g0 (iu c).1 (iu c).2 a hB hf hk d (fun w' p i=>H w' p (s.put0 (oT a) p i (kv (oT a))))
theorem K1 {α:Type}(i j:Nat)(l:List α)(f:α->List Value)(sz e:Nat)(x:α)(s:SS w0 h0 w h B Rs F)(hk:e<l.length)(H:∀ w',Put (aw B j).b w w'->SS w0 h0 w' h (iw B j ((l.set e x).flatMap f)) Rs F->AG M P n N R X ops k0 (L.setIfInBounds i true) Γ w')(c:H0 ops k0 L Γ i=true:=by kernel_rfl)
  (a:decide (j<B.length)=true:=by kernel_rfl)(hB:(aw B j).vs=l.flatMap f:=by kernel_rfl)(hf:∀ x,(f x).length=sz:=by intro _;rfl)
  (o:dO P (execOp (ev Γ) (am ops i))=some (.skip,np (aw B j).b (0+e*sz) (f x)):=by kernel_rfl)(hz:∀ K bs,M.z=some (K,bs)->K<=(aw B j).b\/(aw B j).b∈bs:=by intro _ _ e;cases e):AG M P n N R X ops k0 L Γ w :=
 T.putA i j l f sz e x s.st s.g0 (kH c).1 (kH c).2 a hB hf hk o (fun w' p d=>H w' p (s.put0 (oT a) p d (kv (oT a)))) hz
theorem aQ {α:Type}(i t j:Nat)(l:List α)(f:α->List Value)(sz:Nat)(d:α)(e:Nat)(v:Value)(s:SS w0 h0 w h B Rs F)(hk:e<l.length)(H:AG M P n N R X ops k0 (L.setIfInBounds i true) ((t,v)::Γ) w)(hM:(aw B j).b ∉ M.l:=by exact List.not_mem_nil)(o:Cn n ops k0 [] L Γ i t=true:=by kernel_rfl)
  (C:decide (j<B.length)=true:=by kernel_rfl)(hB:(aw B j).vs=l.flatMap f:=by kernel_rfl)(hf:∀ x,(f x).length=sz:=by intro _;rfl)
  (z:bX P (execOp (ev Γ) (am ops i)) (f (l.getD e d))=some (.value v,lg (aw B j).b (0+e*sz) (f (l.getD e d)).length):=by kernel_rfl):AG M P n N R X ops k0 L Γ w :=
 aL i t v (fun w' y=>cP _ _ _ _ z (fun q a u ha c=>by
  rw[fk _ _ _ _ _ ha,((s.st.own _ (bx (oT C))).mo y hM).cell,hB];rw[<-fU hf d l e hk] at c
  have p:q<sz:=by
   rcases cD q sz with hl|hl
   ·exact hl
   ·rw[ta (by simp;omega)] at c;cases c
  rw[vj p,vl] at c
  rw[y9];exact c)) H o
theorem CB (t j:Nat){f:FuncId}{args:Array Value}{Φ:Value->Prop}(s:SS w0 h0 w h B Rs F)(c:∀ hp,G w hp->AllF F hp->Seg hp (aw B j).b 0 (aw B j).vs->Calls P f args w (Ret w hp (fun v _=>Φ v)))(H:∀ v w' a,Up w h w' a->SS w0 h0 w' a B Rs F->Φ v->LG P n N R X ops (k+1) ((t,v)::Γ) w')(e:decide (j<B.length)=true:=by kernel_rfl)(i:cL ops Γ k t n=true:=by kernel_rfl)(hr:(execOp (ev Γ) (am ops k)).run P w=.ok (.enter f args) w:=by kernel_rfl):LG P n N R X ops k Γ w :=
 kL t (s.lends (oT e) c) (fun v w' a u d=>H v w' a u (s.step u) d) i hr
theorem SS.lends2 (s:SS w0 h0 w h B Rs F){i j:Nat}(hi:i<B.length)(J:j<B.length)(D:i≠j){f:FuncId}{args:Array Value}{Φ:Value->Prop}(c:∀ a,G w a->AllF F a->Seg a (aw B i).b 0 (aw B i).vs->Seg a (aw B j).b 0 (aw B j).vs->Calls P f args w (Ret w a (fun v _=>Φ v))):Calls P f args w (Ret w h (fun v _=>Φ v)):=by
 have z:=bx hi;have l:=bx J;have K:(aw B j).b≠(aw B i).b:=gB s.st (decide_eq_true J) (decide_eq_true hi) (by simpa using D.symm);obtain ⟨a,g,gw,O,H⟩:=CM s.g (s.st.jk _ z) (s.st.own _ z);have d:a[(aw B j).b]?=some bg:=by rw[H _ K];exact s.st.jk _ l
 obtain ⟨p,I,o,x,y⟩:=CM g d (s.st.own _ l);refine (c p I ((s.f.gw s.mo gw).gw s.mo o) (O.gw o) x).mono ?_;rintro e w' ⟨v,S,Q,u,C⟩;obtain ⟨h1,u1⟩:=sb d y (g.sz I) u;obtain ⟨M,L⟩:=sb (s.st.jk _ z) H (s.g.sz g) u1;exact ⟨v,M,Q,L,C⟩
theorem KF (t i j:Nat){f:FuncId}{args:Array Value}{Φ:Value->Prop}(s:SS w0 h0 w h B Rs F)(c:∀ hp,G w hp->AllF F hp->Seg hp (aw B i).b 0 (aw B i).vs->Seg hp (aw B j).b 0 (aw B j).vs->Calls P f args w (Ret w hp (fun v _=>Φ v)))(H:∀ v w' h',SS w0 h0 w' h' B Rs F->Φ v->LG P n N R X ops (k+1) ((t,v)::Γ) w')(a:(decide (i<B.length) && decide (j<B.length) && (i != j))=true:=by kernel_rfl)(d:cL ops Γ k t n=true:=by kernel_rfl)(hr:(execOp (ev Γ) (am ops k)).run P w=.ok (.enter f args) w:=by kernel_rfl):LG P n N R X ops k Γ w:=by
 simp only[i2,decide_eq_true_eq,bne_iff_ne,ne_eq] at a
 exact lC t s (s.lends2 a.1.1 a.1.2 a.2 c) H d hr
theorem DX {w w':World}{h j f:Hp}{b:Nat}{M:List Nat}(o:h[b]?=some bg)(p:∀ c,c≠b->j[c]?=h[c]?)(i:j.size=h.size)(u:UpM M w j w' f):∃ d,UpM M w h w' d/\(∀ c,c≠b->d[c]?=f[c]?):=by
 have x:=aR o;have a:b<f.size:=ek oM u.gr.size;refine ⟨f.setIfInBounds b bg,⟨u.mo,⟨by simp;rw[<-i];exact u.gr.size,fun c l=>?_⟩,⟨by simp;exact u.g.size,fun c=>?_⟩⟩,fun c l=>hP (Ne.symm l)⟩
 ·by_cases e:b=c
  ·subst e;rw[As a,o]
  ·rw[hP e,u.gr.blk c oM,p c (Ne.symm e)]
 ·by_cases e:b=c
  ·subst e;right;rw[As a]
  ·rw[hP e];exact u.g.blk c
theorem IF (t i j:Nat){f:FuncId}{args:Array Value}{Φ:Value->World->Prop}(s:SS w0 h0 w h B Rs F)(c:∀ l,G w l->AllF F l->l[(aw B i).b]?=some bg->Seg l (aw B j).b 0 (aw B j).vs->Calls P f args w (fd (aw B i).b w l (fun v w' _=>Φ v w')))(H:∀ v w' o,UpM [(aw B i).b] w h w' o->Φ v w'->LG P n N R X ops (k+1) ((t,v)::Γ) w')(a:(decide (i<B.length) && decide (j<B.length) && (i != j))=true:=by kernel_rfl)(I:cL ops Γ k t n=true:=by kernel_rfl)(hr:(execOp (ev Γ) (am ops k)).run P w=.ok (.enter f args) w:=by kernel_rfl):LG P n N R X ops k Γ w:=by
 simp only[i2,decide_eq_true_eq,bne_iff_ne,ne_eq] at a
 have p:=bx a.1.2;have z:(aw B i).b≠(aw B j).b:=gB s.st (decide_eq_true a.1.1) (decide_eq_true a.1.2) (by simpa using a.2);obtain ⟨l,g,gw,D,y⟩:=CM s.g (s.st.jk _ p) (s.st.own _ p);refine gk (rb:=(aw B i).b) (Φ:=fun v w' _=>Φ v w') (h:=h) t ((c l g (s.f.gw s.mo gw) (by rw[y _ z];exact s.st.jk _ (bx a.1.1)) D).mono ?_) (fun v w' o u d=>H v w' o u d) I hr;rintro e w' ⟨v,o,J,u,d⟩;obtain ⟨x,C,_⟩:=DX (s.st.jk _ p) y (s.g.sz g) u;exact ⟨v,x,J,C,d⟩
theorem K6 {α:Type}(t j:Nat)(x y:Operand)(D e:TypeId)(f:α->List Value)(d:α)(A:Z9)(l2:List α)(m m2 c U:Nat)(s:SS w0 h0 w h B Rs F)(so:SlO 1 f d h A l2)(L:l2.length=m2)(Q:m2=m)(V:0<m)(i:(aw B j).vs.length=m)
  (H:∀ w',SS w0 h0 w' h (iw B j (l2.flatMap f)) Rs F->LG P n N R X ops (k+1) ((t,.int .i64 (m:Nat))::Γ) w')(W:m<=1099511627776:=by omega)(I:cL ops Γ k t n=true:=by kernel_rfl)(hj:decide (j<B.length)=true:=by kernel_rfl)
  (hf:∀ x,(f x).length=1:=by intro _;rfl)(h1:∀ x,(f x).all (·.oneCell')=true:=by intro _;kernel_rfl)(Y:(am ops k).op=.call { callee:=.builtin .copy,args:=#[x,y],argTypes:=#[D,D] }:=by kernel_rfl)(hx:ev Γ x=.slice (some ⟨(aw B j).b,0,none⟩) m U:=by kernel_rfl)(S:ev Γ y=.slice A m2 c:=by kernel_rfl)
  (O:P.underlying D=some (.slice e):=by kernel_rfl)(hi:(P.info? e).map (·.size)=some 1:=by kernel_rfl):LG P n N R X ops k Γ w:=by
 subst Q;have Z:=L;have o:=oT hj;have z:=s.st.own _ (bx o);have C:(l2.flatMap f).length=m2:=by rw[bY hf,Z];omega
 rw[so.ok oM] at S
 have l:=run_copy_row (P:=P) w D D (am ops k).type e (aw B j).b 0 m2 U ⟨aB A,aO A,none⟩ m2 c (aw B j).vs.toArray (aw B j).t (l2.flatMap f) O hi z (by rw[C];exact (Nat.min_self m2).symm) (gJ s.g (so.flat hf)) (by rw[C];simp[i]) (fun u O=>by
  obtain ⟨a,_,ha⟩:=Mj.1 O;exact (oi.1 (h1 a)) u ha)
 have e1:((aw B j).vs.toArray.toList.take 0++l2.flatMap f++(aw B j).vs.toArray.toList.drop (0+(l2.flatMap f).length)).toArray=(l2.flatMap f).toArray:=by
  rw[C];simp[Mm,i]
 rw[e1,C] at l
 have p:Put (aw B j).b w (w.setRow (aw B j).b (l2.flatMap f).toArray):=⟨rfl,rfl,rfl,by simp,fun c I=>setRow_other _ _ _ _ I⟩
 have K:Own (w.setRow (aw B j).b (l2.flatMap f).toArray) (aw B j).b (aw B j).t (bW (aw B j).vs 0 (l2.flatMap f)):=by
  have M:bW (aw B j).vs 0 (l2.flatMap f)=l2.flatMap f:=by
   have:=kb (l2.flatMap f) (aw B j).vs [] (by rw[i,C])
   simpa using this
  rw[M];exact setRow_heap _ _ _ _ _ _ z
 have J:=s.st.put s.g0 o p K
 have M:bW (aw B j).vs 0 (l2.flatMap f)=l2.flatMap f:=by
  have:=kb (l2.flatMap f) (aw B j).vs [] (by rw[i,C])
  simpa using this
 unfold ib at J
 rw[M] at J
 refine LG.val t _ _ (bM I).1 (bM I).2 ?_ (H _ (s.put0 o p J (kv o)))
 unfold execOp
 have e3:goInt m2=.int .i64 (m2:Nat):=rfl;rw[e3] at l
 simp only[Y,resolve,invoke,builtin,Sem.run_bind,Sem.run_pure,Result.andThen_ok,Mq,Ag,Mr,hx,S,l]
theorem pL {Q:Exit->Act->World->Prop}{i:Nat}{y:Oper}{v:Value}{S:World->Prop}(hi:ops[i]?=some y)(p:∀ (j:Nat) (o:Oper) cs b,ops[j]?=some o->o.op≠.select cs b)
    (hQ:∀ c a w,Q (.panic c) (a.put y.dst v) w->Q (.panic c) a w)(O:∀ w w',S w->Tl M w w'->S w') :
    ∀ (n:Nat) (L:Array Bool) (a:Act) (w:World),
      (∀ j x,ops[j]?=some x->j≠i->L.getD j true=false->(∀ e∈x.after,Region.binds .any e=true->e.on≠i)->y.apart ops x=true) ->
      i∈Region.ready .any ops L->YieldsIf P ops S y v a->S w->ry M P ops Q 0 n (L.setIfInBounds i true) (a.put y.dst v) w->ry M P ops Q 0 (n+1) L a w:=by
  intro n
  induction n with
  | zero =>
    intro L a w _ hr D I H;refine ⟨fun h=>(by rw[h] at hr;cases hr),fun j J=>?_⟩
    by_cases hji:j=i
    . subst hji;exact D.wpOp hi I ⟨Rl.refl _ _ _ _,H⟩
    . have:=ready_mono J hji
      rw[H.1] at this
      cases this
  | succ n ih =>
    intro L a w d hr D I H;refine ⟨fun h=>(by rw[h] at hr;cases hr),fun j J=>?_⟩
    by_cases hji:j=i
    . subst hji;exact D.wpOp hi I ⟨Rl.refl _ _ _ _,H⟩
    . have h1:=H.2 j (ready_mono J hji)
      obtain ⟨l,x,u,B⟩:=mem_ready.1 J
      have z:∀ e∈x.after,Region.binds .any e=true->e.on≠i:=fun e he X W=>by
        have h1:=B e he X;have h0:=(mem_ready.1 hr).1;rw[W] at h1
        obtain ⟨Y,V⟩:=H5 h0
        simp[Array.getD,Y,V] at h1
      have Z:=wpOp_putIf u (d j x u hji l z) (fun cs b=>p i y cs b hi) (fun cs b=>p j x cs b u) hQ D h1
      have f:∀ k ok,ops[k]?=some ok->k≠i->(L.setIfInBounds j true).getD k true=false ->
          (∀ e∈ok.after,Region.binds .any e=true->e.on≠i)->y.apart ops ok=true:=fun k ok hk U C K=>by
        refine d k ok hk U ?_ K
        by_cases hjk:j=k
        . subst hjk;exact l
        . rw[getD_set_ne true hjk] at C;exact C
      refine wpOp_mono (fun a' w' F=>⟨F.2.1,ih (L.setIfInBounds j true) a' w' f (ready_mono hr (Ne.symm hji)) F.1 (O _ _ I (F.2.1.2 (Mv _))) ?_⟩) Z;rw[Array.setIfInBounds_comm _ _ hji];exact F.2.2
def wh (n:Nat)(ops:Array Oper)(L:Array Bool)(Γ:cl)(i t:Nat):Bool :=
  decide (i<ops.size) && Region.noSelect ops && Region.free .any ops L i && (Region.ready .any ops L).contains i && ((am ops i).dst == some t) && decide (t<n) && aY Γ (am ops i) && (bh ops Γ (am ops i) == some true)
theorem Fk (i t:Nat)(v:Value){S:World->Prop}(d:∀ w w',S w->Tl M w w'->S w')(K:S w)(hv:∀ w',S w'->(execOp (ev Γ) (am ops i)).run P w'=.ok (.value v) w')(H:AG M P n N R X ops 0 (L.setIfInBounds i true) ((t,v)::Γ) w)(f:wh n ops L Γ i t=true):AG M P n N R X ops 0 L Γ w:=by
 unfold wh at f
 simp only[i2,decide_eq_true_eq,beq_iff_eq] at f
 obtain ⟨⟨⟨⟨⟨⟨⟨h1,u⟩,z⟩,J⟩,F⟩,y⟩,B⟩,x⟩:=f;have hr:i∈Region.ready .any ops L:=by simpa using J
 have p:=bG (ops:=ops) h1;intro a l;have O:=l.exec (Region.noSelect_spec u i _ · · p) B;have I:=H _ (l.put y v)
 unfold A at *
 rw[fS hr];refine pL (S:=S) p (Region.noSelect_spec u) (fun c a w D=>D.elim) d _ _ _ _ (fun j C Q o e=>Region.free_spec p z j C Q o e) hr (.inl ⟨l.want x,fun w' h=>by rw[O];exact hv w' h⟩) K ?_;rw[F];exact I
theorem zV (i t:Nat)(v:Value)(H:AG M P n N R X ops 0 (L.setIfInBounds i true) ((t,v)::Γ) w)(a:wh n ops L Γ i t=true:=by kernel_rfl)(hv:∀ w,(execOp (ev Γ) (am ops i)).run P w=.ok (.value v) w:=by intro _;kernel_rfl):AG M P n N R X ops 0 L Γ w :=
 Fk i t v (S:=fun _=>True) (fun _ _ _ _=>trivial) trivial (fun w' _=>hv w') H a
theorem zO {K:Nat}(i t:Nat)(ps:List (Nat × Nat × Nat))(v:Value)(hz:M.z=some (K,[]))(y:K<=w.heap.size)(s:SS w0 h0 w h B Rs F)(f:∀ p∈ps,(aw B p.1).b<K)(H:AG M P n N R X ops 0 (L.setIfInBounds i true) ((t,v)::Γ) w)(C:wh n ops L Γ i t=true:=by kernel_rfl)(O:db B ps=true:=by kernel_rfl)(J:bX P (execOp (ev Γ) (am ops i)) (dM B ps)=some (.value v,cG B ps):=by kernel_rfl):AG M P n N R X ops 0 L Γ w :=
 Fk i t v (S:=fun w'=>K<=w'.heap.size/\∀ b,b<K->w'.heap[b]?=w.heap[b]?) (fun w1 w2 c o=>by
  obtain ⟨h1,l⟩:=o K [] hz;exact ⟨eb c.1 h1,fun b j=>(l b j List.not_mem_nil).trans (c.2 b j)⟩) ⟨y,fun _ _=>rfl⟩ (fun w' c=>cP _ _ _ _ J (fun q a u ha D=>by
  obtain ⟨p,e,d⟩:=rE ps q a ha;have:=eF (fun x I=>s.st.own x I) ps O q a u ha D;rw[<-this]
  unfold World.cell?
  rw[c.2 _ (d▸f p e)])) H C
theorem zC (i t:Nat){f:FuncId}{args:Array Value}(c:Calls P f args w fun e w'=>∃ v,e=.returned v/\Tl M w w'/\AG M P n N R X ops 0 (L.setIfInBounds i true) ((t,v)::Γ) w')(l:(il ops 0 L i && aY Γ (am ops i) && ((am ops i).dst == some t) && decide (t<n))=true:=by kernel_rfl)(u:bh ops Γ (am ops i)=some true:=by kernel_rfl)
  (hr:(execOp (ev Γ) (am ops i)).run P w=.ok (.enter f args) w:=by kernel_rfl):AG M P n N R X ops 0 L Γ w:=by
 simp only[i2,decide_eq_true_eq,beq_iff_eq] at l
 obtain ⟨⟨⟨h1,p⟩,o⟩,y⟩:=l;obtain ⟨j,x⟩:=lU h1;intro a h;refine A.one h1 j (R':=fun v w'=>Tl M w w'/\AG M P n N R X ops 0 (L.setIfInBounds i true) ((t,v)::Γ) w') ⟨h.want u,.inr (.inr ⟨f,args,?_,c⟩)⟩ (fun v w' d=>d.1) (fun v w' d=>?_)
 ·rw[h.exec (Region.noSelect_spec x i _ · · j) p];exact hr
 ·rw[o];exact d.2 _ (h.put y v)
theorem HF {K:Nat}{w':World}(hz:M.z=some (K,[]))(d:K<=w.heap.size)(x:Ext w w'):Tl M w w':=fun a bs e=>by
 rw[hz] at e
 injection e with e;injection e with e1 e2
 subst e1 e2;exact ⟨x.size,fun b c _=>Below.block x b oM⟩
theorem Ih {K b:Nat}{w':World}(hz:M.z=some (K,[]))(f:K<=w.heap.size)(d:K<=b)(x:Mo [b] w w'):Tl M w w':=fun a bs e=>by
 rw[hz] at e
 injection e with e;injection e with e1 e2
 subst e1 e2;exact ⟨x.size,fun c h _=>x.blk c oM (by simp;omega)⟩
theorem rz {K:Nat}(i t:Nat){f:FuncId}{args:Array Value}{Φ:Value->Hp->Prop}(c:Calls P f args w (Ret w h Φ))(hz:M.z=some (K,[]))(j:K<=w.heap.size)(H:∀ v w' a,Up w h w' a->K<=w'.heap.size->Φ v a->AG M P n N R X ops 0 (L.setIfInBounds i true) ((t,v)::Γ) w')(o:(il ops 0 L i && aY Γ (am ops i) && ((am ops i).dst == some t) && decide (t<n))=true:=by kernel_rfl)(l:bh ops Γ (am ops i)=some true:=by kernel_rfl)
  (hr:(execOp (ev Γ) (am ops i)).run P w=.ok (.enter f args) w:=by kernel_rfl):AG M P n N R X ops 0 L Γ w :=
 zC i t (c.mono fun e w' ⟨v,a,p,u,d⟩=>⟨v,p,HF hz j u.ext,H v w' a u (eb j u.ext.size) d⟩) o l hr
theorem Kz {K rb:Nat}(i t:Nat){f:FuncId}{args:Array Value}{Φ:Value->World->Hp->Prop}(c:Calls P f args w (fd rb w h Φ))(hz:M.z=some (K,[]))(l:K<=w.heap.size)(d:K<=rb)(H:∀ v w' a,UpM [rb] w h w' a->K<=w'.heap.size->Φ v w' a->AG M P n N R X ops 0 (L.setIfInBounds i true) ((t,v)::Γ) w')(p:(il ops 0 L i && aY Γ (am ops i) && ((am ops i).dst == some t) && decide (t<n))=true:=by kernel_rfl)(o:bh ops Γ (am ops i)=some true:=by kernel_rfl)
  (hr:(execOp (ev Γ) (am ops i)).run P w=.ok (.enter f args) w:=by kernel_rfl):AG M P n N R X ops 0 L Γ w :=
 zC i t (c.mono fun e w' ⟨v,a,x,u,j⟩=>⟨v,x,Ih hz l d u.mo,H v w' a u (eb l u.mo.size) j⟩) p o hr
theorem fi (s:SS w0 h0 w h B Rs F)(j:Nat)(a:decide (j<B.length)=true:=by kernel_rfl):(aw B j).b<w.heap.size:=by rw[s.g.size];exact aR (s.jk j a)
theorem HZ (t b o len c sz:Nat)(i:Int)(j e:Nat)(H:LG P n N R X ops (k+1) ((t,.pointer (some ⟨b,0+e*sz,none⟩))::Γ) w)(f:cL ops Γ k t n=true:=by kernel_rfl)(h:CC P (ev Γ) (am ops k)=some (.slice (some ⟨b,o,none⟩) len c,.int .i64 i,sz):=by kernel_rfl)(hk:i=j:=by omega)(d:j<len:=by omega)(a:o+j*sz=0+e*sz:=by omega):LG P n N R X ops k Γ w :=
 LG.val t _ w (bM f).1 (bM f).2 (a▸ia h rfl hk d w) H
theorem KS (i t b o len c sz:Nat)(x:Int)(j e:Nat)(H:AG M P n N R X ops k0 (L.setIfInBounds i true) ((t,.pointer (some ⟨b,0+e*sz,none⟩))::Γ) w)(h:cE n ops k0 [] L Γ i t=true:=by kernel_rfl)(f:CC P (ev Γ) (am ops i)=some (.slice (some ⟨b,o,none⟩) len c,.int .i64 x,sz):=by kernel_rfl)(hk:x=j:=by omega)(d:j<len:=by omega)(a:o+j*sz=0+e*sz:=by omega):AG M P n N R X ops k0 L Γ w :=
 aV i t _ H h (fun w=>a▸ia f rfl hk d w)
theorem K5 (i t b o len c sz:Nat)(x:Int)(j e:Nat)(H:AG M P n N R X ops k0 (L.setIfInBounds i true) ((t,.pointer (some ⟨b,0+e*sz,none⟩))::Γ) w)(f:cT n ops k0 L Γ i t=true:=by kernel_rfl)(h:CC P (ev Γ) (am ops i)=some (.slice (some ⟨b,o,none⟩) len c,.int .i64 x,sz):=by kernel_rfl)(hk:x=j:=by omega)(d:j<len:=by omega)(a:o+j*sz=0+e*sz:=by omega):AG M P n N R X ops k0 L Γ w :=
 T.val i t _ w (jh f).1 (jh f).2 (a▸ia h rfl hk d w) H
theorem KZ (t b o len a sz:Nat)(i:Int)(j f:Nat)(H:LG P n N R X ops (k+1) ((t,.slice (some ⟨b,f,none⟩) (len-j) (a-j))::Γ) w)(p:cL ops Γ k t n=true:=by kernel_rfl)(u:Cm P (ev Γ) (am ops k)=some (.slice (some ⟨b,o,none⟩) len a,some (.int .i64 i),none,sz):=by kernel_rfl)(hk:i=j:=by omega)(l:j<=len:=by omega)(c:a≠j:=by omega)(d:f=o+j*sz:=by omega):LG P n N R X ops k Γ w:=by
 have h:=lm j u hk l w;rw[if_neg c] at h
 have e:(some (⟨b,o,none⟩:Addr)).map (·.add (j*sz))=some ⟨b,f,none⟩:=by subst d;simp[Addr.add]
 rw[e] at h
 exact LG.val t _ w (bM p).1 (bM p).2 h H
theorem SS.torow {α:Type}(s:SS w0 h0 w h B Rs F)(j:Nat)(f:α->List Value)(l:List α)(sz m:Nat)(y:l.length=m)(D:m<=1099511627776)(hB:(aw B j).vs=l.flatMap f:=by kernel_rfl)(hf:∀ x,(f x).length=sz:=by intro _;rfl)(C:decide (j<B.length)=true:=by kernel_rfl) :
    SS w0 h0 w h (B.eraseIdx j) (⟨(aw B j).t,sz,some ⟨(aw B j).b,0,none⟩,m,m,l.flatMap f⟩::Rs) F:=by
  have p:=oT C;have d:=bx p;have H:=s.st.own _ d
  have z:∀ x∈B.eraseIdx j,x.b≠(aw B j).b:=by
    intro x a c;obtain ⟨i,hi,u⟩:=ul.1 a;rw[List.getElem_eraseIdx] at u
    rw[List.length_eraseIdx_of_lt p] at hi
    split at u
    . rename_i I
      refine gB s.st (i:=i) (j:=j) (decide_eq_true oM) C (by simp;omega) ?_;rw[<-c,<-u];simp[aw,show i<B.length by omega]
    . rename_i I
      refine gB s.st (i:=i+1) (j:=j) (decide_eq_true oM) C (by simp;omega) ?_;rw[<-c,<-u];simp[aw,show i+1<B.length by omega]
  refine ⟨s.g0,⟨s.st.up,fun x a=>s.st.own x (A6 a),fun x a=>s.st.jk x (A6 a),fun x a=>s.st.lo x (A6 a),s.st.nd.sublist ((List.eraseIdx_sublist B j).map (·.b))⟩,?_,?_,s.mo,s.f⟩
  . intro r hr
    rcases gs.1 hr with rfl|hr
    . refine ⟨⟨by rw[bY hf,y],.inr ⟨(aw B j).b,m,(aw B j).vs.toArray,rfl,s.st.lo _ d,H,ea _,by unfold maxLen;omega,by rw[hB];simp[bY hf,y],by rw[hB];simp[LO,bY hf,y]⟩⟩,?_,?_⟩
      . intro b c
        have:(aw B j).b=b:=by simpa [Rw.v,Value.ownBlock] using c
        rw[<-this];exact s.st.jk _ d
      . intro b c o
        have:(aw B j).b=b:=by simpa [Rw.v,Value.ownBlock] using c
        obtain ⟨x,a,e⟩:=gg.1 o;exact z x a (e.trans this.symm)
    . exact (s.ro r hr).sub _ (fun b c=>by
        obtain ⟨x,a,e⟩:=gg.1 c;exact gg.2 ⟨x,A6 a,e⟩)
  . refine Mk.2 ⟨fun r hr b c hv=>?_,s.ap⟩
    have:(aw B j).b=b:=by simpa [Rw.v,Value.ownBlock] using c
    exact (s.ro r hr).ap b hv (this▸gg.2 ⟨_,d,rfl⟩)
theorem JW {α:Type}(t j m K:Nat)(l:List α)(f:α->List Value)(d x:α)(y:Nat)(z:Value)(s:SS w0 h0 w h B Rs F)(O:Seg h K 0 (f x))(I:l.length=m)(J:m<=1000000000)
  (H:∀ a c' w' i,SS w0 h0 w' i (B.eraseIdx j) Rs ((fun h=>SlO 1 f d h a (l++[x]))::F)->m+1<=c'->LG P n N R X ops (k+1) ((t,.slice a (m+1) c')::Γ) w')(Q:cL ops Γ k t n=true:=by kernel_rfl)(Y:decide (j<B.length)=true:=by kernel_rfl)(hB:(aw B j).vs=l.flatMap f:=by kernel_rfl)
  (W:p9 P (ev Γ) (am ops k)=some (.slice (some ⟨(aw B j).b,0,none⟩) m m,.slice (some ⟨K,0,none⟩) 1 1,(aw B j).t,z,1,y):=by kernel_rfl)(e:z.cells.size=1:=by kernel_rfl)(hf:∀ x,(f x).length=1:=by intro _;rfl)(h1:(f x).all (·.oneCell')=true:=by kernel_rfl)(c:y<=100:=by decide):LG P n N R X ops k Γ w:=by
 have C:=s.torow j f l 1 m I oM hB hf Y
 refine JZ t 0 (f x) C (jH C.g O) (hf x) (fun u V=>(oi.1 h1) u V) (by simp) rfl Q W e kD oM (by
  have:(m+1)*y<=(m+1)*100:=Lz _ c
  omega) (fun a c' w' i D=>?_)
 have L:m+1=(l++[x]).length:=by simp[I]
 have U:l.flatMap f++f x=(l++[x]).flatMap f:=by simp
 rw[U,Mn] at D
 have M:SS w0 h0 w' i (B.eraseIdx j) (⟨(aw B j).t,1,a,c',(l++[x]).length,(l++[x]).flatMap f⟩::Rs) F:=by rw[<-L];exact D
 obtain ⟨p,S,o⟩:=M.pubr 0 d hf rfl (by simp);exact H a c' w' p S (by rw[L];exact o)
theorem SS.perm (s:SS w0 h0 w h B Rs F){c:List Bx}(p:B.Perm c):SS w0 h0 w h c Rs F :=
 ⟨s.g0,⟨s.st.up,fun x a=>s.st.own x (p.mem_iff.2 a),fun x a=>s.st.jk x (p.mem_iff.2 a),fun x a=>s.st.lo x (p.mem_iff.2 a),(p.map (·.b)).nodup_iff.1 s.st.nd⟩,
  fun r hr=>(s.ro r hr).sub _ (fun b d=>(p.map (·.b)).mem_iff.2 d),s.ap,s.mo,s.f⟩
end
theorem kE (a:Nat)(A:Z9)(c:Nat)(hc:(lim a).length<=c)(Y:(lim a).length<=4000000000)(k:Nat)(hk:k<=4000000000)(w:World)(h:Hp)(g:G w h)(X:S3 A (lim a) h):CR 162 #[.slice A ((lim a).length) c,nV k] w h (fun v h1=>RN h1 v (a*2^k)):=by
 have d:=((sS g).aS X);obtain ⟨L,hL⟩:∃ L:List Nat,L=zZ (k/32) 0:=⟨_,rfl⟩;have C:L.length=k/32:=by rw[hL,List.length_replicate]
 refine go Tryz.func162 [(0,qS A ((lim a).length) c),(1,nV k)] rfl (aa d ac (ah (aa d ac ?_)));have ⟨H,O⟩:=dT (p:=(0:Int)<=(k:Int)) oM;refine lB 12 H (ak (aa d ac (lV 14 (nV L.length) ?_ (hr:=aI (aI (dD (t:=3) (u:=3) (x:=.tmp 13) (y:=.const (iV 32)) (k:=.i64) (a:=(k:Int)) (b:=(32:Int)) kR kR kR oM _) (dI k 32 oM)) oM))));refine lK 15 139 L.length 1 4 (uW 0) az 0 d (fun S w3 h4 d=>?_);have Z:(zZ L.length 0).length=L.length:=by simp
 refine lL d ac (aG (lL d ac (ah (aD ?_))));rw[show zZ L.length 0=L by rw[C];exact hL.symm] at d
 replace d:=d.torow 0 az L 1 L.length rfl oM;replace d:=d.to [] [⟨139,1,sB S,L.length,(L).length,(L).flatMap az⟩];refine lL d ac (aZ ?_);refine bH _ (CG.loop (fun F Γ V=>∃ (i:Nat)(B:Z9)(z:Nat)(l:List Nat)(e:Nat)(h_:Hp),F=(lim a).length+1-i/\Γ=[(0,qS A ((lim a).length) c),(1,nV k),(4,sZ),(7,nV i),(6,mV e),(5,qS B ((l).length) z)]/\SS w h V h_ [] [⟨139,1,B,z,(l).length,(l).flatMap az⟩] [S3 A (lim a)]/\i<=(lim a).length+1/\l.length=L.length+i/\Ld l/\e<2^(k%32)/\ai 4294967296 l+4294967296^l.length*e=4294967296^L.length*(2^(k%32)*ai 4294967296 ((lim a).take i))) _ ⟨0,sB S,L.length,L,0,h4,rfl,rfl,d.to _ _,Mv _,rfl,(by rw[hL];exact Ld.rep _),Lv _,(by rw[hL,dJ];simp[ai])⟩ ?_);rintro _ _ w6 ⟨i,B,z,l,e,h7,hm8,rfl,d,hi,j,U,J,inv⟩;have I:=(Ld.lim a).get i;refine cQ (aa d [.c,.c,.v (nV ((lim a).length))] ?_);cases o:(decide ((i:Int)<=(((lim a).length:Nat):Int)))
 .
  have D:=oF o;refine lB 19 o (ag (CG.exit ?_))
  show CG _ _ _ _ _ _ _ _
  refine aa d ac ?_;have hin:i=(lim a).length+1:=by omega
  rw[LO (show (lim a).length<=i by omega),dd,j] at inv
  have W:ai 4294967296 l=a*2^k:=tI (c:=e) (by rw[j,inv,x8 k,C];ac_rfl) (by rw[j,x8 k];exact wd (cB a) oM oM);obtain ⟨_,d,Q⟩:=d.pubr 0 (A:=B) (c:=z) (l:=l) (f:=az) (ty:=139) (sz:=1) 0 (fun _=>rfl);exact aq 39 d (jj B z l ((l).length) rfl oM Q _ _ d.g d.f.1) (fun _ _ d=>lL d ac (ae d [] (qS B (tl l ((l).length)) z) (RN.trim U W rfl Q d.f.1)))
 have D:=oT o;refine lB 19 o (ak (cK (cQ (kZ (aa d cJ (aq 25 d (Hy A c (lim a) ((lim a).length) rfl i oM (Ld.lim _) _ _ d.g d.f.1) (fun _ _ d=>lL d ac (lV 27 (nV (k%32)) ?_ (hr:=aI (fq (t:=3) (u:=3) (x:=.tmp 26) (y:=.const (iV 32)) (k:=.i64) (a:=(k:Int)) (b:=(32:Int)) kR kR kR oM _) (dk k 32))))))))));refine lV 28 (mV (k%32)) ?_ (hr:=rU (((k%32:Nat):Int)) kR (be oM oM));refine lV 29 (mV (((lim a).getD i 0)*2^(k%32)%18446744073709551616)) ?_ (hr:=ig (t:=43) (u:=140) (x:=.tmp 25) (y:=.tmp 28) (ky:=.u64) (a:=((lim a).getD i 0)) (n:=(k%32)) kR kR kR _);obtain ⟨K,hS2,M⟩:=JJ (x:=(lim a).getD i 0) (p:=k%32) (c:=e) oM I J;refine lV 30 (mV (e+(lim a).getD i 0*2^(k%32))) ?_ (hr:=aI (ir (t:=43) (u:=43) (x:=.tmp 22) (y:=.tmp 29) (a:=e) (b:=(((lim a).getD i 0)*2^(k%32)%18446744073709551616:Nat)) kR kR kR oM oM _) (by rw[K]));refine lL d ac (aG (lL d ax (lV 33 (mW ((e+(lim a).getD i 0*2^(k%32))%4294967296)) ?_ (hr:=rT (((e+(lim a).getD i 0*2^(k%32):Nat):Int)) kR (gU _)))));refine lR 34 139 1 ([mW ((e+(lim a).getD i 0*2^(k%32))%4294967296)]) d (fun zb _ _ d=>lY 35 0 139 1 z B l az ((e+(lim a).getD i 0*2^(k%32))%4294967296:Nat) 4 zb (uW 0) d d.f.1 (fun zc zd _ ze d=>lL d ac (lN (kQ (lL d ac (lV 37 (mV ((e+(lim a).getD i 0*2^(k%32))/4294967296)) ?_ (hr:=aI (n:=Mt ((e+(lim a).getD i 0*2^(k%32):Nat):Int) 4294967296) kR (eh _ 4294967296))))))));refine lL d ac (lN (kQ (lL d ac (bv 21 ((i:Nat)+1) (i+1) ?_))));refine lL d ac (lD ?_);intro a_ ka;replace d:=d.tl;refine ⟨_,_,?_,⟨i+1,zc,zd,l++[((e+(lim a).getD i 0*2^(k%32))%4294967296:Nat)],((e+(lim a).getD i 0*2^(k%32))/4294967296:Nat),ze,rfl,rfl,d.to _ _,oM,(by rw[y5,j];rfl),(U.app (z6 _ kD)),M,(xS kD inv j rfl rfl)⟩,ka.to _ kR⟩
 omega
theorem qo (a:Nat)(A:Z9)(c:Nat)(I:(lim a).length<=c)(C:(lim a).length<=4000000000)(w:World)(h:Hp)(g:G w h)(B:S3 A (lim a) h):CV 124 #[.slice A ((lim a).length) c] w h (nV (nb a)):=by
 have d:=((sS g).aS B);have z:=@bR a;have o:=(Ld.lim a).get ((lim a).length-1);refine go Tryz.func124 [(0,qS A ((lim a).length) c)] rfl (aa d ac (ah (aa d [.c,.v (nV ((lim a).length))] ?_)));cases i:((((lim a).length:Nat):Int) == (0:Int))
 .
  have j:=aj i;refine lB 7 i (ag (cK (aa d [.c,.v (nV ((lim a).length))] (bv 10 (((lim a).length:Nat)-1) (((lim a).length)-1) ?_))));refine bv 11 (32*(((lim a).length)-1:Nat)) (32*(((lim a).length)-1:Nat)) (lL d ac (ah (aa d [.c,.c,.v (nV ((lim a).length))] (lI 15 (((lim a).length:Nat)-1) ?_))));refine lX 16 A ((lim a).length) c 1 (((lim a).length:Nat)-1) (((lim a).length)-1) ((d.f.1).ok oM) (lH 17 (mW ((lim a).getD (((lim a).length)-1) 0)) d ((d.f.1).el (((lim a).length)-1) oM) (lL d ac (aZ ?_)));refine bH _ (CG.loop (fun p Γ y=>∃ (n:Nat)(x:Nat)(h_:Hp),p=x/\Γ=[(2,iV 0),(3,nV n),(4,mW x)]/\SS w h y h_ [] [] [S3 A (lim a)]/\n+nb x=nb a/\x<4294967296/\nb a<=128000000000) _ ⟨32*((lim a).length-1),(lim a).getD ((lim a).length-1) 0,h,rfl,rfl,d.to _ _,(AN oM).symm,o,(by have:=sV a;omega)⟩ ?_);rintro _ _ w2 ⟨n,x,u,D,rfl,d,hn,K,H⟩;refine cQ (aa d ac ?_);cases e:(decide ((0:Int)<(x:Int)))
  .
   have l:=oF e;refine lB 19 e (ag (CG.exit ?_))
   show CG _ _ _ _ _ _ _ _
   exact aa d ax (ae d [] (nV n) (by obtain rfl:x=0:=oM;rw[Dn] at hn;rw[<-hn];rfl))
  have l:=oT e;refine lB 19 e (ak (cK (cQ (kZ (kQ (lL d ac (bv 23 ((n:Nat)+1) (n+1) ?_)))))));refine lL d ac (lN (kQ (lL d ac (lV 21 (mW (x/2)) ?_ (hr:=aI (n:=Mt (x:Nat) 2) kR (eh x 2))))));refine lL d ac (lD ?_);intro J F;refine ⟨_,_,?_,⟨n+1,x/2,u,rfl,rfl,d.to _ _,(by have:=Cx (n:=x) oM;omega),oM,H⟩,F.to _ kR⟩
  omega
 have j:=eq_of_beq i;exact lB 7 i (ak (aa d ac (ae d [] (iV 0) (by obtain rfl:a=0:=oM;rfl))))
theorem rX (a:Nat)(A:Z9)(c:Nat)(hc:(lim a).length<=c)(W:(lim a).length<=4000000000)(k:Nat)(hk0:0<k)(hk:k<=4000000000)(w:World)(h:Hp)(g:G w h)(V:S3 A (lim a) h):CR 162 #[.slice A ((lim a).length) c,iV (-(k:Int))] w h (fun v h1=>RN h1 v (a/2^k)):=by
 have d:=((sS g).aS V);refine go Tryz.func162 [(0,qS A ((lim a).length) c),(1,iV (-(k:Int)))] rfl (aa d ac (ah (aa d ac ?_)));have ⟨H,O⟩:=dF (p:=(0:Int)<=((-(k:Int)):Int)) oM;refine lB 12 H (ag (cK (aa d ac (lV 41 (nV k) ?_ (hr:=rS ((0-(-(k:Int)))) kR (by rw[IntKind.wrap_i64];omega))))));refine lL d ac (aG (lL d ac (ah (aa d ac (lV 43 (nV (k/32)) ?_ (hr:=aI (dD (t:=3) (u:=3) (x:=.tmp 42) (y:=.const (iV 32)) (k:=.i64) (a:=(k:Int)) (b:=(32:Int)) kR kR kR oM _) (dI k 32 oM)))))));refine lL d ac (aZ ?_);replace d:=d.nil 139 1;refine bH _ (CG.loop (fun D Γ S=>∃ (j:Nat)(z:Z9)(i:Nat)(l:List Nat)(h_:Hp),D=(lim a).length-(k/32+j)/\Γ=[(0,qS A ((lim a).length) c),(1,nV k),(4,sZ),(9,nV (k/32+j)),(8,qS z ((l).length) i)]/\SS w h S h_ [] [⟨139,1,z,i,(l).length,(l).flatMap az⟩] [S3 A (lim a)]/\l.length=j/\Ld l/\2^(k%32)*ai 4294967296 l+((lim a).drop (k/32)).getD 0 0%2^(k%32)=ai 4294967296 (((lim a).drop (k/32)).take j)+4294967296^j*(((lim a).drop (k/32)).getD j 0%2^(k%32))/\l.length<=(lim a).length) _ ⟨0,none,0,[],h,rfl,rfl,d.to _ _,rfl,Dg.nil,(by simp[ai]),(by simp)⟩ ?_);rintro _ _ w2 ⟨j,z,i,l,h3,Z,rfl,d,o,Q,inv,Y⟩;have I:=(Ld.lim a).get (k/32+j);have L:=(Ld.lim a).get (k/32+j+1);refine cQ (aa d [.c,.c,.v (nV ((lim a).length))] ?_);cases e:(decide (((k/32+j:Nat):Int)<(((lim a).length:Nat):Int)))
 .
  have C:=oF e;refine lB 47 e (ag (CG.exit ?_))
  show CG _ _ _ _ _ _ _ _
  refine aa d ac ?_;have U:ai 4294967296 l=a/2^k:=FI oM (by rw[o];exact inv);obtain ⟨h6,d,B⟩:=d.pubr 0 (A:=z) (c:=i) (l:=l) (f:=az) (ty:=139) (sz:=1) 0 (fun _=>rfl);exact aq 69 d (jj z i l ((l).length) rfl oM B _ _ d.g d.f.1) (fun w9 _ d=>lL d ac (ae d [] (qS z (tl l ((l).length)) i) (RN.trim Q U rfl B d.f.1)))
 have C:=oT e;refine lB 47 e (ak (cK (cQ (kZ (aa d ax (aq 52 d (Hy A c (lim a) ((lim a).length) rfl (k/32+j) oM (Ld.lim _) _ _ d.g d.f.1) (fun _ _ d=>lL d ax (bv 55 ((k/32+j:Nat)+1) ((k/32+j)+1) ?_))))))));refine aq 56 d (Hy A c (lim a) ((lim a).length) rfl ((k/32+j)+1) oM (Ld.lim _) _ _ d.g d.f.1) (fun _ _ d=>?_);obtain ⟨K,X,M⟩:=Jp (p:=k%32) oM I L;have F:=bD (l:=lim a) (k:=j) (n:=k/32);have J:=bD (l:=lim a) (k:=j+1) (n:=k/32);refine lV 57 (mV (((lim a).getD ((k/32+j)+1) 0:Nat)*4294967296%18446744073709551616)) ?_ (hr:=rU (((((lim a).getD ((k/32+j)+1) 0:Nat):Int)*4294967296)) kR (jW ((lim a).getD ((k/32+j)+1) 0:Nat) 4294967296));refine lV 58 (mV ((lim a).getD (k/32+j) 0+(lim a).getD (k/32+j+1) 0*4294967296)) ?_ (hr:=aI (ir (t:=43) (u:=43) (x:=.tmp 52) (y:=.tmp 57) (a:=((lim a).getD (k/32+j) 0)) (b:=(((lim a).getD ((k/32+j)+1) 0:Nat)*4294967296%18446744073709551616:Nat)) kR kR kR oM oM _) (by rw[K]));refine lL d ac (lN (kQ (lL d cJ (lV 62 (nV (k%32)) ?_ (hr:=aI (fq (t:=3) (u:=3) (x:=.tmp 61) (y:=.const (iV 32)) (k:=.i64) (a:=(k:Int)) (b:=(32:Int)) kR kR kR oM _) (dk k 32))))));refine lV 63 (mV (k%32)) ?_ (hr:=rU (((k%32:Nat):Int)) kR (be oM oM));refine lV 64 (mV (((lim a).getD (k/32+j) 0+(lim a).getD (k/32+j+1) 0*4294967296)/2^(k%32))) ?_ (hr:=gF (t:=43) (u:=140) (x:=.tmp 60) (y:=.tmp 63) (ky:=.u64) (a:=((lim a).getD (k/32+j) 0+(lim a).getD (k/32+j+1) 0*4294967296)) (n:=(k%32)) kR kR kR oM _);refine lV 65 (mW ((((lim a).getD (k/32+j) 0+(lim a).getD (k/32+j+1) 0*4294967296)/2^(k%32):Nat)%4294967296)) ?_ (hr:=rT (((((lim a).getD (k/32+j) 0+(lim a).getD (k/32+j+1) 0*4294967296)/2^(k%32):Nat):Int)) kR (gU _));refine lR 66 139 1 ([mW ((((lim a).getD (k/32+j) 0+(lim a).getD (k/32+j+1) 0*4294967296)/2^(k%32):Nat)%4294967296)]) d (fun za _ _ d=>lY 67 0 139 1 i z l az ((((lim a).getD (k/32+j) 0+(lim a).getD (k/32+j+1) 0*4294967296)/2^(k%32):Nat)%4294967296:Nat) 4 za (uW 0) d d.f.1 (fun zb zc _ zd d=>lL d ac (lN (kQ (lL d ac (bv 49 ((k/32+j:Nat)+1) ((k/32+j)+1) ?_))))));refine lL d ac (lD ?_);intro a_ ka;replace d:=d.tl;refine ⟨_,_,?_,⟨j+1,zb,zc,l++[((((lim a).getD (k/32+j) 0+(lim a).getD (k/32+j+1) 0*4294967296)/2^(k%32):Nat)%4294967296:Nat)],zd,rfl,rfl,d.to _ _,(by rw[y5,o];rfl),(Q.app (z6 _ kD)),(Gj o inv (by rw[F,J];exact M)),(by rw[y5];show _+1<=_;omega)⟩,ka.to _ kR⟩
 omega
def bj (l:List Nat):Nat:=ai 4294967296 l
theorem xX {a b:Nat}(ha:a<4294967296)(d:b<4294967296):a*b<=18446744065119617025:=by
 have h1:a<=4294967295:=by omega
 have c:b<=4294967295:=by omega
 exact Ma h1 c
def l3 (u2 u1 u0:Nat):Nat:=4294967296*(4294967296*u2+u1)+u0
def l2 (v1 v0:Nat):Nat:=4294967296*v1+v0
structure Hss (u2 u1 u0 v1 v0 g r o:Nat):Prop where
  e:g*v1+(r+4294967296*o)=4294967296*u2+u1
  lt:g+1=4294967296\/l3 u2 u1 u0<(g+1)*l2 v1 v0
  gb:g<4294967296
def Eo (u2 u1 u0 v1 v0 g:Nat):Prop:=g*l2 v1 v0<=l3 u2 u1 u0/\(g+1=4294967296\/l3 u2 u1 u0<(g+1)*l2 v1 v0)/\g<4294967296
theorem J7 {g c a:Nat}:g*l2 c a=4294967296*(g*c)+g*a:=by unfold l2;rw[Lm,Nat.mul_left_comm]
theorem Hss.fin {f u1 a d c g r o:Nat}(h:Hss f u1 a d c g r o)(i:g*c<=4294967296*(r+4294967296*o)+a):Eo f u1 a d c g:=by
 refine ⟨?_,h.lt,h.gb⟩;rw[J7]
 unfold l3
 rw[<-h.e,Lm]
 omega
theorem Hs {u:List Nat}{k:Nat}(hk:2<=k):l3 (u.getD k 0) (u.getD (k-1) 0) (u.getD (k-2) 0)=u.getD k 0*4294967296*4294967296+u.getD (k-1) 0*4294967296+u.getD (k-2) 0:=by
 unfold l3
 rw[H1 (u.getD k 0) 4294967296,H1 (4294967296*u.getD k 0) 4294967296,H1 (u.getD (k-1) 0),Lm]
theorem HH {c a:Nat}:l2 c a=c*4294967296+a:=by unfold l2;rw[H1]
section
variable {n j G:Nat}{u v:List Nat}
theorem F3 (hn:2<=n)(y:v.length=n)(a:Ld v)(d:Ld u)(z:j+n<u.length)(hR:bj u<4294967296^(j+1)*bj v):u.getD (j+n) 0<=v.getD (n-1) 0:=by
 rcases cD (v.getD (n-1) 0) (u.getD (j+n) 0) with h|h
 ·exfalso
  have c:=aJ 4294967296 (l:=v) (k:=n-1) oM;rw[show n-1+1=v.length by omega,yY] at c
  have h1:=bL (Dg.take a (n-1));rw[Lp,Lq oM] at h1
  have i:=aJ 4294967296 (l:=u) (k:=j+n) oM;have f:=bQ 4294967296 (l:=u) (k:=j+n+1) oM;have p:4294967296^(j+n)*(v.getD (n-1) 0+1)<=4294967296^(j+n)*u.getD (j+n) 0:=Lz _ h
  have e:4294967296^(j+1)*bj v<4294967296^(j+1)*(4294967296^(n-1)*(v.getD (n-1) 0+1)):=by
   refine LK ?_ (LF kD)
   show ai _ v<_
   rw[c,Lm,Nat.mul_one];omega
  rw[<-Ln,<-Ly,show j+1+(n-1)=j+n by omega] at e
  have x:bj u=ai 4294967296 (u.take (j+n))+4294967296^(j+n)*u.getD (j+n) 0+4294967296^(j+n+1)*ai 4294967296 (u.drop (j+n+1)):=by
   show ai _ u=_
   rw[f,i]
  have o:=Mv (4294967296^(j+n+1)*ai 4294967296 (u.drop (j+n+1)))
  omega
 ·exact h
theorem B8 (hn:2<=n)(i:v.length=n)(d:Ld v)(c:Ld u)(l:j+n<u.length)(a:v.getD (n-1) 0≠0)(hR:bj u<4294967296^(j+1)*bj v)(h:Eo (u.getD (j+n) 0) (u.getD (j+n-1) 0) (u.getD (j+n-2) 0) (v.getD (n-1) 0) (v.getD (n-2) 0) G) :
  bj u/(4294967296^j*bj v)<=G/\G<=bj u/(4294967296^j*bj v)+1:=by
 obtain ⟨h1,e,f⟩:=h;rw[Hs oM,HH] at h1 e
 exact nH kD hn i d c l a hR h1 e f
theorem BL (hn:2<=n)(f:v.length=n)(a:Ld v)(d:v.getD (n-1) 0≠0):4294967296^(n-1)<=bj v/\bj v<4294967296^n:=by
 have c:=bL a;rw[f] at c
 refine ⟨?_,c⟩;have e:=aJ 4294967296 (l:=v) (k:=n-1) oM;rw[show n-1+1=v.length by omega,yY] at e
 have h:4294967296^(n-1)*1<=4294967296^(n-1)*v.getD (n-1) 0:=Lz _ oM
 show _<=ai _ v
 omega
theorem xG (hn:2<=n)(d:v.length=n)(a:Ld v)(hR:bj u<4294967296^(j+1)*bj v):bj u<4294967296^(j+n+1):=by
 have c:=bL a;rw[d] at c
 have h1:4294967296^(j+1)*bj v<4294967296^(j+1)*4294967296^n:=LK c (LF kD);rw[<-Ly,show j+1+n=j+n+1 by omega] at h1
 omega
theorem Do {u1:List Nat}(hn:2<=n)(i:v.length=n)(d:Ld v)(f:Ld u)(h:Ld u1)(y:j+n<u.length)(c:v.getD (n-1) 0≠0)(hR:bj u<4294967296^(j+1)*bj v)
  (p:bj u/(4294967296^j*bj v)<=G/\G<=bj u/(4294967296^j*bj v)+1)(a:Above u1 u (j+n+1))(e:bj u1+4294967296^j*(G*bj v)=bj u+4294967296^(j+n+1)*0) :
  bj u1<4294967296^j*bj v/\bj u1+4294967296^j*(G*bj v)=bj u:=by
 obtain ⟨l,x⟩:=BL hn i d c;have o:=fr (b:=4294967296) kD a h f (by rw[a.1];omega) (xG hn i d hR);have:=(fW (b:=4294967296) kD hn l x hR o e (Mv 1) p).1 rfl;rw[Ls,yh] at e
 exact ⟨this.2.2.1,e⟩
theorem Ju {d a W K T c:Nat}(l:a+T*c=d+W)(i:d+W=K+T)(j:a<T)(o:K<W)(p:W<=T):a=K:=by
 have e:c=1:=by
  rcases Nat.lt_trichotomy c 1 with h|h|h
  ·have:c=0:=by omega
   subst this;omega
  ·exact h
  ·have f:T*2<=T*c:=Lz _ h
   omega
 subst e
 omega
theorem Gi {u1 d:List Nat}{c:Nat}(hn:2<=n)(C:v.length=n)(i:Ld v)(l:Ld u)(z:Ld u1)(y:Ld d)(Q:j+n<u.length)(h:v.getD (n-1) 0≠0)(hR:bj u<4294967296^(j+1)*bj v)
  (M:bj u/(4294967296^j*bj v)<=G/\G<=bj u/(4294967296^j*bj v)+1)(f:Above u1 u (j+n+1))(a:Above d u (j+n+1))(e:bj u1+4294967296^j*(G*bj v)=bj u+4294967296^(j+n+1)*1)
  (K:bj d+4294967296^(j+n+1)*c=bj u1+4294967296^j*bj v) :
  bj d<4294967296^j*bj v/\bj d+4294967296^j*((G-1)*bj v)=bj u/\0<G:=by
 obtain ⟨F,D⟩:=BL hn C i h;have p:=xG hn C i hR;have H:=fr (b:=4294967296) kD f z l (by rw[f.1];omega) p;have x:=fr (b:=4294967296) kD a y l (by rw[a.1];omega) p;obtain ⟨J,L,B,O⟩:=(fW (b:=4294967296) kD hn F D hR H e oM M).2 rfl
 have o:4294967296^j*bj v<=4294967296^(j+n+1):=by
  have h1:4294967296^j*bj v<=4294967296^j*4294967296^n:=Lz _ (Nat.le_of_lt D);rw[<-Ly] at h1
  have I:(4294967296:Nat)^(j+n)<=4294967296^(j+n+1):=Lw kD oM;exact eb h1 I
 have hk:bj d=bj u-4294967296^j*((G-1)*bj v):=Ju K L x B o;exact ⟨by rw[hk];exact B,by rw[hk];exact Nat.sub_add_cancel O,by rw[J];exact Mx _⟩
theorem Gt {u1:List Nat}(hn:2<=n)(i:v.length=n)(d:Ld v)(f:Ld u)(h:Ld u1)(z:j+n<u.length)(c:v.getD (n-1) 0≠0)(hR:bj u<4294967296^(j+1)*bj v)
  (p:bj u/(4294967296^j*bj v)<=G/\G<=bj u/(4294967296^j*bj v)+1)(a:Above u1 u (j+n+1))(e:bj u1+4294967296^j*(G*bj v)=bj u+4294967296^(j+n+1)*1):0<G:=by
 obtain ⟨l,x⟩:=BL hn i d c;have o:=fr (b:=4294967296) kD a h f (by rw[a.1];omega) (xG hn i d hR);obtain ⟨y,_⟩:=(fW (b:=4294967296) kD hn l x hR o e (ea 1) p).2 rfl;rw[y];exact Mx _
end
theorem Gs {q:List Nat}{j Q X V R R':Nat}(d:j<q.length)(h0:q.getD j 0=0)(inv:X=bj q*V+R)(e:R'+4294967296^j*(Q*V)=R):X=bj (q.set j Q)*V+R':=by
 have a:=cH 4294967296 (l:=q) (k:=j) Q d;rw[h0,Ls,yh] at a
 have c:bj (q.set j Q)=bj q+4294967296^j*Q:=a;rw[c,LN,inv,<-e,Ln];omega
theorem G0 {X V R q a b s:Nat}(e:V=b*2^s)(j:X=a*2^s)(inv:X=q*V+R)(hR:R<V):q=a/b/\R/2^s=a%b:=by
 have o:=Lv s;have l:0<V:=by omega
 have i:0<b:=by
  rcases Aw b with h|h
  ·rw[h,y6] at e;omega
  ·exact h
 have f:a*2^s=V*q+R:=by rw[<-j,inv,H1]
 obtain ⟨h1,c⟩:=ki (A:=a) (y:=b) (Q:=q) e f hR;have d:a=R/2^s+b*q:=by omega
 constructor
 ·rw[d,LD _ _ i,Hi c,y9]
 ·rw[d,Mg,z2 c]
structure Gk (u2 u1 u0 v1 v0 g r:Nat):Prop where
  e:g*v1+r=4294967296*u2+u1
  lt:4294967296<=g+1\/l3 u2 u1 u0<(g+1)*l2 v1 v0
theorem Gk.start {c u1 d a f:Nat}(hv:0<a)(h0:d<4294967296):Gk c u1 d a f ((c*4294967296+u1)/a) ((c*4294967296+u1)%a):=by
 have e:=LR (c*4294967296+u1) a;have hr:=z6 (c*4294967296+u1) hv
 generalize (c*4294967296+u1)/a=q at *
 generalize (c*4294967296+u1)%a=r at *
 rw[H1 c] at e
 refine ⟨by rw[H1 q];exact e,.inr ?_⟩;rw[J7,LN q 1 a,LP,H1 q a]
 unfold l3
 rw[<-e]
 have h1:4294967296*(a*q+r)+4294967296<=4294967296*(a*q+a):=by
  rw[<-LZ];exact Lz _ oM
 have h:0<=(q+1)*f:=Mv _
 omega
theorem Gk.step {c u1 f a i g r:Nat}(h:Gk c u1 f a i g r)(j:0<g):(g-1)*a+(r+a)=4294967296*c+u1:=by
 obtain ⟨p,rfl⟩:∃ p,g=p+1:=⟨g-1,by omega⟩;have d:=h.e;rw[LN,LP] at d
 rw[L5]
 omega
theorem Gk.decB {d u1 c a e g r:Nat}(h:Gk d u1 c a e g r)(f:4294967296<=g):Gk d u1 c a e (g-1) (r+a):=⟨h.step oM,.inl oM⟩
theorem Gk.decT {f u1 c a d g r:Nat}(h:Gk f u1 c a d g r)(j:4294967296*r+c<g*d):0<g/\Gk f u1 c a d (g-1) (r+a):=by
 have i:0<g:=dV j;refine ⟨i,h.step i,.inr ?_⟩;rw[show g-1+1=g by omega,J7]
 unfold l3
 rw[<-h.e,Lm]
 omega
theorem Gk.big {c u1 i a j g r:Nat}(h:Gk c u1 i a j g r)(f:4294967296<=g)(d:c<=a)(h1:u1<4294967296):r<4294967296:=by
 have e:=h.e;have l:4294967296*a<=g*a:=zh _ f;have o:4294967296*c<=4294967296*a:=Lz _ d
 omega
theorem Gk.fin {f u1 c d a g r:Nat}(h:Gk f u1 c d a g r)(i:g<4294967296)(h0:a<4294967296)(j:4294967296<=r\/g*a<=4294967296*r+c):Eo f u1 c d a g:=by
 have l:Hss f u1 c d a g r 0:=⟨by rw[Ls,yh];exact h.e,by rcases h.lt with h1|h1;exact .inl oM;exact .inr h1,i⟩;refine l.fin ?_;rw[Ls,yh]
 rcases j with h1|h1
 ·have o:=xX i h0
  have p:4294967296*4294967296<=4294967296*r:=Lz _ h1
  omega
 ·exact h1
theorem mE (n:Nat):(lim n).length=(nb n+31)/32:=by
 rcases Aw n with h|h
 ·subst h;rfl
 ·have h1:=AN h
  have a:=lr n h;have c:=(Ld.lim n).get ((lim n).length-1);have f:=bR.2 h
  generalize (lim n).getD ((lim n).length-1) 0=t at *
  have d:=(co (L0 a)).2.2;have e:nb t<=32:=kF (k:=32) c
  omega
theorem xw {b:Nat}(c:0<b)(s:Nat):nb (b*2^s)=nb b+s:=by
 obtain ⟨d,a,e⟩:=co c;rw[show nb b+s=(nb b-1+s)+1 by omega]
 apply kA
 ·rw[Ly];exact zh _ d
 ·rw[show nb b-1+s+1=nb b+s by omega,Ly];exact L8 a (Lv s)
section joi
variable {P:Program}{n:Nat}{N R:Po}{X:Nat->Po}{Γ:cl}{w:World}
theorem CG.join {x y:Code}(I:cl->World->Prop)(h1:CG P n (fun a w'=>∃ c,I c w'/\Kn n a c) R X x Γ w)(h:∀ Γ w,I Γ w->CG P n N R X y Γ w):CG P n N R X (.seq x y) Γ w:=by
 intro a i;refine wp_seq (wp_mono (h1 a i) ?_);intro e a w f;cases e with
 | normal=>obtain ⟨c,j,d⟩:=f;exact h c w j a d
 | _=>exact f
end joi
section fin
variable {M:Ms}{P:Program}{n:Nat}{N R:Po}{X:Nat->Po}{ops:Array Oper}{k0:Nat}{hr:Hp}{L:Array Bool}{Γ:cl}{w:World}{h:Hp}{w0:World}{h0:Hp}{B:List Bx}{Rs:List Rw}{F:List (Hp->Prop)}
theorem jV (s:SS w0 h0 w h B Rs F)(H:∀ w' a,Up w h w' a->SS w0 h0 w' a B Rs F->AG M P n N R X ops k0 L Γ w')(c:gI ops [] L=true:=by kernel_rfl):EG M P n N R X ops k0 hr [] L Γ w h:=Rg.fin0 c (fun w' a u=>H w' a u (s.step u))
end fin
section tail
variable {M:Ms}{P:Program}{n:Nat}{N R:Po}{X:Nat->Po}{ops:Array Oper}{k0:Nat}{L:Array Bool}{Γ:cl}{w:World}{h:Hp}{w0:World}{h0:Hp}{B:List Bx}{Rs:List Rw}{F:List (Hp->Prop)}
theorem Lg {α:Type}(i j e o:Nat)(a:List Value)(l:List α)(f:α->List Value)(sz:Nat)(d x:α){ty:TypeId}{c b:Nat}(s:SS w0 h0 w h B Rs F)(hk:e<l.length)(H:∀ w',SS w0 h0 w' h B (Rs.set j ⟨ty,sz,some ⟨b,0,none⟩,c,l.length,(l.set e x).flatMap f⟩) F->AG M P n N R X ops k0 (L.setIfInBounds i true) Γ w')
  (J:bW (f (l.getD e d)) o a=f x:=by rfl)(hf:∀ x,(f x).length=sz:=by intro _;rfl)(C:Ml (o+a.length) sz=true:=by kernel_rfl)(u:Rs.getD j default=⟨ty,sz,some ⟨b,0,none⟩,c,l.length,l.flatMap f⟩:=by kernel_rfl)(Q:decide (j<Rs.length)=true:=by kernel_rfl)
  (I:(il ops k0 L i && aY Γ (am ops i) && ((am ops i).dst == none))=true:=by kernel_rfl)(D:bh ops Γ (am ops i)=some true:=by kernel_rfl)
  (O:dO P (execOp (ev Γ) (am ops i))=some (.skip,np b (0+e*sz+o) a):=by kernel_rfl)(hz:∀ K bs,M.z=some (K,bs)->K<=b\/b∈bs:=by intro _ _ e;cases e):AG M P n N R X ops k0 L Γ w:=by
 have p:=D0 C;refine KY i j (0+e*sz+o) a s ?_ (fun w' y=>H w' ?_) u Q I D O hz
 ·rw[bY hf,y9]
  have:(e+1)*sz<=l.length*sz:=zh _ hk;rw[LN,LP] at this
  omega
 ·rw[y9,jB hf d l e x hk p J] at y
  exact y
end tail
theorem Du (x:Nat)(A:Z9)(c m:Nat)(f:(lim x).length=m)(e:m<=c)(a:m<=4000000000)(s:Nat)(i:s<=4000000000)(w:World)(h:Hp)(g:G w h)(d:S3 A (lim x) h):CR 162 #[.slice A m c,iV (-(s:Int))] w h (fun v h1=>RN h1 v (x/2^s)):=by
 subst f
 rcases Aw s with h0|h0
 ·subst h0
  have:=kE x A c e a 0 oM w h g d;rw[Mw,Nat.mul_one] at this
  rw[Mw,Nat.div_one];exact this
 ·exact rX x A c e a s h0 i w h g d
theorem xD {a b s k:Nat}(i:(lim (b*2^s)).length=k)(hk:2<=k)(c:k<=(lim (a*2^s)).length+1)(f:0<b*2^s):bj (lim (a*2^s)++[0,0])<4294967296^((lim (a*2^s)).length+2-(lim (b*2^s)).length)*bj (lim (b*2^s)):=by
 have d:bj (lim (a*2^s)++[0,0])=a*2^s:=by
  unfold bj;rw[cO,dd];simp[ai]
 have j:bj (lim (b*2^s))=b*2^s:=dd _;rw[d,j];have h1:=cB (a*2^s);have e:4294967296^((lim (b*2^s)).length-1)<=b*2^s:=by rw[uU];exact rJ kD f
 have h:4294967296^((lim (a*2^s)).length+2-(lim (b*2^s)).length)*4294967296^((lim (b*2^s)).length-1)<=4294967296^((lim (a*2^s)).length+2-(lim (b*2^s)).length)*(b*2^s):=Lz _ e;rw[<-Ly] at h
 have l:4294967296^(lim (a*2^s)).length<=4294967296^((lim (a*2^s)).length+2-(lim (b*2^s)).length+((lim (b*2^s)).length-1)):=Lw kD oM
 omega
theorem Gh {a s V n:Nat}:a*2^s=bj (zZ n 0)*V+bj (lim (a*2^s)++[0,0]):=by
 unfold bj;rw[dJ,y6,y9,cO,dd];simp[ai]
theorem n9 (a:Nat)(A:Z9)(c:Nat)(o:(lim a).length<=c)(b:Nat)(D:Z9)(d:Nat)(H:(lim b).length<=d)(B:(lim a).length<=3000000000)(F:(lim b).length<=3000000000)(i:a<b)(w:World)(h:Hp)(g:G w h)(C:S3 A (lim a) h)(y:S3 D (lim b) h):CR 138 #[.slice A ((lim a).length) c,.slice D ((lim b).length) d] w h (fun v h1=>∃ l x,v=.tuple #[l,x]/\RN h1 l (a/b)/\RN h1 x (a%b)):=by
 have e:=(((sS g).aS C).aS y);have z:=d9 i;refine go Tryz.func138 [(0,qS A ((lim a).length) c),(1,qS D ((lim b).length) d)] rfl (aa e ax (ah (aa e ax (aq 27 e (gZ a A c o b D d H oM oM _ _ e.g e.f.2.1 e.f.1) (fun w1 I e=>?_)))));have ⟨j,u⟩:=dT (p:=(bV a b:Int)<(0:Int)) oM;exact lB 28 j (ak (aa e cJ (ae e [] (.tuple #[sZ,qS A ((lim a).length) c]) (⟨_,_,rfl,by rw[Hi i];exact ⟨none,0,rfl,nR _,SlO.nil⟩,by rw[z2 i];exact ⟨A,c,rfl,o,e.f.2.1⟩⟩))))
theorem sT {b:Nat}(h:(lim b).length=1):b<4294967296/\(lim b).getD 0 0=b/\0<b:=by
 have h1:=cB b;rw[h] at h1
 have a:0<b:=bR.1 oM;refine ⟨by omega,?_,a⟩;rw[Ev a oM];rfl
theorem m7 (a:Nat)(A:Z9)(c:Nat)(F:(lim a).length<=c)(b:Nat)(D:Z9)(d:Nat)(Z:(lim b).length<=d)(Q:(lim a).length<=3000000000)(Y:(lim b).length<=3000000000)(o:b<=a)(h1:(lim b).length=1)(w:World)(h:Hp)(g:G w h)(S:S3 A (lim a) h)(M:S3 D (lim b) h):CR 138 #[.slice A ((lim a).length) c,.slice D ((lim b).length) d] w h (fun v h1=>∃ z J,v=.tuple #[z,J]/\RN h1 z (a/b)/\RN h1 J (a%b)):=by
 have e:=(((sS g).aS S).aS M);have O:=fM o;obtain ⟨U,j,l⟩:=sT h1;refine go Tryz.func138 [(0,qS A ((lim a).length) c),(1,qS D ((lim b).length) d)] rfl (aa e ax (ah (aa e ax (aq 27 e (gZ a A c F b D d Z oM oM _ _ e.g e.f.2.1 e.f.1) (fun w1 h2 e=>?_)))));have ⟨l,H⟩:=dF (p:=(bV a b:Int)<(0:Int)) oM;refine lB 28 l (ag (cK (cQ (aa e [.c,.v (nV ((lim b).length))] ?_))));have i:((((lim b).length:Nat):Int) == (1:Int))=true:=pE oM;have C:=eq_of_beq i;refine lB 32 i (ak (aa e ax (lX 36 D ((lim b).length) d 1 0 0 ((e.f.1).ok oM) ?_)));refine lH 37 (mW ((lim b).getD 0 0)) e ((e.f.1).el 0 oM) (lC 38 e (J5 a A c F oM ((lim b).getD 0 0) oM oM _ _ e.g e.f.2.1) ?_);rintro _ w5 h6 e ⟨_,r,rfl,⟨B,I,rfl,u,V⟩,y⟩;replace e:=e.aS V;refine lL e [.c,.v (qS B ((lim (a/((lim b).getD 0 0))).length) I),.v (mW r),.c,.c] (aG (lL e ax ?_));have K:=z6 a (show 0<(lim b).getD 0 0 by omega);refine lV 43 (mV r) ?_ (hr:=rU ((r:Int)) kR (be oM oM));refine lC 44 e (ot r oM _ _ e.g) ?_;rintro _ _ _ e ⟨L,W,rfl,x,X⟩;replace e:=e.aS X;exact lL e ax (ae e [] (.tuple #[qS B ((lim (a/((lim b).getD 0 0))).length) I,qS L ((lim r).length) W]) (⟨_,_,rfl,by rw[j] at *;exact ⟨_,_,rfl,u,e.f.2.1⟩,by rw[<-j,<-y];exact ⟨_,_,rfl,x,e.f.1⟩⟩))
theorem pz (a:Nat)(A:Z9)(c:Nat)(hc:(lim a).length<=c)(b:Nat)(D:Z9)(d:Nat)(hd:(lim b).length<=d)(hLa:(lim a).length<=3000000000)(hLb:(lim b).length<=3000000000)(hab:b<=a)(hb2:2<=(lim b).length)(s:Nat)(hs_:s=32*(lim b).length-nb b)(w:World)(h:Hp)(g:G w h)(hA:S3 A (lim a) h)(hD:S3 D (lim b) h):CR 138 #[.slice A ((lim a).length) c,.slice D ((lim b).length) d] w h (fun v h1=>∃ v1 v2,v=.tuple #[v1,v2]/\RN h1 v1 (a/b)/\RN h1 v2 (a%b)):=by
 have e:=(((sS g).aS hA).aS hD);have hcl:=fM hab;have hbp:0<b:=bR.1 oM;have hln:=mE b;have cd:s<32:=by omega
 have hvn:(lim (b*2^s)).length=(lim b).length:=by rw[mE,xw hbp];omega
 have hlm:=dE hab;have has:=dE (show a<=a*2^s from Nat.le_mul_of_pos_right _ (Lv s));have bz:(lim (a*2^s)).length<=(lim a).length+1:=eo (by rw[HA];exact ek (L8 (cB a) (Lv s)) (Lz _ (eb (Lw kD (show s<=32 by omega)) (nR (2^32)))));have _:([0,0]:List Nat).length=2:=rfl;have br:((lim (a*2^s))++[0,0]).length=((lim (a*2^s)).length+2):=by simp
 have X:=Ld.lim (b*2^s);have bd:=lr (b*2^s) (L7 hbp (Lv s));have hv1:=X.get ((lim (b*2^s)).length-1);have hv0:=X.get ((lim (b*2^s)).length-2);refine go Tryz.func138 [(0,qS A ((lim a).length) c),(1,qS D ((lim b).length) d)] rfl (aa e ax (ah (aa e ax (aq 27 e (gZ a A c hc b D d hd oM oM _ _ e.g e.f.2.1 e.f.1) (fun w1 h2 e=>?_)))));have ⟨hb3,b5⟩:=dF (p:=(bV a b:Int)<(0:Int)) oM;refine lB 28 hb3 (ag (cK (cQ (aa e [.c,.v (nV ((lim b).length))] ?_))));have hb4:((((lim b).length:Nat):Int) == (1:Int))=false:=fh oM;have b0:=aj hb4;refine lB 32 hb4 (ag (cK (aa e [.c,.v (nV ((lim b).length))] (bv 47 (32*((lim b).length:Nat)) (32*(lim b).length) ?_))));refine lL e ac (aq 49 e (qo b D d hd oM _ _ e.g e.f.1) (fun w5 h6 e=>bv 50 ((32*(lim b).length:Nat)-(nb b:Nat)) s (lL e ac (aG (lL e ax (lC 53 e (kE b D d hd oM s oM _ _ e.g e.f.1) ?_))))));rintro _ _ _ e ⟨S,Y,rfl,hc9,zR⟩;replace e:=e.aS zR;refine lL e ac (aG (lR 54 139 0 ([]) e (fun zj _ _ e=>lL e ax (lC 57 e (kE a A c hc oM s oM _ _ e.g e.f.r.2.1) ?_))));rintro _ _ _ e ⟨zk,ye,rfl,ch,zS⟩;replace e:=e.aS zS;refine Lh 58 139 1 az 0 zj zk (lim (a*2^s)) ye 4 (uW 0) e e.f.1 oM (fun _ _=>by kernel_rfl) (fun yf yg _ _ e=>lR 59 139 2 ([uW 0,uW 0]) e (fun ze _ _ e=>?_));replace e:=e.aS (SlO.of_flat (sz:=1) (f:=az) (d:=0) (l:=[0,0]) (fun _=>rfl) e.f.1);refine KU 60 0 139 1 yg yf (lim (a*2^s)) az 0 (sB ze) ([0,0]) 2 4 (uW 0) e e.f.1 oM (fun zP zQ _ _ e=>lL e ac (aG (lL e [.c,.v (nV ((lim (b*2^s)).length)),.c] (aG (lL e ax (bv 65 (((lim (b*2^s)).length:Nat)-1) (((lim (b*2^s)).length:Nat)-1) ?_))))));refine lX 66 S ((lim (b*2^s)).length) Y 1 (((lim (b*2^s)).length:Nat)-1:Nat) (((lim (b*2^s)).length:Nat)-1:Nat) ((e.f.q.1).ok oM) (lH 67 (mW ((lim (b*2^s)).getD (((lim (b*2^s)).length:Nat)-1:Nat) 0)) e ((e.f.q.1).el (((lim (b*2^s)).length:Nat)-1:Nat) oM) (lV 68 (mV ((lim (b*2^s)).getD (((lim (b*2^s)).length:Nat)-1:Nat) 0)) ?_ (hr:=rU ((((lim (b*2^s)).getD (((lim (b*2^s)).length:Nat)-1:Nat) 0:Nat):Int)) kR (be oM oM))));refine lL e ac (aG (lL e ax (bv 71 (((lim (b*2^s)).length:Nat)-2) (((lim (b*2^s)).length:Nat)-2) ?_)));refine lX 72 S ((lim (b*2^s)).length) Y 1 (((lim (b*2^s)).length:Nat)-2:Nat) (((lim (b*2^s)).length:Nat)-2:Nat) ((e.f.q.1).ok oM) (lH 73 (mW ((lim (b*2^s)).getD (((lim (b*2^s)).length:Nat)-2:Nat) 0)) e ((e.f.q.1).el (((lim (b*2^s)).length:Nat)-2:Nat) oM) (lV 74 (mV ((lim (b*2^s)).getD (((lim (b*2^s)).length:Nat)-2:Nat) 0)) ?_ (hr:=rU ((((lim (b*2^s)).getD (((lim (b*2^s)).length:Nat)-2:Nat) 0:Nat):Int)) kR (be oM oM))));refine lL e ac (lN (bH [(4,sZ),(5,sZ),(8,nV s),(9,qS S ((lim (b*2^s)).length) Y),(10,qS zP ((lim (a*2^s)++([0,0])).length) zQ),(11,nV ((lim (b*2^s)).length)),(12,mV ((lim (b*2^s)).getD (((lim (b*2^s)).length:Nat)-1:Nat) 0)),(13,mV ((lim (b*2^s)).getD (((lim (b*2^s)).length:Nat)-2:Nat) 0))] ?_));refine aa e [.c,.v (nV ((lim (a*2^s)++([0,0])).length)),.c] (bv 78 (((lim (a*2^s)++([0,0])).length:Nat)-((lim (b*2^s)).length:Nat)) (((lim (a*2^s)).length+2)-(lim (b*2^s)).length) ?_);refine lK 79 139 (((lim (a*2^s)).length+2)-(lim (b*2^s)).length:Nat) 1 4 (uW 0) az 0 e (fun M _ yi e=>?_);have zU:(zZ (((lim (a*2^s)).length+2)-(lim (b*2^s)).length:Nat) 0).length=(((lim (a*2^s)).length+2)-(lim (b*2^s)).length:Nat):=by simp
 refine lL e ac (ah (aa e [.c,.v (nV ((lim (a*2^s)++([0,0])).length)),.c] (bv 83 (((lim (a*2^s)++([0,0])).length:Nat)-((lim (b*2^s)).length:Nat)) (((lim (a*2^s)++([0,0])).length:Nat)-((lim (b*2^s)).length:Nat)) ?_)));refine lV 84 (iV (((((lim (a*2^s)).length+2)-(lim (b*2^s)).length:Nat):Int)-1)) ?_ (hr:=rS (((((lim (a*2^s)++([0,0])).length:Nat)-((lim (b*2^s)).length:Nat):Nat)-1)) kR ((gH oM oM).trans oM));refine lL e ac (aZ ?_);refine bH _ (CG.loop (fun μ_ Γ w_=>∃ (m:Nat)(rA:Z9)(Q:Nat)(u:List Nat)(V:List Nat)(L:Hp),μ_=m/\Γ=[(4,sZ),(5,sZ),(8,nV s),(9,qS S ((lim (b*2^s)).length) Y),(10,qS rA ((u).length) Q),(11,nV ((lim (b*2^s)).length)),(12,mV ((lim (b*2^s)).getD (((lim (b*2^s)).length:Nat)-1:Nat) 0)),(13,mV ((lim (b*2^s)).getD (((lim (b*2^s)).length:Nat)-2:Nat) 0)),(14,qS (sB M) (((lim (a*2^s)).length+2)-(lim (b*2^s)).length:Nat) (((lim (a*2^s)).length+2)-(lim (b*2^s)).length:Nat)),(15,iV ((m:Int)-1))]/\SS w h w_ L [⟨M,139,(V).flatMap az⟩] [⟨139,1,rA,Q,(u).length,(u).flatMap az⟩] [S3 (sB ze) ([0,0]),fun L=>Seg L ze 0 ([uW 0,uW 0]),S3 zk (lim (a*2^s)),fun L=>Seg L zj 0 ([]),S3 S (lim (b*2^s)),S3 D (lim b),S3 A (lim a)]/\m<=((lim (a*2^s)).length+2)-(lim (b*2^s)).length/\u.length=((lim (a*2^s)).length+2)/\Ld u/\V.length=((lim (a*2^s)).length+2)-(lim (b*2^s)).length/\Ld V/\bj u<4294967296^m*bj (lim (b*2^s))/\a*2^s=bj V*bj (lim (b*2^s))+bj u/\(∀ k,k<m->V.getD k 0=0)) _ ⟨((lim (a*2^s)).length+2)-(lim (b*2^s)).length,zP,zQ,(lim (a*2^s))++[0,0],zZ (((lim (a*2^s)).length+2)-(lim (b*2^s)).length:Nat) 0,yi,rfl,rfl,e.to _ _,nR _,br,(Dg.append (Ld.lim _) (Dg.cons kD (Dg.one kD))),zU,Ld.rep _,(xD hvn hb2 oM (L7 hbp (Lv s))),Gh,fun k _=>ef⟩ ?_);rintro _ _ _ ⟨m,rA,Q,u,V,_,b4,rfl,e,hm,hul,U,hql,hWq,hR,inv,hq0⟩;refine cQ (aa e ac ?_);cases zm:(decide ((0:Int)<=((m:Int)-1:Int)))
 .
  have zB:=oF zm;refine lB 86 zm (ag (CG.exit ?_))
  show CG _ _ _ _ _ _ _ _
  refine aa e ac ?_;have hm0:m=0:=by omega
  rw[hm0,Mw,LP] at hR
  obtain ⟨hQ,hRm⟩:=G0 (dd (b*2^s)) rfl inv hR;obtain ⟨_,e,bq,cf,cj⟩:=e.pub 0;replace e:=(e.to [] [⟨139,1,rA,Q,(u).length,(u).flatMap az⟩]).aS (SlO.of_flat (sz:=1) (f:=az) (d:=0) (b:=M) (o:=0) (l:=V) (fun _=>rfl) bq);refine aq 252 e (jj (sB M) (((lim (a*2^s)).length+2)-(lim (b*2^s)).length:Nat) V (((lim (a*2^s)).length+2)-(lim (b*2^s)).length:Nat) hql oM oM _ _ e.g e.f.1) (fun _ _ e=>lL e ac ?_);obtain ⟨_,e,zW⟩:=e.pubr 0 (A:=rA) (c:=Q) (l:=u) (f:=az) (ty:=139) (sz:=1) 0 (fun _=>rfl);refine aq 254 e (jj rA Q u ((u).length) rfl oM zW _ _ e.g e.f.1) (fun _ _ e=>lL e ac (lV 256 (iV (-(s:Int))) ?_ (hr:=rS ((0-(s:Int))) kR (by rw[IntKind.wrap_i64];omega))));refine lC 257 e (Du (bj u) rA Q (tl u ((u).length)) (mB U rfl) (by have:=iq u u.length;omega) (by have:=iq u u.length;omega) s oM _ _ e.g (by rw[se (n:=bj u) U rfl];exact (e.f.1).take _)) ?_;rintro _ _ _ e ⟨yj,yk,rfl,zX,ya⟩;replace e:=e.aS ya;exact lL e ax (ae e [] (.tuple #[qS (sB M) (tl V (((lim (a*2^s)).length+2)-(lim (b*2^s)).length:Nat)) (((lim (a*2^s)).length+2)-(lim (b*2^s)).length:Nat),qS yj ((lim (bj u/2^s)).length) yk]) (⟨_,_,rfl,RN.trim hWq hQ hql (nR _) e.f.r.1,by rw[<-hRm];exact ⟨_,_,rfl,zX,e.f.1⟩⟩))
 have zB:=oT zm;refine lB 86 zm (ak (cK (cQ (kZ (cQ (cR 17 [] mixed e ar ?_))))));have hm1:0<m:=by omega
 have hn2:2<=(lim (b*2^s)).length:=by omega
 have hjn:m-1+(lim (b*2^s)).length<u.length:=by omega
 have hR1:bj u<4294967296^(m-1+1)*bj (lim (b*2^s)):=by rw[show m-1+1=m by omega];exact hR
 have hle:=F3 hn2 rfl X U hjn hR1;have hu2:=U.get (m-1+(lim (b*2^s)).length);have hu1:=U.get (m-1+(lim (b*2^s)).length-1);have hu0:=U.get (m-1+(lim (b*2^s)).length-2);refine eV 0 89 (qS rA ((u).length) Q) (eV 1 90 (iV ((m:Int)-1)) (eV 2 91 (nV ((lim (b*2^s)).length)) (j4 3 92 (((m:Int)-1)+((lim (b*2^s)).length:Nat)) (m-1+(lim (b*2^s)).length) ?_)));obtain ⟨Z,zD⟩:=e.rowA 0 (A:=rA) (c:=Q) (m:=(u).length) (ty:=139) (sz:=1) (cs:=(u).flatMap az) oM;subst zD;refine eX 4 93 (sB Z) ((u).length) Q 1 (m-1+(lim (b*2^s)).length:Nat) (m-1+(lim (b*2^s)).length:Nat) rfl (FB (ty:=139) (sz:=1) (c:=Q) (m:=(u).length) (b:=Z) (cs:=(u).flatMap az) 5 94 0 (mW (u.getD (m-1+(lim (b*2^s)).length:Nat) 0)) (az (u.getD (m-1+(lim (b*2^s)).length:Nat) 0)) e (fF (f:=az) (sz:=1) (fun _=>rfl) 0 u (m-1+(lim (b*2^s)).length:Nat) oM) (eV 6 95 (mV (u.getD (m-1+(lim (b*2^s)).length:Nat) 0)) ?_ (hv:=fun _=>rU (((u.getD (m-1+(lim (b*2^s)).length:Nat) 0:Nat):Int)) kR (be oM oM))));refine eV 7 96 (mV ((u.getD (m-1+(lim (b*2^s)).length:Nat) 0:Nat)*4294967296%18446744073709551616)) ?_ (hv:=fun _=>rU ((((u.getD (m-1+(lim (b*2^s)).length:Nat) 0:Nat):Int)*4294967296)) kR (jW (u.getD (m-1+(lim (b*2^s)).length:Nat) 0:Nat) 4294967296));refine eV 8 97 (qS (sB Z) ((u).length) Q) (eV 9 98 (iV ((m:Int)-1)) (eV 10 99 (nV ((lim (b*2^s)).length)) (j4 11 100 (((m:Int)-1)+((lim (b*2^s)).length:Nat)) (m-1+(lim (b*2^s)).length) (j4 12 101 ((m-1+(lim (b*2^s)).length:Nat)-1) (m-1+(lim (b*2^s)).length-1) (eX 13 102 (sB Z) ((u).length) Q 1 (m-1+(lim (b*2^s)).length-1:Nat) (m-1+(lim (b*2^s)).length-1:Nat) rfl (FB (ty:=139) (sz:=1) (c:=Q) (m:=(u).length) (b:=Z) (cs:=(u).flatMap az) 14 103 0 (mW (u.getD (m-1+(lim (b*2^s)).length-1:Nat) 0)) (az (u.getD (m-1+(lim (b*2^s)).length-1:Nat) 0)) e (fF (f:=az) (sz:=1) (fun _=>rfl) 0 u (m-1+(lim (b*2^s)).length-1:Nat) oM) (eV 15 104 (mV (u.getD (m-1+(lim (b*2^s)).length-1:Nat) 0)) ?_ (hv:=fun _=>rU (((u.getD (m-1+(lim (b*2^s)).length-1:Nat) 0:Nat):Int)) kR (be oM oM)))))))));refine eV 16 105 (mV ((u.getD (m-1+(lim (b*2^s)).length) 0)*4294967296+u.getD (m-1+(lim (b*2^s)).length-1) 0)) ?_ (hv:=fun _=>aI (ir (t:=43) (u:=43) (x:=.tmp 96) (y:=.tmp 104) (a:=((u.getD (m-1+(lim (b*2^s)).length:Nat) 0:Nat)*4294967296%18446744073709551616:Nat)) (b:=(u.getD (m-1+(lim (b*2^s)).length-1:Nat) 0:Nat)) kR kR kR oM oM _) (by rw[z2 (show (u.getD (m-1+(lim (b*2^s)).length) 0)*4294967296<18446744073709551616 by omega),rR hu1]));refine bS e (fun _ yl e=>tV 17 16 (mV ((u.getD (m-1+(lim (b*2^s)).length) 0)*4294967296+u.getD (m-1+(lim (b*2^s)).length-1) 0)) (rW (lL e ax (lV 108 (mV (((u.getD (m-1+(lim (b*2^s)).length) 0)*4294967296+u.getD (m-1+(lim (b*2^s)).length-1) 0:Nat)/((lim (b*2^s)).getD (((lim (b*2^s)).length:Nat)-1:Nat) 0:Nat))) ?_ (hr:=aI (dD (t:=43) (u:=43) (x:=.tmp 106) (y:=.tmp 107) (k:=.u64) (a:=(((u.getD (m-1+(lim (b*2^s)).length) 0)*4294967296+u.getD (m-1+(lim (b*2^s)).length-1) 0:Nat):Int)) (b:=(((lim (b*2^s)).getD (((lim (b*2^s)).length:Nat)-1:Nat) 0:Nat):Int)) kR kR kR oM _) (km ((u.getD (m-1+(lim (b*2^s)).length) 0)*4294967296+u.getD (m-1+(lim (b*2^s)).length-1) 0:Nat) ((lim (b*2^s)).getD (((lim (b*2^s)).length:Nat)-1:Nat) 0:Nat) oM))))));refine lL e ac (aG (lL e ax (lV 111 (mV (((u.getD (m-1+(lim (b*2^s)).length) 0)*4294967296+u.getD (m-1+(lim (b*2^s)).length-1) 0:Nat)%((lim (b*2^s)).getD (((lim (b*2^s)).length:Nat)-1:Nat) 0:Nat))) ?_ (hr:=aI (fq (t:=43) (u:=43) (x:=.tmp 109) (y:=.tmp 110) (k:=.u64) (a:=(((u.getD (m-1+(lim (b*2^s)).length) 0)*4294967296+u.getD (m-1+(lim (b*2^s)).length-1) 0:Nat):Int)) (b:=(((lim (b*2^s)).getD (((lim (b*2^s)).length:Nat)-1:Nat) 0:Nat):Int)) kR kR kR oM _) (dk ((u.getD (m-1+(lim (b*2^s)).length) 0)*4294967296+u.getD (m-1+(lim (b*2^s)).length-1) 0:Nat) ((lim (b*2^s)).getD (((lim (b*2^s)).length:Nat)-1:Nat) 0:Nat))))));refine lL e ac (lN (CG.join (fun Γ w_=>∃ (I:Nat)(L:Hp),Γ=[(4,sZ),(5,sZ),(8,nV s),(9,qS S ((lim (b*2^s)).length) Y),(10,qS (sB Z) ((u).length) Q),(11,nV ((lim (b*2^s)).length)),(12,mV ((lim (b*2^s)).getD (((lim (b*2^s)).length:Nat)-1:Nat) 0)),(13,mV ((lim (b*2^s)).getD (((lim (b*2^s)).length:Nat)-2:Nat) 0)),(14,qS (sB M) (((lim (a*2^s)).length+2)-(lim (b*2^s)).length:Nat) (((lim (a*2^s)).length+2)-(lim (b*2^s)).length:Nat)),(15,iV ((m:Int)-1)),(17,mV I)]/\SS w h w_ L [⟨M,139,(V).flatMap az⟩] [⟨139,1,sB Z,Q,(u).length,(u).flatMap az⟩] [S3 (sB ze) ([0,0]),fun L=>Seg L ze 0 ([uW 0,uW 0]),S3 zk (lim (a*2^s)),fun L=>Seg L zj 0 ([]),S3 S (lim (b*2^s)),S3 D (lim b),S3 A (lim a)]/\Eo (u.getD (m-1+(lim (b*2^s)).length) 0) (u.getD (m-1+(lim (b*2^s)).length-1) 0) (u.getD (m-1+(lim (b*2^s)).length-2) 0) ((lim (b*2^s)).getD ((lim (b*2^s)).length-1) 0) ((lim (b*2^s)).getD ((lim (b*2^s)).length-2) 0) I) ?_ ?_))
 .
  refine kZ ?_;refine bH _ (CG.loop (fun μ_ Γ w_=>∃ (g:Nat)(O:Nat)(L:Hp),μ_=g/\Γ=[(4,sZ),(5,sZ),(8,nV s),(9,qS S ((lim (b*2^s)).length) Y),(10,qS (sB Z) ((u).length) Q),(11,nV ((lim (b*2^s)).length)),(12,mV ((lim (b*2^s)).getD (((lim (b*2^s)).length:Nat)-1:Nat) 0)),(13,mV ((lim (b*2^s)).getD (((lim (b*2^s)).length:Nat)-2:Nat) 0)),(14,qS (sB M) (((lim (a*2^s)).length+2)-(lim (b*2^s)).length:Nat) (((lim (a*2^s)).length+2)-(lim (b*2^s)).length:Nat)),(15,iV ((m:Int)-1)),(17,mV g),(18,mV O)]/\SS w h w_ L [⟨M,139,(V).flatMap az⟩] [⟨139,1,sB Z,Q,(u).length,(u).flatMap az⟩] [S3 (sB ze) ([0,0]),fun L=>Seg L ze 0 ([uW 0,uW 0]),S3 zk (lim (a*2^s)),fun L=>Seg L zj 0 ([]),S3 S (lim (b*2^s)),S3 D (lim b),S3 A (lim a)]/\Gk (u.getD (m-1+(lim (b*2^s)).length) 0) (u.getD (m-1+(lim (b*2^s)).length-1) 0) (u.getD (m-1+(lim (b*2^s)).length-2) 0) ((lim (b*2^s)).getD ((lim (b*2^s)).length-1) 0) ((lim (b*2^s)).getD ((lim (b*2^s)).length-2) 0) g O/\O<4294967296/\g<18446744073709551616) _ ⟨(((u.getD (m-1+(lim (b*2^s)).length) 0)*4294967296+u.getD (m-1+(lim (b*2^s)).length-1) 0:Nat)/((lim (b*2^s)).getD (((lim (b*2^s)).length:Nat)-1:Nat) 0:Nat):Nat),(((u.getD (m-1+(lim (b*2^s)).length) 0)*4294967296+u.getD (m-1+(lim (b*2^s)).length-1) 0:Nat)%((lim (b*2^s)).getD (((lim (b*2^s)).length:Nat)-1:Nat) 0:Nat):Nat),yl,rfl,rfl,e.to _ _,(Gk.start oM hu0),(by have:=z6 (u.getD (m-1+(lim (b*2^s)).length) 0*4294967296+u.getD (m-1+(lim (b*2^s)).length-1) 0) (show 0<(lim (b*2^s)).getD ((lim (b*2^s)).length-1) 0 by omega);omega),(by have:=Nat.div_le_self ((u.getD (m-1+(lim (b*2^s)).length) 0)*4294967296+u.getD (m-1+(lim (b*2^s)).length-1) 0) ((lim (b*2^s)).getD ((lim (b*2^s)).length-1) 0);omega)⟩ ?_);rintro _ _ _ ⟨g,O,zl,b2,rfl,e,hG,hrh,hgb⟩;have b6:=fun hg=>hG.big hg hle hu1
  refine cQ (aa e ac ?_);cases zn:(decide ((4294967296:Int)<=(g:Int)))
  .
   have zE:=oF zn;refine lB 113 zn (lL e ax ?_);cases zo:(decide ((O:Int)<(4294967296:Int)))
   .
    have zG:=oF zo;refine lB 116 zo (lL e ac (lG 118 ?_));refine lG 119 (lG 120 (lG 121 (lG 122 (lG 123 (lG 124 (lG 125 (lG 126 (lG 127 (lG 128 (lG 129 (lG 130 (lG 131 (lG 132 (lL e [.v qF,.v qF] (ag (CG.exit ?_))))))))))))))));intro a_ W;exact ⟨_,⟨g,zl,rfl,e.to _ _,(hG.fin oM hv0 (by first|exact .inr oM|exact .inl oM))⟩,W.to _ kR⟩
   have zG:=oT zo;refine lB 116 zo (lL e cJ (lV 120 (mV (g*((lim (b*2^s)).getD (((lim (b*2^s)).length:Nat)-2:Nat) 0:Nat))) ?_ (hr:=rU (((g:Int)*(((lim (b*2^s)).getD (((lim (b*2^s)).length:Nat)-2:Nat) 0:Nat):Int))) kR (jp g ((lim (b*2^s)).getD (((lim (b*2^s)).length:Nat)-2:Nat) 0:Nat) (by have:=xX (show g<4294967296 by omega) hv0;omega)))));refine lL e ac (lV 122 (mV (O*4294967296)) ?_ (hr:=rU (((O:Int)*4294967296)) kR ((be oM oM).trans oM)));refine lL e cJ (bv 126 (((m:Int)-1)+((lim (b*2^s)).length:Nat)) (m-1+(lim (b*2^s)).length) ?_);refine bv 127 ((m-1+(lim (b*2^s)).length:Nat)-2) (m-1+(lim (b*2^s)).length-2) (lX 128 (sB Z) ((u).length) Q 1 (m-1+(lim (b*2^s)).length-2:Nat) (m-1+(lim (b*2^s)).length-2:Nat) rfl (Jy (ty:=139) (sz:=1) (c:=Q) (m:=(u).length) (b:=Z) (cs:=(u).flatMap az) 129 0 (mW (u.getD (m-1+(lim (b*2^s)).length-2:Nat) 0)) (az (u.getD (m-1+(lim (b*2^s)).length-2:Nat) 0)) e (fF (f:=az) (sz:=1) (fun _=>rfl) 0 u (m-1+(lim (b*2^s)).length-2:Nat) oM) (lV 130 (mV (u.getD (m-1+(lim (b*2^s)).length-2:Nat) 0)) ?_ (hr:=rU (((u.getD (m-1+(lim (b*2^s)).length-2:Nat) 0:Nat):Int)) kR (be oM oM)))));refine lV 131 (mV (O*4294967296+u.getD (m-1+(lim (b*2^s)).length-2) 0)) ?_ (hr:=aI (ir (t:=43) (u:=43) (x:=.tmp 122) (y:=.tmp 130) (a:=(O*4294967296)) (b:=(u.getD (m-1+(lim (b*2^s)).length-2:Nat) 0:Nat)) kR kR kR oM oM _) (by rw[rR hu0]));cases zp:(decide (((O*4294967296+u.getD (m-1+(lim (b*2^s)).length-2) 0:Nat):Int)<((g*((lim (b*2^s)).getD (((lim (b*2^s)).length:Nat)-2:Nat) 0:Nat):Nat):Int)))
   .
    have zH:=oF zp;refine lB 132 zp (lL e [.v qF,.v qF] (ag (CG.exit ?_)));intro a_ W;exact ⟨_,⟨g,zl,rfl,e.to _ _,(hG.fin oM hv0 (by first|exact .inr oM|exact .inl oM))⟩,W.to _ kR⟩
   have zH:=oT zp;refine lB 132 zp (lL e [.v qT,.v qT] (ak (cK (kZ (aD ?_)))));have hG2:Gk (u.getD (m-1+(lim (b*2^s)).length) 0) (u.getD (m-1+(lim (b*2^s)).length-1) 0) (u.getD (m-1+(lim (b*2^s)).length-2) 0) ((lim (b*2^s)).getD ((lim (b*2^s)).length-1) 0) ((lim (b*2^s)).getD ((lim (b*2^s)).length-2) 0) (g-1) (O+(lim (b*2^s)).getD ((lim (b*2^s)).length-1) 0):=by first|exact hG.decB oM|exact (hG.decT oM).2
   have hg0:0<g:=by first|omega|exact (hG.decT oM).1
   refine lL e ac (lV 136 (mV (g-1)) ?_ (hr:=rU (((g:Int)-(1:Int))) kR (fI g 1 oM oM)));refine lL e ac (aG (lL e ax (lV 139 (mV (O+((lim (b*2^s)).getD (((lim (b*2^s)).length:Nat)-1:Nat) 0:Nat))) ?_ (hr:=rU (((O:Int)+(((lim (b*2^s)).getD (((lim (b*2^s)).length:Nat)-1:Nat) 0:Nat):Int))) kR (eM O ((lim (b*2^s)).getD (((lim (b*2^s)).length:Nat)-1:Nat) 0:Nat) oM)))));refine lL e ac (aG (lL e ac ?_));cases zq:(decide ((4294967296:Int)<=((O+((lim (b*2^s)).getD (((lim (b*2^s)).length:Nat)-1:Nat) 0:Nat):Nat):Int)))
   .
    have zI:=oF zq;refine lB 141 zq (lN (bH [(4,sZ),(5,sZ),(8,nV s),(9,qS S ((lim (b*2^s)).length) Y),(10,qS (sB Z) ((u).length) Q),(11,nV ((lim (b*2^s)).length)),(12,mV ((lim (b*2^s)).getD (((lim (b*2^s)).length:Nat)-1:Nat) 0)),(13,mV ((lim (b*2^s)).getD (((lim (b*2^s)).length:Nat)-2:Nat) 0)),(14,qS (sB M) (((lim (a*2^s)).length+2)-(lim (b*2^s)).length:Nat) (((lim (a*2^s)).length+2)-(lim (b*2^s)).length:Nat)),(15,iV ((m:Int)-1)),(17,mV (g-1)),(18,mV (O+((lim (b*2^s)).getD (((lim (b*2^s)).length:Nat)-1:Nat) 0:Nat))),(141,qF)] ?_));refine dC (CG.skip ?_);intro a_ W;refine ⟨_,_,?_,⟨g-1,(O+((lim (b*2^s)).getD (((lim (b*2^s)).length:Nat)-1:Nat) 0:Nat):Nat),zl,rfl,rfl,e.to _ _,hG2,oM,oM⟩,W.to _ kR⟩
    omega
   have zI:=oT zq;refine lB 141 zq (lN (bH [(4,sZ),(5,sZ),(8,nV s),(9,qS S ((lim (b*2^s)).length) Y),(10,qS (sB Z) ((u).length) Q),(11,nV ((lim (b*2^s)).length)),(12,mV ((lim (b*2^s)).getD (((lim (b*2^s)).length:Nat)-1:Nat) 0)),(13,mV ((lim (b*2^s)).getD (((lim (b*2^s)).length:Nat)-2:Nat) 0)),(14,qS (sB M) (((lim (a*2^s)).length+2)-(lim (b*2^s)).length:Nat) (((lim (a*2^s)).length+2)-(lim (b*2^s)).length:Nat)),(15,iV ((m:Int)-1)),(17,mV (g-1)),(18,mV (O+((lim (b*2^s)).getD (((lim (b*2^s)).length:Nat)-1:Nat) 0:Nat))),(141,qT)] ?_));refine cn (CG.exit ?_);have bn:=fun hg=>hG2.big hg hle hu1
   intro a_ W;exact ⟨_,⟨(g-1),zl,rfl,e.to _ _,(hG2.fin oM hv0 (.inl oM))⟩,W.to _ kR⟩
  have zE:=oT zn;refine lB 113 zn (lL e ac (lG 115 ?_));refine lG 116 (lG 117 (lG 118 (lG 119 (lG 120 (lG 121 (lG 122 (lG 123 (lG 124 (lG 125 (lG 126 (lG 127 (lG 128 (lG 129 (lG 130 (lG 131 (lG 132 (lG 133 (lL e [.v qT] (ak (cK (kZ (aD ?_))))))))))))))))))))));have hG2:Gk (u.getD (m-1+(lim (b*2^s)).length) 0) (u.getD (m-1+(lim (b*2^s)).length-1) 0) (u.getD (m-1+(lim (b*2^s)).length-2) 0) ((lim (b*2^s)).getD ((lim (b*2^s)).length-1) 0) ((lim (b*2^s)).getD ((lim (b*2^s)).length-2) 0) (g-1) (O+(lim (b*2^s)).getD ((lim (b*2^s)).length-1) 0):=by first|exact hG.decB oM|exact (hG.decT oM).2
  have hg0:0<g:=by first|omega|exact (hG.decT oM).1
  refine lL e ac (lV 136 (mV (g-1)) ?_ (hr:=rU (((g:Int)-(1:Int))) kR (fI g 1 oM oM)));refine lL e ac (aG (lL e ax (lV 139 (mV (O+((lim (b*2^s)).getD (((lim (b*2^s)).length:Nat)-1:Nat) 0:Nat))) ?_ (hr:=rU (((O:Int)+(((lim (b*2^s)).getD (((lim (b*2^s)).length:Nat)-1:Nat) 0:Nat):Int))) kR (eM O ((lim (b*2^s)).getD (((lim (b*2^s)).length:Nat)-1:Nat) 0:Nat) oM)))));refine lL e ac (aG (lL e ac ?_));cases zr:(decide ((4294967296:Int)<=((O+((lim (b*2^s)).getD (((lim (b*2^s)).length:Nat)-1:Nat) 0:Nat):Nat):Int)))
  .
   have zJ:=oF zr;refine lB 141 zr (lN (bH [(4,sZ),(5,sZ),(8,nV s),(9,qS S ((lim (b*2^s)).length) Y),(10,qS (sB Z) ((u).length) Q),(11,nV ((lim (b*2^s)).length)),(12,mV ((lim (b*2^s)).getD (((lim (b*2^s)).length:Nat)-1:Nat) 0)),(13,mV ((lim (b*2^s)).getD (((lim (b*2^s)).length:Nat)-2:Nat) 0)),(14,qS (sB M) (((lim (a*2^s)).length+2)-(lim (b*2^s)).length:Nat) (((lim (a*2^s)).length+2)-(lim (b*2^s)).length:Nat)),(15,iV ((m:Int)-1)),(17,mV (g-1)),(18,mV (O+((lim (b*2^s)).getD (((lim (b*2^s)).length:Nat)-1:Nat) 0:Nat))),(141,qF)] ?_));refine dC (CG.skip ?_);intro a_ W;refine ⟨_,_,?_,⟨g-1,(O+((lim (b*2^s)).getD (((lim (b*2^s)).length:Nat)-1:Nat) 0:Nat):Nat),zl,rfl,rfl,e.to _ _,hG2,oM,oM⟩,W.to _ kR⟩
   omega
  have zJ:=oT zr;refine lB 141 zr (lN (bH [(4,sZ),(5,sZ),(8,nV s),(9,qS S ((lim (b*2^s)).length) Y),(10,qS (sB Z) ((u).length) Q),(11,nV ((lim (b*2^s)).length)),(12,mV ((lim (b*2^s)).getD (((lim (b*2^s)).length:Nat)-1:Nat) 0)),(13,mV ((lim (b*2^s)).getD (((lim (b*2^s)).length:Nat)-2:Nat) 0)),(14,qS (sB M) (((lim (a*2^s)).length+2)-(lim (b*2^s)).length:Nat) (((lim (a*2^s)).length+2)-(lim (b*2^s)).length:Nat)),(15,iV ((m:Int)-1)),(17,mV (g-1)),(18,mV (O+((lim (b*2^s)).getD (((lim (b*2^s)).length:Nat)-1:Nat) 0:Nat))),(141,qT)] ?_));refine cn (CG.exit ?_);have bn:=fun hg=>hG2.big hg hle hu1
  intro a_ W;exact ⟨_,⟨(g-1),zl,rfl,e.to _ _,(hG2.fin oM hv0 (.inl oM))⟩,W.to _ kR⟩
 rintro _ _ ⟨I,ym,rfl,e,hH⟩;refine aD ?_;have hgl:=hH.2.2;have hGd:=B8 (n:=(lim (b*2^s)).length) (j:=m-1) hn2 rfl X U hjn bd hR1 hH;refine lL e ac (aG (lL e ac (ah (aa e ac (aZ ?_)))));refine bH _ (CG.loop (fun μ_ Γ w_=>∃ (i:Nat)(raA:Z9)(J:Nat)(z:List Nat)(F:Nat)(H:Nat)(L:Hp),μ_=(lim (b*2^s)).length-i/\Γ=[(4,sZ),(5,sZ),(8,nV s),(9,qS S ((lim (b*2^s)).length) Y),(10,qS raA ((z).length) J),(11,nV ((lim (b*2^s)).length)),(12,mV ((lim (b*2^s)).getD (((lim (b*2^s)).length:Nat)-1:Nat) 0)),(13,mV ((lim (b*2^s)).getD (((lim (b*2^s)).length:Nat)-2:Nat) 0)),(14,qS (sB M) (((lim (a*2^s)).length+2)-(lim (b*2^s)).length:Nat) (((lim (a*2^s)).length+2)-(lim (b*2^s)).length:Nat)),(15,iV ((m:Int)-1)),(17,mV I),(21,nV i),(19,mV F),(20,mV H)]/\SS w h w_ L [⟨M,139,(V).flatMap az⟩] [⟨139,1,raA,J,(z).length,(z).flatMap az⟩] [S3 (sB ze) ([0,0]),fun L=>Seg L ze 0 ([uW 0,uW 0]),S3 zk (lim (a*2^s)),fun L=>Seg L zj 0 ([]),S3 S (lim (b*2^s)),S3 D (lim b),S3 A (lim a)]/\i<=(lim (b*2^s)).length/\z.length=((lim (a*2^s)).length+2)/\Ld z/\F<4294967296/\H<=1/\ai 4294967296 z+4294967296^(m-1)*(I*ai 4294967296 ((lim (b*2^s)).take i))=bj u+4294967296^(m-1+i)*(F+H)/\Above z u (m-1+(lim (b*2^s)).length+1)) _ ⟨0,sB Z,Q,u,0,0,ym,rfl,rfl,e.to _ _,Mv _,hul,U,oM,oM,(by show ai _ u+_=ai _ u+_;simp[ai]),Above.refl _ _⟩ ?_);rintro _ _ _ ⟨i,raA,J,z,F,H,zu,cp,rfl,e,hi,hua,hWa,hcy,hbo,bf,bm⟩;have b1:=hWa.get (m-1+i);have hvi:=X.get i;refine cQ (aa e ax ?_);cases zs:(decide ((i:Int)<(((lim (b*2^s)).length:Nat):Int)))
 .
  have zK:=oF zs;refine lB 144 zs (ag (CG.exit ?_))
  show CG _ _ _ _ _ _ _ _
  refine aD ?_;have b7:=hWa.get (m-1+(lim (b*2^s)).length);refine lL e cJ (bv 182 (((m:Int)-1)+((lim (b*2^s)).length:Nat)) (m-1+(lim (b*2^s)).length) ?_);obtain ⟨zd,zL⟩:=e.rowA 0 (A:=raA) (c:=J) (m:=(z).length) (ty:=139) (sz:=1) (cs:=(z).flatMap az) oM;subst zL;refine lX 183 (sB zd) ((z).length) J 1 (m-1+(lim (b*2^s)).length:Nat) (m-1+(lim (b*2^s)).length:Nat) rfl (Jy (ty:=139) (sz:=1) (c:=J) (m:=(z).length) (b:=zd) (cs:=(z).flatMap az) 184 0 (mW (z.getD (m-1+(lim (b*2^s)).length:Nat) 0)) (az (z.getD (m-1+(lim (b*2^s)).length:Nat) 0)) e (fF (f:=az) (sz:=1) (fun _=>rfl) 0 z (m-1+(lim (b*2^s)).length:Nat) oM) (lV 185 (mV (z.getD (m-1+(lim (b*2^s)).length:Nat) 0)) ?_ (hr:=rU (((z.getD (m-1+(lim (b*2^s)).length:Nat) 0:Nat):Int)) kR (be oM oM))));refine lL e ac (lV 187 (mV (((z.getD (m-1+(lim (b*2^s)).length:Nat) 0:Nat)+(18446744073709551616-F))%18446744073709551616)) ?_ (hr:=rU ((((z.getD (m-1+(lim (b*2^s)).length:Nat) 0:Nat):Int)-(F:Int))) kR (kO (z.getD (m-1+(lim (b*2^s)).length:Nat) 0:Nat) F oM)));refine lL e ac (lV 189 (mV (((((z.getD (m-1+(lim (b*2^s)).length:Nat) 0:Nat)+(18446744073709551616-F))%18446744073709551616:Nat)+(18446744073709551616-H))%18446744073709551616)) ?_ (hr:=rU ((((((z.getD (m-1+(lim (b*2^s)).length:Nat) 0:Nat)+(18446744073709551616-F))%18446744073709551616:Nat):Int)-(H:Int))) kR (kO (((z.getD (m-1+(lim (b*2^s)).length:Nat) 0:Nat)+(18446744073709551616-F))%18446744073709551616:Nat) H oM)));refine lL e ac (aG ?_);rw[show i=(lim (b*2^s)).length by omega] at bf
  obtain ⟨hT1,hT2⟩:=BV (t:=(((((z.getD (m-1+(lim (b*2^s)).length:Nat) 0:Nat)+(18446744073709551616-F))%18446744073709551616:Nat)+(18446744073709551616-H))%18446744073709551616:Nat)) (hWa.get (m-1+(lim (b*2^s)).length)) hcy hbo rfl;have hE:=xE oM bf (s:=(((((((z.getD (m-1+(lim (b*2^s)).length:Nat) 0:Nat)+(18446744073709551616-F))%18446744073709551616:Nat)+(18446744073709551616-H))%18446744073709551616:Nat))%4294967296)) (bo':=((((((z.getD (m-1+(lim (b*2^s)).length:Nat) 0:Nat)+(18446744073709551616-F))%18446744073709551616:Nat)+(18446744073709551616-H))%18446744073709551616:Nat))/9223372036854775808) oM;refine lL e cJ (bv 193 (((m:Int)-1)+((lim (b*2^s)).length:Nat)) (m-1+(lim (b*2^s)).length) ?_);refine lL e ac (lV 195 (mW ((((((z.getD (m-1+(lim (b*2^s)).length:Nat) 0:Nat)+(18446744073709551616-F))%18446744073709551616:Nat)+(18446744073709551616-H))%18446744073709551616:Nat)%4294967296)) ?_ (hr:=rT (((((((z.getD (m-1+(lim (b*2^s)).length:Nat) 0:Nat)+(18446744073709551616-F))%18446744073709551616:Nat)+(18446744073709551616-H))%18446744073709551616:Nat):Int)) kR (gU _)));refine lX 196 (sB zd) ((z).length) J 1 (m-1+(lim (b*2^s)).length:Nat) (m-1+(lim (b*2^s)).length:Nat) rfl (FG (ty:=139) (c:=J) (b:=zd) 0 (m-1+(lim (b*2^s)).length:Nat) 0 ([mW ((((((z.getD (m-1+(lim (b*2^s)).length:Nat) 0:Nat)+(18446744073709551616-F))%18446744073709551616:Nat)+(18446744073709551616-H))%18446744073709551616:Nat)%4294967296)]) z az 1 0 ((((((z.getD (m-1+(lim (b*2^s)).length:Nat) 0:Nat)+(18446744073709551616-F))%18446744073709551616:Nat)+(18446744073709551616-H))%18446744073709551616:Nat)%4294967296:Nat) e oM (fun _ e=>?_));replace e:=e.to [⟨M,139,(V).flatMap az⟩] [⟨139,1,sB zd,J,(z).length,(z.set (m-1+(lim (b*2^s)).length:Nat) ((((((z.getD (m-1+(lim (b*2^s)).length:Nat) 0:Nat)+(18446744073709551616-F))%18446744073709551616:Nat)+(18446744073709551616-H))%18446744073709551616:Nat)%4294967296:Nat)).flatMap az⟩];refine lN (CG.join (fun Γ w_=>∃ (gz:Nat)(rzA:Z9)(rzc:Nat)(uz:List Nat)(L:Hp),Γ=[(4,sZ),(5,sZ),(8,nV s),(9,qS S ((lim (b*2^s)).length) Y),(11,nV ((lim (b*2^s)).length)),(12,mV ((lim (b*2^s)).getD (((lim (b*2^s)).length:Nat)-1:Nat) 0)),(13,mV ((lim (b*2^s)).getD (((lim (b*2^s)).length:Nat)-2:Nat) 0)),(14,qS (sB M) (((lim (a*2^s)).length+2)-(lim (b*2^s)).length:Nat) (((lim (a*2^s)).length+2)-(lim (b*2^s)).length:Nat)),(15,iV ((m:Int)-1)),(17,mV gz),(10,qS rzA ((uz).length) rzc)]/\SS w h w_ L [⟨M,139,(V).flatMap az⟩] [⟨139,1,rzA,rzc,(uz).length,(uz).flatMap az⟩] [S3 (sB ze) ([0,0]),fun L=>Seg L ze 0 ([uW 0,uW 0]),S3 zk (lim (a*2^s)),fun L=>Seg L zj 0 ([]),S3 S (lim (b*2^s)),S3 D (lim b),S3 A (lim a)]/\uz.length=((lim (a*2^s)).length+2)/\Ld uz/\gz<4294967296/\bj uz<4294967296^(m-1)*bj (lim (b*2^s))/\bj uz+4294967296^(m-1)*(gz*bj (lim (b*2^s)))=bj u) ?_ ?_)
  .
   refine aD ?_;have hW4:Ld (z.set (m-1+(lim (b*2^s)).length:Nat) ((((((z.getD (m-1+(lim (b*2^s)).length:Nat) 0:Nat)+(18446744073709551616-F))%18446744073709551616:Nat)+(18446744073709551616-H))%18446744073709551616:Nat)%4294967296:Nat)):=hWa.set _ (z6 _ kD);have bb:Above (z.set (m-1+(lim (b*2^s)).length:Nat) ((((((z.getD (m-1+(lim (b*2^s)).length:Nat) 0:Nat)+(18446744073709551616-F))%18446744073709551616:Nat)+(18446744073709551616-H))%18446744073709551616:Nat)%4294967296:Nat)) u (m-1+(lim (b*2^s)).length+1):=bm.set oM oM;have hl4:(z.set (m-1+(lim (b*2^s)).length:Nat) ((((((z.getD (m-1+(lim (b*2^s)).length:Nat) 0:Nat)+(18446744073709551616-F))%18446744073709551616:Nat)+(18446744073709551616-H))%18446744073709551616:Nat)%4294967296:Nat)).length=((lim (a*2^s)).length+2):=by rw[Md];exact hua
   refine lL e ac (lV 198 (mV ((((((z.getD (m-1+(lim (b*2^s)).length:Nat) 0:Nat)+(18446744073709551616-F))%18446744073709551616:Nat)+(18446744073709551616-H))%18446744073709551616:Nat)/9223372036854775808)) ?_ (hr:=aI (n:=Mt ((((((z.getD (m-1+(lim (b*2^s)).length:Nat) 0:Nat)+(18446744073709551616-F))%18446744073709551616:Nat)+(18446744073709551616-H))%18446744073709551616:Nat):Int) 9223372036854775808) kR (eh _ 9223372036854775808)));cases zt:((((((((z.getD (m-1+(lim (b*2^s)).length:Nat) 0:Nat)+(18446744073709551616-F))%18446744073709551616:Nat)+(18446744073709551616-H))%18446744073709551616:Nat)/9223372036854775808:Nat):Int) == (1:Int))
   .
    have zM:=aj zt;refine lB 199 zt (ag (CG.skip ?_));have hD_:=Do hn2 rfl X U hW4 hjn bd hR1 hGd bb (by rw[show ((((((z.getD (m-1+(lim (b*2^s)).length:Nat) 0:Nat)+(18446744073709551616-F))%18446744073709551616:Nat)+(18446744073709551616-H))%18446744073709551616:Nat))/9223372036854775808=0 by omega] at hE;exact hE);have hDw:=hW4;have hDg:=hgl;have hDu:=hD_.1;have hDe:=hD_.2;have hDl:=hl4;intro a_ W;replace e:=e.rown [⟨139,1,sB zd,J,(z.set (m-1+(lim (b*2^s)).length:Nat) ((((((z.getD (m-1+(lim (b*2^s)).length:Nat) 0:Nat)+(18446744073709551616-F))%18446744073709551616:Nat)+(18446744073709551616-H))%18446744073709551616:Nat)%4294967296:Nat)).length,(z.set (m-1+(lim (b*2^s)).length:Nat) ((((((z.getD (m-1+(lim (b*2^s)).length:Nat) 0:Nat)+(18446744073709551616-F))%18446744073709551616:Nat)+(18446744073709551616-H))%18446744073709551616:Nat)%4294967296:Nat)).flatMap az⟩] (by simp only[Md]);exact ⟨_,⟨I,sB zd,J,z.set (m-1+(lim (b*2^s)).length:Nat) ((((((z.getD (m-1+(lim (b*2^s)).length:Nat) 0:Nat)+(18446744073709551616-F))%18446744073709551616:Nat)+(18446744073709551616-H))%18446744073709551616:Nat)%4294967296:Nat),zu,rfl,e.to _ _,hDl,hDw,hDg,hDu,hDe⟩,W.to _ (by simp only[Md];kernel_rfl)⟩
   have zM:=eq_of_beq zt;refine lB 199 zt (ak (aa e ac ?_));have hE1:=hE;rw[show ((((((z.getD (m-1+(lim (b*2^s)).length:Nat) 0:Nat)+(18446744073709551616-F))%18446744073709551616:Nat)+(18446744073709551616-H))%18446744073709551616:Nat))/9223372036854775808=1 by omega] at hE1
   have hgp:=Gt hn2 rfl X U hW4 hjn bd hR1 hGd bb hE1;refine lV 201 (mV (I-1)) ?_ (hr:=rU (((I:Int)-(1:Int))) kR (fI I 1 oM oM));refine lL e ac (lN (bH [(4,sZ),(5,sZ),(8,nV s),(9,qS S ((lim (b*2^s)).length) Y),(10,qS (sB zd) ((z).length) J),(11,nV ((lim (b*2^s)).length)),(12,mV ((lim (b*2^s)).getD (((lim (b*2^s)).length:Nat)-1:Nat) 0)),(13,mV ((lim (b*2^s)).getD (((lim (b*2^s)).length:Nat)-2:Nat) 0)),(14,qS (sB M) (((lim (a*2^s)).length+2)-(lim (b*2^s)).length:Nat) (((lim (a*2^s)).length+2)-(lim (b*2^s)).length:Nat)),(15,iV ((m:Int)-1)),(17,mV (I-1)),(19,mV F)] ?_));refine aa e ac (ah (aa e ac (aZ ?_)));replace e:=e.rown [⟨139,1,sB zd,J,(z.set (m-1+(lim (b*2^s)).length:Nat) ((((((z.getD (m-1+(lim (b*2^s)).length:Nat) 0:Nat)+(18446744073709551616-F))%18446744073709551616:Nat)+(18446744073709551616-H))%18446744073709551616:Nat)%4294967296:Nat)).length,(z.set (m-1+(lim (b*2^s)).length:Nat) ((((((z.getD (m-1+(lim (b*2^s)).length:Nat) 0:Nat)+(18446744073709551616-F))%18446744073709551616:Nat)+(18446744073709551616-H))%18446744073709551616:Nat)%4294967296:Nat)).flatMap az⟩] (by simp only[Md]);refine bH _ (CG.loop (fun μ_ Γ w_=>∃ (C:Nat)(rbA:Z9)(K:Nat)(B:List Nat)(c2:Nat)(L:Hp),μ_=(lim (b*2^s)).length-C/\Γ=[(4,sZ),(5,sZ),(8,nV s),(9,qS S ((lim (b*2^s)).length) Y),(10,qS rbA ((B).length) K),(11,nV ((lim (b*2^s)).length)),(12,mV ((lim (b*2^s)).getD (((lim (b*2^s)).length:Nat)-1:Nat) 0)),(13,mV ((lim (b*2^s)).getD (((lim (b*2^s)).length:Nat)-2:Nat) 0)),(14,qS (sB M) (((lim (a*2^s)).length+2)-(lim (b*2^s)).length:Nat) (((lim (a*2^s)).length+2)-(lim (b*2^s)).length:Nat)),(15,iV ((m:Int)-1)),(17,mV (I-1)),(24,nV C),(19,mV c2)]/\SS w h w_ L [⟨M,139,(V).flatMap az⟩] [⟨139,1,rbA,K,(B).length,(B).flatMap az⟩] [S3 (sB ze) ([0,0]),fun L=>Seg L ze 0 ([uW 0,uW 0]),S3 zk (lim (a*2^s)),fun L=>Seg L zj 0 ([]),S3 S (lim (b*2^s)),S3 D (lim b),S3 A (lim a)]/\C<=(lim (b*2^s)).length/\B.length=((lim (a*2^s)).length+2)/\Ld B/\c2<=1/\ai 4294967296 B+4294967296^(m-1+C)*c2=ai 4294967296 (z.set (m-1+(lim (b*2^s)).length:Nat) ((((((z.getD (m-1+(lim (b*2^s)).length:Nat) 0:Nat)+(18446744073709551616-F))%18446744073709551616:Nat)+(18446744073709551616-H))%18446744073709551616:Nat)%4294967296:Nat))+4294967296^(m-1)*ai 4294967296 ((lim (b*2^s)).take C)/\Above B u (m-1+(lim (b*2^s)).length+1)) _ ⟨0,sB zd,J,z.set (m-1+(lim (b*2^s)).length:Nat) ((((((z.getD (m-1+(lim (b*2^s)).length:Nat) 0:Nat)+(18446744073709551616-F))%18446744073709551616:Nat)+(18446744073709551616-H))%18446744073709551616:Nat)%4294967296:Nat),0,zu,rfl,(by simp only[Md]<;>rfl),e.to _ _,Mv _,hl4,hW4,oM,(by simp[ai]),bb⟩ ?_);rintro _ _ _ ⟨C,rbA,K,B,c2,yb,bt,rfl,e,hi2,hub,hWb,hc2,bk,bl⟩;refine cQ (aa e ax ?_);cases zi:(decide ((C:Int)<(((lim (b*2^s)).length:Nat):Int)))
   .
    have zv:=oF zi;refine lB 204 zi (ag (CG.exit ?_))
    show CG _ _ _ _ _ _ _ _
    refine kQ ?_;have b3:=hWb.get (m-1+(lim (b*2^s)).length);refine lL e cJ (bv 234 (((m:Int)-1)+((lim (b*2^s)).length:Nat)) (m-1+(lim (b*2^s)).length) ?_);refine lL e cJ (bv 238 (((m:Int)-1)+((lim (b*2^s)).length:Nat)) (m-1+(lim (b*2^s)).length) ?_);obtain ⟨zf,zw⟩:=e.rowA 0 (A:=rbA) (c:=K) (m:=(B).length) (ty:=139) (sz:=1) (cs:=(B).flatMap az) oM;subst zw;refine lX 239 (sB zf) ((B).length) K 1 (m-1+(lim (b*2^s)).length:Nat) (m-1+(lim (b*2^s)).length:Nat) rfl (Jy (ty:=139) (sz:=1) (c:=K) (m:=(B).length) (b:=zf) (cs:=(B).flatMap az) 240 0 (mW (B.getD (m-1+(lim (b*2^s)).length:Nat) 0)) (az (B.getD (m-1+(lim (b*2^s)).length:Nat) 0)) e (fF (f:=az) (sz:=1) (fun _=>rfl) 0 B (m-1+(lim (b*2^s)).length:Nat) oM) (lV 241 (mV (B.getD (m-1+(lim (b*2^s)).length:Nat) 0)) ?_ (hr:=rU (((B.getD (m-1+(lim (b*2^s)).length:Nat) 0:Nat):Int)) kR (be oM oM))));refine lL e ac (lV 243 (mV ((B.getD (m-1+(lim (b*2^s)).length:Nat) 0:Nat)+c2)) ?_ (hr:=rU ((((B.getD (m-1+(lim (b*2^s)).length:Nat) 0:Nat):Int)+(c2:Int))) kR (eM (B.getD (m-1+(lim (b*2^s)).length:Nat) 0:Nat) c2 oM)));refine lV 244 (mW (((B.getD (m-1+(lim (b*2^s)).length:Nat) 0:Nat)+c2:Nat)%4294967296)) ?_ (hr:=rT ((((B.getD (m-1+(lim (b*2^s)).length:Nat) 0:Nat)+c2:Nat):Int)) kR (gU _));refine lX 245 (sB zf) ((B).length) K 1 (m-1+(lim (b*2^s)).length:Nat) (m-1+(lim (b*2^s)).length:Nat) rfl (FG (ty:=139) (c:=K) (b:=zf) 0 (m-1+(lim (b*2^s)).length:Nat) 0 ([mW (((B.getD (m-1+(lim (b*2^s)).length:Nat) 0:Nat)+c2:Nat)%4294967296)]) B az 1 0 (((B.getD (m-1+(lim (b*2^s)).length:Nat) 0:Nat)+c2:Nat)%4294967296:Nat) e oM (fun _ e=>?_));replace e:=e.to [⟨M,139,(V).flatMap az⟩] [⟨139,1,sB zf,K,(B).length,(B.set (m-1+(lim (b*2^s)).length:Nat) (((B.getD (m-1+(lim (b*2^s)).length:Nat) 0:Nat)+c2:Nat)%4294967296:Nat)).flatMap az⟩];refine lD ?_;rw[show C=(lim (b*2^s)).length by omega] at bk
    have hE3:=wu (s:=(B.getD (m-1+(lim (b*2^s)).length) 0+c2)%4294967296) (c':=(B.getD (m-1+(lim (b*2^s)).length) 0+c2)/4294967296) oM bk (Mc _ _);have hDw:Ld (B.set (m-1+(lim (b*2^s)).length:Nat) (((B.getD (m-1+(lim (b*2^s)).length:Nat) 0:Nat)+c2:Nat)%4294967296:Nat)):=hWb.set _ (z6 _ kD);obtain ⟨hDu,hDe,hDp⟩:=Gi hn2 rfl X U hW4 hDw hjn bd hR1 hGd bb (bl.set oM oM) hE1 hE3;have hDg:I-1<4294967296:=by omega
    have hDl:(B.set (m-1+(lim (b*2^s)).length:Nat) (((B.getD (m-1+(lim (b*2^s)).length:Nat) 0:Nat)+c2:Nat)%4294967296:Nat)).length=((lim (a*2^s)).length+2):=by rw[Md];exact hub
    intro a_ W;replace e:=e.rown [⟨139,1,sB zf,K,(B.set (m-1+(lim (b*2^s)).length:Nat) (((B.getD (m-1+(lim (b*2^s)).length:Nat) 0:Nat)+c2:Nat)%4294967296:Nat)).length,(B.set (m-1+(lim (b*2^s)).length:Nat) (((B.getD (m-1+(lim (b*2^s)).length:Nat) 0:Nat)+c2:Nat)%4294967296:Nat)).flatMap az⟩] (by simp only[Md]);exact ⟨_,⟨(I-1),sB zf,K,B.set (m-1+(lim (b*2^s)).length:Nat) (((B.getD (m-1+(lim (b*2^s)).length:Nat) 0:Nat)+c2:Nat)%4294967296:Nat),yb,rfl,e.to _ _,hDl,hDw,hDg,hDu,hDe⟩,W.to _ (by simp only[Md];kernel_rfl)⟩
   have zv:=oT zi;refine lB 204 zi (ak (cK (cQ (kZ (cQ (cR 15 [] mixed e ar ?_))))));have cm:=X.get C;have b9:=hWb.get (m-1+C);refine eV 0 207 (mV c2) (eV 1 208 (qS rbA ((B).length) K) (eV 2 209 (iV ((m:Int)-1)) (eV 3 210 (nV C) (j4 4 211 (((m:Int)-1)+(C:Nat)) (m-1+C) ?_))));obtain ⟨zg,zx⟩:=e.rowA 0 (A:=rbA) (c:=K) (m:=(B).length) (ty:=139) (sz:=1) (cs:=(B).flatMap az) oM;subst zx;refine eX 5 212 (sB zg) ((B).length) K 1 (m-1+C:Nat) (m-1+C) rfl (FB (ty:=139) (sz:=1) (c:=K) (m:=(B).length) (b:=zg) (cs:=(B).flatMap az) 6 213 0 (mW (B.getD (m-1+C) 0)) (az (B.getD (m-1+C) 0)) e (fF (f:=az) (sz:=1) (fun _=>rfl) 0 B (m-1+C) oM) (eV 7 214 (mV (B.getD (m-1+C) 0)) ?_ (hv:=fun _=>rU (((B.getD (m-1+C) 0:Nat):Int)) kR (be oM oM))));refine eV 8 215 (mV (c2+(B.getD (m-1+C) 0))) ?_ (hv:=fun _=>rU (((c2:Int)+((B.getD (m-1+C) 0:Nat):Int))) kR (eM c2 (B.getD (m-1+C) 0) oM));refine eV 9 216 (qS S ((lim (b*2^s)).length) Y) (eV 10 217 (nV C) (eX 11 218 S ((lim (b*2^s)).length) Y 1 (C:Nat) C ((e.f.q.1).ok oM) (eH 12 219 (mW ((lim (b*2^s)).getD C 0)) e ((e.f.q.1).el C oM) (eV 13 220 (mV ((lim (b*2^s)).getD C 0)) ?_ (hv:=fun _=>rU ((((lim (b*2^s)).getD C 0:Nat):Int)) kR (be oM oM))))));refine eV 14 221 (mV ((c2+(B.getD (m-1+C) 0):Nat)+((lim (b*2^s)).getD C 0:Nat))) ?_ (hv:=fun _=>rU ((((c2+(B.getD (m-1+C) 0):Nat):Int)+(((lim (b*2^s)).getD C 0:Nat):Int))) kR (eM (c2+(B.getD (m-1+C) 0):Nat) ((lim (b*2^s)).getD C 0:Nat) oM));refine bS e (fun _ yc e=>tV 15 19 (mV ((c2+(B.getD (m-1+C) 0):Nat)+((lim (b*2^s)).getD C 0:Nat))) (rW (lL e cJ (bv 225 (((m:Int)-1)+(C:Nat)) (m-1+C) ?_))));refine lL e ac (lV 227 (mW (((c2+(B.getD (m-1+C) 0):Nat)+((lim (b*2^s)).getD C 0:Nat):Nat)%4294967296)) ?_ (hr:=rT ((((c2+(B.getD (m-1+C) 0):Nat)+((lim (b*2^s)).getD C 0:Nat):Nat):Int)) kR (gU _)));refine lX 228 (sB zg) ((B).length) K 1 (m-1+C:Nat) (m-1+C) rfl (FG (ty:=139) (c:=K) (b:=zg) 0 (m-1+C) 0 ([mW (((c2+(B.getD (m-1+C) 0):Nat)+((lim (b*2^s)).getD C 0:Nat):Nat)%4294967296)]) B az 1 0 (((c2+(B.getD (m-1+C) 0):Nat)+((lim (b*2^s)).getD C 0:Nat):Nat)%4294967296:Nat) e oM (fun _ e=>?_));replace e:=e.to [⟨M,139,(V).flatMap az⟩] [⟨139,1,sB zg,K,(B).length,(B.set (m-1+C) (((c2+(B.getD (m-1+C) 0):Nat)+((lim (b*2^s)).getD C 0:Nat):Nat)%4294967296:Nat)).flatMap az⟩];refine lN (kQ (lL e ac (lV 230 (mV (((c2+(B.getD (m-1+C) 0):Nat)+((lim (b*2^s)).getD C 0:Nat):Nat)/4294967296)) ?_ (hr:=aI (n:=Mt (((c2+(B.getD (m-1+C) 0):Nat)+((lim (b*2^s)).getD C 0:Nat):Nat):Int) 4294967296) kR (eh _ 4294967296)))));refine lL e ac (lN (kQ (lL e ac (bv 206 ((C:Nat)+1) (C+1) ?_))));refine lL e ac (lD ?_);intro a_ W;replace e:=e.rown [⟨139,1,sB zg,K,(B.set (m-1+C) (((c2+(B.getD (m-1+C) 0):Nat)+((lim (b*2^s)).getD C 0:Nat):Nat)%4294967296:Nat)).length,(B.set (m-1+C) (((c2+(B.getD (m-1+C) 0):Nat)+((lim (b*2^s)).getD C 0:Nat):Nat)%4294967296:Nat)).flatMap az⟩] (by simp only[Md]);refine ⟨_,_,?_,⟨C+1,sB zg,K,B.set (m-1+C) (((c2+(B.getD (m-1+C) 0):Nat)+((lim (b*2^s)).getD C 0:Nat):Nat)%4294967296:Nat),(((c2+(B.getD (m-1+C) 0):Nat)+((lim (b*2^s)).getD C 0:Nat):Nat)/4294967296:Nat),yc,rfl,rfl,e.to _ _,oM,(by rw[Md];exact hub),(hWb.set _ (z6 _ kD)),oM,(uQ oM bk (Mc _ _ |>.trans oM)),(bl.set oM oM)⟩,W.to _ (by simp only[Md];kernel_rfl)⟩
   omega
  rintro _ _ ⟨gz,rzA,rzc,uz,yd,rfl,e,hDl,hDw,hDg,hDu,hDe⟩;refine kQ (lL e cJ (lV 249 (mW gz) ?_ (hr:=rT ((gz:Int)) kR (o4 oM oM))));refine lX 250 (sB M) (((lim (a*2^s)).length+2)-(lim (b*2^s)).length:Nat) (((lim (a*2^s)).length+2)-(lim (b*2^s)).length:Nat) 1 ((m:Int)-1) (m-1) rfl (lW 0 V az 1 (m-1) gz e oM (fun _ e=>?_));have zN:((V).set (m-1) gz).length=(((lim (a*2^s)).length+2)-(lim (b*2^s)).length:Nat):=by rw[Md];exact hql
  replace e:=e.to [⟨M,139,((V).set (m-1) gz).flatMap az⟩] [⟨139,1,rzA,rzc,(uz).length,(uz).flatMap az⟩];refine lN (kQ (lL e ac (lV 88 (iV (((m-1:Nat):Int)-1)) ?_ (hr:=rS ((((m:Int)-1)-1)) kR ((gH oM oM).trans oM)))));refine lL e ac (lD ?_);intro a_ W;refine ⟨_,_,?_,⟨m-1,rzA,rzc,uz,(V).set (m-1) gz,yd,rfl,rfl,e.to _ _,oM,hDl,hDw,zN,(hWq.set _ hDg),hDu,(Gs oM (hq0 _ oM) inv hDe),(fun k hk=>by rw[bC oM,if_neg oM];exact hq0 k oM)⟩,W.to _ kR⟩
  omega
 have zK:=oT zs;refine lB 144 zs (ak (cK (cQ (kZ (aD ?_)))));have hgv:=xX hgl hvi;refine lL e m4 (lX 151 S ((lim (b*2^s)).length) Y 1 (i:Nat) i ((e.f.q.1).ok oM) ?_);refine lH 152 (mW ((lim (b*2^s)).getD i 0)) e ((e.f.q.1).el i oM) (lV 153 (mV ((lim (b*2^s)).getD i 0)) ?_ (hr:=rU ((((lim (b*2^s)).getD i 0:Nat):Int)) kR (be oM oM)));refine lV 154 (mV (I*((lim (b*2^s)).getD i 0:Nat))) ?_ (hr:=rU (((I:Int)*(((lim (b*2^s)).getD i 0:Nat):Int))) kR (jp I ((lim (b*2^s)).getD i 0:Nat) oM));refine lV 155 (mV (F+(I*((lim (b*2^s)).getD i 0:Nat):Nat))) ?_ (hr:=rU (((F:Int)+((I*((lim (b*2^s)).getD i 0:Nat):Nat):Int))) kR (eM F (I*((lim (b*2^s)).getD i 0:Nat):Nat) oM));refine lL e ac (aG (lL e cJ (bv 159 (((m:Int)-1)+(i:Nat)) (m-1+i) ?_)));obtain ⟨zc,zA⟩:=e.rowA 0 (A:=raA) (c:=J) (m:=(z).length) (ty:=139) (sz:=1) (cs:=(z).flatMap az) oM;subst zA;refine lX 160 (sB zc) ((z).length) J 1 (m-1+i:Nat) (m-1+i) rfl (Jy (ty:=139) (sz:=1) (c:=J) (m:=(z).length) (b:=zc) (cs:=(z).flatMap az) 161 0 (mW (z.getD (m-1+i) 0)) (az (z.getD (m-1+i) 0)) e (fF (f:=az) (sz:=1) (fun _=>rfl) 0 z (m-1+i) oM) (lV 162 (mV (z.getD (m-1+i) 0)) ?_ (hr:=rU (((z.getD (m-1+i) 0:Nat):Int)) kR (be oM oM))));refine lL e ac (lV 164 (mV ((F+(I*((lim (b*2^s)).getD i 0:Nat):Nat):Nat)%4294967296)) ?_ (hr:=rr (t:=43) (u:=43) (x:=.tmp 163) (y:=.const (uV 4294967295)) (a:=(F+(I*((lim (b*2^s)).getD i 0:Nat):Nat):Nat)) (m:=4294967295) 32 kR kR kR oM kD _));refine lV 165 (mV (((z.getD (m-1+i) 0)+(18446744073709551616-((F+(I*((lim (b*2^s)).getD i 0:Nat):Nat):Nat)%4294967296:Nat)))%18446744073709551616)) ?_ (hr:=rU ((((z.getD (m-1+i) 0:Nat):Int)-(((F+(I*((lim (b*2^s)).getD i 0:Nat):Nat):Nat)%4294967296:Nat):Int))) kR (kO (z.getD (m-1+i) 0) ((F+(I*((lim (b*2^s)).getD i 0:Nat):Nat):Nat)%4294967296:Nat) oM));refine lL e ac (lV 167 (mV (((((z.getD (m-1+i) 0)+(18446744073709551616-((F+(I*((lim (b*2^s)).getD i 0:Nat):Nat):Nat)%4294967296:Nat)))%18446744073709551616:Nat)+(18446744073709551616-H))%18446744073709551616)) ?_ (hr:=rU ((((((z.getD (m-1+i) 0)+(18446744073709551616-((F+(I*((lim (b*2^s)).getD i 0:Nat):Nat):Nat)%4294967296:Nat)))%18446744073709551616:Nat):Int)-(H:Int))) kR (kO (((z.getD (m-1+i) 0)+(18446744073709551616-((F+(I*((lim (b*2^s)).getD i 0:Nat):Nat):Nat)%4294967296:Nat)))%18446744073709551616:Nat) H oM)));refine lL e ac (aG ?_);obtain ⟨hS1,hS2⟩:=BV (t:=(((((z.getD (m-1+i) 0)+(18446744073709551616-((F+(I*((lim (b*2^s)).getD i 0:Nat):Nat):Nat)%4294967296:Nat)))%18446744073709551616:Nat)+(18446744073709551616-H))%18446744073709551616:Nat)) (hWa.get (m-1+i)) (z6 ((F+(I*((lim (b*2^s)).getD i 0:Nat):Nat):Nat)) (show 0<4294967296 by decide)) hbo rfl;refine lL e cJ (bv 171 (((m:Int)-1)+(i:Nat)) (m-1+i) ?_);refine lL e ac (lV 173 (mW ((((((z.getD (m-1+i) 0)+(18446744073709551616-((F+(I*((lim (b*2^s)).getD i 0:Nat):Nat):Nat)%4294967296:Nat)))%18446744073709551616:Nat)+(18446744073709551616-H))%18446744073709551616:Nat)%4294967296)) ?_ (hr:=rT (((((((z.getD (m-1+i) 0)+(18446744073709551616-((F+(I*((lim (b*2^s)).getD i 0:Nat):Nat):Nat)%4294967296:Nat)))%18446744073709551616:Nat)+(18446744073709551616-H))%18446744073709551616:Nat):Int)) kR (gU _)));refine lX 174 (sB zc) ((z).length) J 1 (m-1+i:Nat) (m-1+i) rfl (FG (ty:=139) (c:=J) (b:=zc) 0 (m-1+i) 0 ([mW ((((((z.getD (m-1+i) 0)+(18446744073709551616-((F+(I*((lim (b*2^s)).getD i 0:Nat):Nat):Nat)%4294967296:Nat)))%18446744073709551616:Nat)+(18446744073709551616-H))%18446744073709551616:Nat)%4294967296)]) z az 1 0 ((((((z.getD (m-1+i) 0)+(18446744073709551616-((F+(I*((lim (b*2^s)).getD i 0:Nat):Nat):Nat)%4294967296:Nat)))%18446744073709551616:Nat)+(18446744073709551616-H))%18446744073709551616:Nat)%4294967296:Nat) e oM (fun _ e=>?_));replace e:=e.to [⟨M,139,(V).flatMap az⟩] [⟨139,1,sB zc,J,(z).length,(z.set (m-1+i) ((((((z.getD (m-1+i) 0)+(18446744073709551616-((F+(I*((lim (b*2^s)).getD i 0:Nat):Nat):Nat)%4294967296:Nat)))%18446744073709551616:Nat)+(18446744073709551616-H))%18446744073709551616:Nat)%4294967296:Nat)).flatMap az⟩];refine lN (bH [(4,sZ),(5,sZ),(8,nV s),(9,qS S ((lim (b*2^s)).length) Y),(10,qS (sB zc) ((z).length) J),(11,nV ((lim (b*2^s)).length)),(12,mV ((lim (b*2^s)).getD (((lim (b*2^s)).length:Nat)-1:Nat) 0)),(13,mV ((lim (b*2^s)).getD (((lim (b*2^s)).length:Nat)-2:Nat) 0)),(14,qS (sB M) (((lim (a*2^s)).length+2)-(lim (b*2^s)).length:Nat) (((lim (a*2^s)).length+2)-(lim (b*2^s)).length:Nat)),(15,iV ((m:Int)-1)),(17,mV I),(21,nV i),(19,mV (F+(I*((lim (b*2^s)).getD i 0:Nat):Nat))),(20,mV H),(22,mV (((((z.getD (m-1+i) 0)+(18446744073709551616-((F+(I*((lim (b*2^s)).getD i 0:Nat):Nat):Nat)%4294967296:Nat)))%18446744073709551616:Nat)+(18446744073709551616-H))%18446744073709551616))] ?_);refine aa e ac (lV 176 (mV ((((((z.getD (m-1+i) 0)+(18446744073709551616-((F+(I*((lim (b*2^s)).getD i 0:Nat):Nat):Nat)%4294967296:Nat)))%18446744073709551616:Nat)+(18446744073709551616-H))%18446744073709551616:Nat)/9223372036854775808)) ?_ (hr:=aI (n:=Mt ((((((z.getD (m-1+i) 0)+(18446744073709551616-((F+(I*((lim (b*2^s)).getD i 0:Nat):Nat):Nat)%4294967296:Nat)))%18446744073709551616:Nat)+(18446744073709551616-H))%18446744073709551616:Nat):Int) 9223372036854775808) kR (eh _ 9223372036854775808)));refine lL e ac (lN (kQ (lL e ac (lV 178 (mV ((F+(I*((lim (b*2^s)).getD i 0:Nat):Nat):Nat)/4294967296)) ?_ (hr:=aI (n:=Mt ((F+(I*((lim (b*2^s)).getD i 0:Nat):Nat):Nat):Int) 4294967296) kR (eh _ 4294967296))))));refine lL e ac (lN (kQ (lL e ac (bv 146 ((i:Nat)+1) (i+1) ?_))));refine lL e ac (lD ?_);intro a_ W;replace e:=e.rown [⟨139,1,sB zc,J,(z.set (m-1+i) ((((((z.getD (m-1+i) 0)+(18446744073709551616-((F+(I*((lim (b*2^s)).getD i 0:Nat):Nat):Nat)%4294967296:Nat)))%18446744073709551616:Nat)+(18446744073709551616-H))%18446744073709551616:Nat)%4294967296:Nat)).length,(z.set (m-1+i) ((((((z.getD (m-1+i) 0)+(18446744073709551616-((F+(I*((lim (b*2^s)).getD i 0:Nat):Nat):Nat)%4294967296:Nat)))%18446744073709551616:Nat)+(18446744073709551616-H))%18446744073709551616:Nat)%4294967296:Nat)).flatMap az⟩] (by simp only[Md]);refine ⟨_,_,?_,⟨i+1,sB zc,J,z.set (m-1+i) ((((((z.getD (m-1+i) 0)+(18446744073709551616-((F+(I*((lim (b*2^s)).getD i 0:Nat):Nat):Nat)%4294967296:Nat)))%18446744073709551616:Nat)+(18446744073709551616-H))%18446744073709551616:Nat)%4294967296:Nat),((F+(I*((lim (b*2^s)).getD i 0:Nat):Nat):Nat)/4294967296:Nat),((((((z.getD (m-1+i) 0)+(18446744073709551616-((F+(I*((lim (b*2^s)).getD i 0:Nat):Nat):Nat)%4294967296:Nat)))%18446744073709551616:Nat)+(18446744073709551616-H))%18446744073709551616:Nat)/9223372036854775808:Nat),zu,rfl,rfl,e.to _ _,oM,(by rw[Md];exact hua),(hWa.set _ (z6 _ kD)),oM,hS2,(uG (t:=((F+(I*((lim (b*2^s)).getD i 0:Nat):Nat):Nat))%4294967296) oM bf (Mc _ _ |>.trans oM) oM),(bm.set oM oM)⟩,W.to _ (by simp only[Md];kernel_rfl)⟩
 omega
theorem o6 (a:Nat)(A:Z9)(c:Nat)(l:(lim a).length<=c)(b:Nat)(D:Z9)(d:Nat)(o:(lim b).length<=d)(e:(lim a).length<=3000000000)(f:(lim b).length<=3000000000)(x:0<b)(w:World)(h:Hp)(g:G w h)(j:S3 A (lim a) h)(i:S3 D (lim b) h):CR 138 #[.slice A (lim a).length c,.slice D (lim b).length d] w h (fun v h1=>∃ p u,v=.tuple #[p,u]/\RN h1 p (a/b)/\RN h1 u (a%b)):=by
 have y:=bR.2 x
 rcases cD a b with h1|h1
 ·exact n9 a A c l b D d o e f h1 w h g j i
 ·rcases cD (lim b).length 2 with h2|h2
  ·exact m7 a A c l b D d o e f h1 oM w h g j i
  ·exact pz a A c l b D d o e f h1 h2 _ rfl w h g j i
theorem jn (x y:Nat):My y (x%y)=My x y:=by rw[MA y,<-Nat.gcd_rec,MA]
theorem Ct (a:Nat)(A:Z9)(c:Nat)(Y:(lim a).length<=c)(b:Nat)(D:Z9)(d:Nat)(hd:(lim b).length<=d)(C:(lim a).length<=3000000000)(I:(lim b).length<=3000000000)(w:World)(h:Hp)(g:G w h)(X:S3 A (lim a) h)(V:S3 D (lim b) h):CR 137 #[.slice A ((lim a).length) c,.slice D ((lim b).length) d] w h (fun v h1=>RN h1 v (My a b)):=by
 have e:=(((sS g).aS X).aS V);refine go Tryz.func137 [(0,qS A ((lim a).length) c),(1,qS D ((lim b).length) d)] rfl (aa e ac (ah (kZ ?_)));replace e:=e.aS e.f.1;replace e:=e.aS e.f.r.1;refine bH _ (CG.loop (fun B Γ W=>∃ (x:Nat)(j:Z9)(c1:Nat)(y:Nat)(u:Z9)(c2:Nat)(H:Hp),B=y/\Γ=[(4,sZ),(0,qS j ((lim x).length) c1),(1,qS u ((lim y).length) c2)]/\SS w h W H [] [] [S3 j (lim x),S3 u (lim y),S3 D (lim b),S3 A (lim a)]/\(lim x).length<=c1/\(lim y).length<=c2/\(lim x).length<=3000000000/\(lim y).length<=3000000000/\My x y=My a b) _ ⟨a,A,c,b,D,d,h,rfl,rfl,e.to _ _,Y,hd,C,I,rfl⟩ ?_);rintro _ _ w1 ⟨x,j,c1,y,u,c2,h2,S,rfl,e,p,o,hl1,z,M⟩;refine cQ (aa e [.c,.v (nV ((lim y).length))] ?_);cases i:(decide ((0:Int)<(((lim y).length:Nat):Int)))
 .
  have l:=oF i;refine lB 9 i (ag (CG.exit ?_))
  show CG _ _ _ _ _ _ _ _
  refine aa e ax (lN (kX ?_));have F:y=0:=Nat.eq_zero_of_not_pos (fun H=>by have:=bR.2 H;omega);exact e.ret [] (qS j ((lim x).length) c1) (by rw[<-M,F,Nat.gcd_zero_right];exact ⟨j,c1,rfl,p,e.f.1⟩)
 have l:=oT i;refine lB 9 i (ak (cK (kZ (aa e ax (lC 13 e (o6 x j c1 p y u c2 o oM oM (bR.1 oM) _ _ e.g e.f.1 e.f.2.1) ?_)))));rintro _ w5 Q e ⟨_,_,rfl,⟨U,cq,rfl,Z,hq⟩,⟨L,K,rfl,J,hr⟩⟩;replace e:=e.aS hr;have hmd:=z6 x (bR.1 (show 0<(lim y).length by omega));have O:=dE (show x%y<=y by omega);refine lL e [.c,.v (qS U (lim (x/y)).length cq),.v (qS L ((lim (x%y)).length) K),.c,.c] (aG (lL e ax (lN (kQ (lL e ax (lD ?_))))));intro a_ ka;replace e:=((e.tl.tl.tl.aS e.f.1).aS e.f.r.1);refine ⟨_,_,?_,⟨y,u,c2,x%y,L,K,Q,rfl,rfl,e.to _ _,o,J,z,oM,(by rw[jn];exact M)⟩,ka.to _ kR⟩
 omega
def ao (x:Nat):List Value:=[.int .u64 (x:Nat)]
theorem BW {l:List Nat}{m:Nat}(h:0<m)(h0:l.getD (m-1) 0=0):tl l m=tl l (m-1):=by
 obtain ⟨k,rfl⟩:∃ k,m=k+1:=⟨m-1,by omega⟩;rw[k9,if_pos (by simpa using h0)];rfl
theorem rj (s:ByteArray)(d:8<=s.size)(w:World)(h:Hp)(g:G w h):CV 122 #[.string s] w h (mV (wv s)):=by
 have c:=sS g;have o:=cM s 0;have l:=cM s 1;have D:=cM s 2;have e:=cM s 3;have C:=cM s 4;have B:=cM s 5;have p:=cM s 6;have z:=cM s 7;refine go Tryz.func122 [(0,.string s)] rfl (aa c ac (ah (cR 38 [] mixed c ar ?_)));refine eV 0 3 (.string s) (eV 1 4 (.int .u8 (aU s 0:Nat)) ?_ (hv:=fun _=>dU (tx:=9) (x:=.tmp 3) (i:=.const (iV 0)) (k:=.i64) (s:=s) (n:=0) (j:=(0:Int)) kR kR kR kR oM oM _));refine eV 2 5 (mV (aU s 0)) ?_ (hv:=fun _=>rU (((aU s 0:Nat):Int)) kR (be oM oM));refine eV 3 6 (.string s) (eV 4 7 (.int .u8 (aU s 1:Nat)) ?_ (hv:=fun _=>dU (tx:=9) (x:=.tmp 6) (i:=.const (iV 1)) (k:=.i64) (s:=s) (n:=1) (j:=(1:Int)) kR kR kR kR oM oM _));refine eV 5 8 (mV (aU s 1)) ?_ (hv:=fun _=>rU (((aU s 1:Nat):Int)) kR (be oM oM));refine eV 6 9 (mV ((aU s 1)*256)) ?_ (hv:=fun _=>rU ((((aU s 1:Nat):Int)*256)) kR ((be oM oM).trans oM));refine eV 7 10 (mV (aU s 0+aU s 1*256)) ?_ (hv:=fun _=>aI (ir (t:=43) (u:=43) (x:=.tmp 5) (y:=.tmp 9) (a:=(aU s 0)) (b:=((aU s 1)*256)) kR kR kR oM oM _) (by rw[gN 8 oM];first|done|omega));refine eV 8 11 (.string s) (eV 9 12 (.int .u8 (aU s 2:Nat)) ?_ (hv:=fun _=>dU (tx:=9) (x:=.tmp 11) (i:=.const (iV 2)) (k:=.i64) (s:=s) (n:=2) (j:=(2:Int)) kR kR kR kR oM oM _));refine eV 10 13 (mV (aU s 2)) ?_ (hv:=fun _=>rU (((aU s 2:Nat):Int)) kR (be oM oM));refine eV 11 14 (mV ((aU s 2)*65536)) ?_ (hv:=fun _=>rU ((((aU s 2:Nat):Int)*65536)) kR ((be oM oM).trans oM));refine eV 12 15 (mV (aU s 0+aU s 1*256+aU s 2*65536)) ?_ (hv:=fun _=>aI (ir (t:=43) (u:=43) (x:=.tmp 10) (y:=.tmp 14) (a:=(aU s 0+aU s 1*256)) (b:=((aU s 2)*65536)) kR kR kR oM oM _) (by rw[gN 16 oM];first|done|omega));refine eV 13 16 (.string s) (eV 14 17 (.int .u8 (aU s 3:Nat)) ?_ (hv:=fun _=>dU (tx:=9) (x:=.tmp 16) (i:=.const (iV 3)) (k:=.i64) (s:=s) (n:=3) (j:=(3:Int)) kR kR kR kR oM oM _));refine eV 15 18 (mV (aU s 3)) ?_ (hv:=fun _=>rU (((aU s 3:Nat):Int)) kR (be oM oM));refine eV 16 19 (mV ((aU s 3)*16777216)) ?_ (hv:=fun _=>rU ((((aU s 3:Nat):Int)*16777216)) kR ((be oM oM).trans oM));refine eV 17 20 (mV (aU s 0+aU s 1*256+aU s 2*65536+aU s 3*16777216)) ?_ (hv:=fun _=>aI (ir (t:=43) (u:=43) (x:=.tmp 15) (y:=.tmp 19) (a:=(aU s 0+aU s 1*256+aU s 2*65536)) (b:=((aU s 3)*16777216)) kR kR kR oM oM _) (by rw[gN 24 oM];first|done|omega));refine eV 18 21 (.string s) (eV 19 22 (.int .u8 (aU s 4:Nat)) ?_ (hv:=fun _=>dU (tx:=9) (x:=.tmp 21) (i:=.const (iV 4)) (k:=.i64) (s:=s) (n:=4) (j:=(4:Int)) kR kR kR kR oM oM _));refine eV 20 23 (mV (aU s 4)) ?_ (hv:=fun _=>rU (((aU s 4:Nat):Int)) kR (be oM oM));refine eV 21 24 (mV ((aU s 4)*4294967296)) ?_ (hv:=fun _=>rU ((((aU s 4:Nat):Int)*4294967296)) kR ((be oM oM).trans oM));refine eV 22 25 (mV (aU s 0+aU s 1*256+aU s 2*65536+aU s 3*16777216+aU s 4*4294967296)) ?_ (hv:=fun _=>aI (ir (t:=43) (u:=43) (x:=.tmp 20) (y:=.tmp 24) (a:=(aU s 0+aU s 1*256+aU s 2*65536+aU s 3*16777216)) (b:=((aU s 4)*4294967296)) kR kR kR oM oM _) (by rw[gN 32 oM];first|done|omega));refine eV 23 26 (.string s) (eV 24 27 (.int .u8 (aU s 5:Nat)) ?_ (hv:=fun _=>dU (tx:=9) (x:=.tmp 26) (i:=.const (iV 5)) (k:=.i64) (s:=s) (n:=5) (j:=(5:Int)) kR kR kR kR oM oM _));refine eV 25 28 (mV (aU s 5)) ?_ (hv:=fun _=>rU (((aU s 5:Nat):Int)) kR (be oM oM));refine eV 26 29 (mV ((aU s 5)*1099511627776)) ?_ (hv:=fun _=>rU ((((aU s 5:Nat):Int)*1099511627776)) kR ((be oM oM).trans oM));refine eV 27 30 (mV (aU s 0+aU s 1*256+aU s 2*65536+aU s 3*16777216+aU s 4*4294967296+aU s 5*1099511627776)) ?_ (hv:=fun _=>aI (ir (t:=43) (u:=43) (x:=.tmp 25) (y:=.tmp 29) (a:=(aU s 0+aU s 1*256+aU s 2*65536+aU s 3*16777216+aU s 4*4294967296)) (b:=((aU s 5)*1099511627776)) kR kR kR oM oM _) (by rw[gN 40 oM];first|done|omega));refine eV 28 31 (.string s) (eV 29 32 (.int .u8 (aU s 6:Nat)) ?_ (hv:=fun _=>dU (tx:=9) (x:=.tmp 31) (i:=.const (iV 6)) (k:=.i64) (s:=s) (n:=6) (j:=(6:Int)) kR kR kR kR oM oM _));refine eV 30 33 (mV (aU s 6)) ?_ (hv:=fun _=>rU (((aU s 6:Nat):Int)) kR (be oM oM));refine eV 31 34 (mV ((aU s 6)*281474976710656)) ?_ (hv:=fun _=>rU ((((aU s 6:Nat):Int)*281474976710656)) kR ((be oM oM).trans oM));refine eV 32 35 (mV (aU s 0+aU s 1*256+aU s 2*65536+aU s 3*16777216+aU s 4*4294967296+aU s 5*1099511627776+aU s 6*281474976710656)) ?_ (hv:=fun _=>aI (ir (t:=43) (u:=43) (x:=.tmp 30) (y:=.tmp 34) (a:=(aU s 0+aU s 1*256+aU s 2*65536+aU s 3*16777216+aU s 4*4294967296+aU s 5*1099511627776)) (b:=((aU s 6)*281474976710656)) kR kR kR oM oM _) (by rw[gN 48 oM];first|done|omega));refine eV 33 36 (.string s) (eV 34 37 (.int .u8 (aU s 7:Nat)) ?_ (hv:=fun _=>dU (tx:=9) (x:=.tmp 36) (i:=.const (iV 7)) (k:=.i64) (s:=s) (n:=7) (j:=(7:Int)) kR kR kR kR oM oM _));refine eV 35 38 (mV (aU s 7)) ?_ (hv:=fun _=>rU (((aU s 7:Nat):Int)) kR (be oM oM));refine eV 36 39 (mV ((aU s 7)*72057594037927936)) ?_ (hv:=fun _=>rU ((((aU s 7:Nat):Int)*72057594037927936)) kR ((be oM oM).trans oM));refine eV 37 40 (mV (aU s 0+aU s 1*256+aU s 2*65536+aU s 3*16777216+aU s 4*4294967296+aU s 5*1099511627776+aU s 6*281474976710656+aU s 7*72057594037927936)) ?_ (hv:=fun _=>aI (ir (t:=43) (u:=43) (x:=.tmp 35) (y:=.tmp 39) (a:=(aU s 0+aU s 1*256+aU s 2*65536+aU s 3*16777216+aU s 4*4294967296+aU s 5*1099511627776+aU s 6*281474976710656)) (b:=((aU s 7)*72057594037927936)) kR kR kR oM oM _) (by rw[gN 56 oM];first|done|omega));exact bS c (fun w1 f c=>tV 38 2 (mV (aU s 0+aU s 1*256+aU s 2*65536+aU s 3*16777216+aU s 4*4294967296+aU s 5*1099511627776+aU s 6*281474976710656+aU s 7*72057594037927936)) (tN (kX (c.ret [] (mV (aU s 0+aU s 1*256+aU s 2*65536+aU s 3*16777216+aU s 4*4294967296+aU s 5*1099511627776+aU s 6*281474976710656+aU s 7*72057594037927936)) rfl))))
end Go.Proofs.YtlidpooijdogdaaGreatDoor
