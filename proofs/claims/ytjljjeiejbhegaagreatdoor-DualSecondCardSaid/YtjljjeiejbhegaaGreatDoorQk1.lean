/- Laws of this claim, part 2. -/
import Derived.Test.YtjljjeiejbhegaaGreatDoorQk0
set_option maxRecDepth 100000
set_option maxHeartbeats 4000000
namespace Go.Proofs.YtjljjeiejbhegaaGreatDoor
open _root_.Array renaming getElem?_append_left -> ub, getElem?_append_right -> A0, getElem?_eq_none -> eb, getElem?_push_size -> e6, getElem?_replicate -> A6, getElem?_setIfInBounds_ne -> la, getElem?_setIfInBounds_self_of_lt -> Bs, replicate -> tw
open Bool renaming and_eq_true -> lu, true_and -> NX
open Int renaming fdiv -> NW, toNat_natCast -> Aw
open List renaming all_eq_true -> o0, drop_eq_getElem_cons -> MY, drop_eq_nil_of_le -> NR, eq_nil_of_length_eq_zero -> z1, flatMap_cons -> y4, getD_cons_succ -> y9, getD_eq_getElem?_getD -> Nc, getElem?_append_left -> wj, getElem?_append_right -> yz, getElem?_drop -> yy, getElem?_eq_none -> ua, getElem?_eq_some_iff -> NN, getElem?_map -> Nq, getElem?_range -> Nr, getElem?_take_of_lt -> yh, getElem_mem -> gg, getElem_set_ne -> F2, getElem_set_self -> Ga, length -> NT, length_append -> zY, length_cons -> uA, length_drop -> Np, length_set -> NI, length_take -> MV, map_cons -> A7, map_nil -> NV, map_toArray -> NU, mem_cons -> hC, mem_flatMap -> NO, mem_iff_getElem -> vj, mem_map -> g3, mem_of_mem_eraseIdx -> D1, mem_range -> pa, pairwise_cons -> NP, pairwise_iff_getElem -> Ft, replicate -> Af, set_cons_zero -> NS, take_length -> y8, take_of_length_le -> Nj
open Nat renaming add_assoc -> y3, add_mul -> Ni, add_mul_div_left -> M9, add_mul_mod_self_left -> NL, add_sub_cancel -> Nz, add_zero -> y5, ble -> NQ, div_add_mod -> Nl, div_div_eq_div_mul -> Nb, div_eq_of_lt -> MN, div_eq_of_lt_le -> NB, div_lt_iff_lt_mul -> Ny, div_mul_le_self -> Nv, eq_zero_or_pos -> B2, gcd -> N1, gcd_comm -> N2, le_of_ble_eq_true -> Hi, le_refl -> ek, le_trans -> ep, lt_div_mul_add -> Nx, lt_of_le_of_lt -> H1, lt_of_lt_of_le -> er, lt_of_mul_lt_mul_left -> NM, lt_or_ge -> ea, min_eq_left -> MW, mod_add_div -> NH, mod_eq_of_lt -> Am, mod_lt -> As, mul_add -> MS, mul_add_div -> NK, mul_assoc -> MT, mul_comm -> MQ, mul_div_mul_right -> NE, mul_le_mul -> NF, mul_le_mul_left -> M5, mul_le_mul_right -> z7, mul_lt_mul_of_pos_left -> Nf, mul_lt_mul_of_pos_right -> ND, mul_mod_mul_right -> NG, mul_pos -> NC, mul_succ -> Nt, mul_zero -> MX, one_mul -> Nk, pos_of_ne_zero -> Nu, pow_add -> M4, pow_le_pow_right -> M1, pow_mul -> M7, pow_pos -> Na, pow_succ -> MP, pow_zero -> NZ, succ_pos -> N0, two_pow_add_eq_or_of_lt -> Ns, two_pow_pos -> M0, zero_add -> z6, zero_le -> NY, zero_mod -> NJ, zero_mul -> zZ
open Option renaming map_some -> um
open Go.RowKit
def kT (s t:ByteArray):Bool:=s.toList == t.toList
def nZ (s t:ByteArray):Bool:=!(s.toList == t.toList)
theorem ik {s t:ByteArray}(h:kT s t=true):s=t:=by
 have e:=eq_of_beq (show (s.toList == t.toList)=true from h);rw[Lib.toList_data,Lib.toList_data] at e
 cases s;cases t;congr 1;exact Array.toList_inj.1 e
theorem iA {s t:ByteArray}(h:kT s t=false):¬s=t:=fun e=>by
 subst e;have:kT s s=true:=beq_self_eq_true _;rw[this] at h;cases h
theorem pH {s t:ByteArray}(h:nZ s t=true):¬s=t:=iA (by unfold nZ at h;unfold kT;cases e:(s.toList == t.toList)<;>rw[e] at h<;>first|rfl|cases h)
theorem qo {s t:ByteArray}(h:nZ s t=false):s=t:=ik (by unfold nZ at h;unfold kT;cases e:(s.toList == t.toList)<;>rw[e] at h<;>first|rfl|cases h)
def wds (n:Nat):List Nat:=ig 18446744073709551616 n
def aD (l:List Nat):Nat:=ai 18446744073709551616 l
def Wd (l:List Nat):Prop:=Dg 18446744073709551616 l
theorem a7 (n):aD (wds n)=n:=ku kD n
theorem Wd.wds (n):Wd (wds n):=x9 kD n
theorem Wd.get {l:List Nat}(h:Wd l)(k):l.getD k 0<(2^64):=Dg.getD h kD k
theorem wM {p : Prop}(h : p := by first | omega | exact Wd.get (by assumption) _ | exact Gv _): p := h
theorem p8 (n k):(wds n).getD k 0<(2^64):=(Wd.wds n).get k
def b8 (x:Nat):List UInt8:=(List.range 8).map (fun k=>UInt8.ofNat (x/256^k))
theorem kW (x):(b8 x).length=8:=rfl
theorem HG (m):b8 (m%(2^64))=b8 m:=by
 unfold b8;apply List.map_congr_left
 intro k hk;have a:k<8:=pa.1 hk
 apply UInt8.toNat_inj.1
 show (m%(2^64)/256^k)%256=(m/256^k)%256
 have:k=0\/k=1\/k=2\/k=3\/k=4\/k=5\/k=6\/k=7:=by omega
 rcases this with rfl|rfl|rfl|rfl|rfl|rfl|rfl|rfl<;>omega
theorem xM:∀ (f m:Nat),m<=f->wb f m=(ig (2^64) m).flatMap b8
  | 0,m,h=>by
    have:m=0:=by omega
    subst this;rfl
  | f+1,m,h=>by
    unfold wb;split
    . rename_i h0;subst h0;rfl
    . rw[fq kD oM,y4,HG,xM f _ oM];rfl
theorem DD (n):ig (2^64) (n/(2^64))=(ig (2^64) n).drop 1:=by
 rcases B2 n with h|h
 ·subst h;rfl
 ·conv=>rhs;rw[fq kD h]
  rfl
theorem pP (n):(hi n).data.toList=((wds n).drop 1).flatMap b8:=by
 unfold hi wds;rw[xM _ _ oM,DD]
theorem oB (l:List Nat):(l.flatMap b8).length=8*l.length:=by
 induction l with
 | nil=>rfl
 | cons x l ih=>rw[y4,zY,ih,kW,uA];omega
theorem jx (n):(hi n).size=8*((wds n).length-1):=by
 have:(hi n).size=(hi n).data.toList.length:=by rw[Array.length_toList];rfl
 rw[this,pP,oB,Np]
theorem o3:∀ (l:List Nat) (j k:Nat),j<l.length->k<8->(l.flatMap b8).getD (8*j+k) 0=(b8 (l.getD j 0)).getD k 0
  | [],j,k,hj,_=>by simp at hj
  | x::l,0,k,hj,hk=>by
    rw[y4];simp only[Nc];rw[wj (by rw[kW];omega)]
    simp
  | x::l,j+1,k,hj,hk=>by
    rw[y4,y9,<-o3 l j k (by simpa using hj) hk]
    simp only[Nc];rw[yz (by rw[kW];omega),kW]
    congr 2
    omega
theorem I4 (x k)(hk:k<8):((b8 x).getD k 0).toNat=x/256^k%256:=by
 unfold b8;simp only[Nc,Nq,Nr hk];rfl
theorem I1 (n j k)(a:j+1<(wds n).length)(hk:k<8):ay (hi n) (8*j+k)=(wds n).getD (j+1) 0/256^k%256:=by
 unfold ay;rw[pP,o3 _ _ _ (by rw[Np];omega) hk,I4 _ _ hk,bG,Nat.add_comm 1 j]
theorem JA {s:ByteArray}{x:Nat}(a:x<(2^64))(h:∀ k,k<8->ay s k=x/256^k%256):wv s=x:=by
 unfold wv;rw[h 0 oM,h 1 oM,h 2 oM,h 3 oM,h 4 oM,h 5 oM,h 6 oM,h 7 oM];simp only[Nat.reducePow,Nat.div_one];omega
theorem j6 (n j)(a:j+1<(wds n).length):wv ((hi n).extract (8*j) (hi n).size)=(wds n).getD (j+1) 0 :=
 JA (p8 n _) (fun k hk=>by rw[rv,I1 n j k a hk])
theorem fx {n:Nat}(h:n<(2^64)):hi n=⟨#[]⟩:=nz h
theorem dl {n:Nat}(h:(2^64)<=n):2<=(wds n).length:=by
 rcases ea (wds n).length 2 with h1|h1
 ·have a:=j0 (b:=(2^64)) kD n
  have:((2^64):Nat)^(ig (2^64) n).length<=(2^64)^1:=M1 kD (by show (wds n).length<=1;omega)
  omega
 ·exact h1
theorem fV {n:Nat}(h:(2^64)<=n):(hi n).size≠0:=by rw[jx];have:=dl h;omega
theorem k9 {n:Nat}(h0:0<n)(h:n<(2^64)):wds n=[n]:=by
 unfold wds;rw[fq kD h0,Am h,MN h,kE]
theorem nS:wds 0=[]:=rfl
theorem mi {n:Nat}:0<(wds n).length↔0<n:=qe kD
theorem uq (n):lo n=(((wds n).getD 0 0:Nat):Int):=by
 unfold lo wds;rcases B2 n with h|h
 ·subst h;rfl
 ·rw[fq kD h];rfl
theorem pD {l:List Nat}(h:Wd l):wds (aD l)=l.take (tl l l.length):=G8 kD h
theorem ni {n:Nat}(h:0<n):(wds n).getD ((wds n).length-1) 0≠0:=m7 kD n h
theorem J3 {n:Nat}{l:List UInt8}(h:l=((wds n).drop 1).flatMap b8):(⟨l.toArray⟩:ByteArray)=hi n:=by
 have:(hi n).data.toList=l:=by rw[pP,h]
 cases e:hi n with
 | mk d=>rw[e] at this;rw[<-this]
theorem dO (n):n<18446744073709551616^(wds n).length:=j0 kD n
theorem dr {a b:Nat}(h:a<=b):(wds a).length<=(wds b).length:=fw kD (H1 h (dO b))
theorem g6 {a b:Nat}(k)(h:a<2^k):a ||| b*2^k=a+b*2^k:=by
 have:=Ns h b;rw[Nat.or_comm,MQ b,<-this];omega
def bY (a b:Nat):Int:=if a<b then -1 else if b<a then 1 else 0
theorem ei {a b:Nat}(h:a<b):bY a b = -1:=by simp[bY,h]
theorem f5 {a b:Nat}(h:b<a):bY a b=1:=by unfold bY;rw[if_neg oM,if_pos h]
theorem jv {a b:Nat}(h:a=b):bY a b=0:=by unfold bY;rw[if_neg oM,if_neg oM]
theorem f0 {a b:Nat}(h:b<=a):bY a b=0\/bY a b=1:=by
 unfold bY;rw[if_neg oM];split<;>simp
theorem gR {a b:Nat}(h:(wds a).length<(wds b).length):a<b:=by
 rcases ea a b with hl|hl
 ·exact hl
 ·have:=dr hl;omega
theorem mR {a b k:Nat}(d:(wds a).length=(wds b).length)(hk:k<(wds a).length)(h:(wds a).drop (k+1)=(wds b).drop (k+1))(c:(wds a).getD k 0<(wds b).getD k 0):a<b:=by
 have e:=bU 18446744073709551616 (l:=wds a) (k:=k+1) oM;have j:=bU 18446744073709551616 (l:=wds b) (k:=k+1) oM;have p:ai 18446744073709551616 (wds a)=a:=a7 a;have o:ai 18446744073709551616 (wds b)=b:=a7 b;have u:=aN 18446744073709551616 (l:=wds a) (k:=k) hk;have x:=aN 18446744073709551616 (l:=wds b) (k:=k) oM;have f:=bQ (Dg.take (Wd.wds a) k);rw[MV,MW oM] at f
 have i:18446744073709551616^k*(wds a).getD k 0+18446744073709551616^k<=18446744073709551616^k*(wds b).getD k 0:=by
  rw[<-Nt];exact M5 _ c
 rw[h] at e;omega
theorem l7 {a b k:Nat}(c:(wds a).length=(wds b).length)(hk:k<(wds a).length)(d:(wds a).drop (k+1)=(wds b).drop (k+1))(e:(wds a).getD k 0≠(wds b).getD k 0):bY ((wds a).getD k 0) ((wds b).getD k 0)=bY a b:=by
 rcases ea ((wds a).getD k 0) ((wds b).getD k 0) with h|h
 ·rw[ei h,ei (mR c hk d h)]
 ·rw[f5 oM,f5 (mR c.symm oM d.symm oM)]
theorem f4 {l m:List Nat}{k:Nat}(d:l.length=m.length)(hk:k<l.length)(c:l.drop (k+1)=m.drop (k+1))(a:l.getD k 0=m.getD k 0):l.drop k=m.drop k:=by
 rw[MY hk,MY (l:=m) (i:=k) oM,c]
 simp[hk,show k<m.length by omega] at a
 rw[a]
theorem vm (n):n%(2^64)=(wds n).getD 0 0:=Int.ofNat.inj (uq n)
theorem pU {a b:Nat}(c:(wds a).length=(wds b).length)(f:(wds a).drop 1=(wds b).drop 1):bY (a%(2^64)) (b%(2^64))=bY a b:=by
  rw[vm,vm];by_cases h:(wds a).getD 0 0=(wds b).getD 0 0
  . have:a=b:=by
      rcases B2 (wds a).length with h0|h0
      . have d:=a7 a
        have e:=a7 b;have j:wds a=[]:=z1 h0;have i:wds b=[]:=z1 oM;rw[j] at d
        rw[i] at e;exact d.symm.trans e
      . have:=f4 c h0 f h
        simp only[List.drop_zero] at this;rw[<-a7 a,<-a7 b,this]
    rw[h,jv rfl,jv this]
  . refine l7 c ?_ f h
    rcases B2 (wds a).length with h0|h0
    . exfalso;apply h
      have d:wds a=[]:=z1 h0;have e:wds b=[]:=z1 oM;rw[d,e]
    . exact h0
theorem v8 {n:Nat}(h:(wds n).length<=1):n<(2^64):=by
 rcases ea n (2^64) with h1|h1
 ·exact h1
 ·have:=dl h1;omega
theorem sL {a b:Nat}(c:(wds a).length-1=(wds b).length-1)(d:(wds a).drop 1=(wds b).drop 1):bY (a%(2^64)) (b%(2^64))=bY a b:=by
 rcases ea 1 (wds a).length with h|h
 ·exact pU oM d
 ·rw[Am (v8 h),Am (v8 oM)]
theorem xy {n:Nat}(h:0<n):nb n=64*((wds n).length-1)+nb ((wds n).getD ((wds n).length-1) 0):=by
 have f:=mi.2 h;have e:=aN (2^64) (l:=wds n) (k:=(wds n).length-1) oM;rw[show (wds n).length-1+1=(wds n).length by omega,y8] at e
 have d:ai (2^64) (wds n)=n:=a7 n;have a:=bQ (Dg.take (Wd.wds n) ((wds n).length-1));rw[MV,MW oM] at a
 have c:((2^64):Nat)^((wds n).length-1)=2^(64*((wds n).length-1)):=by rw[M7]
 rw[d,c] at e;rw[c] at a;have:=B3 a (Nu (ni h));rw[<-e] at this
 exact this
theorem jU {n:Nat}(h:n<(2^64)):Value.agg #[.int .u64 (n:Int),.string ⟨#[]⟩]=nv n:=by unfold nv;rw[nK h,nz h]
theorem dj {n:Nat}:(wds n).length<=1↔n<(2^64):=by
 constructor
 ·intro h
  rcases ea n (2^64) with h1|h1
  ·exact h1
  ·have:=dl h1;omega
 ·intro h
  rcases B2 n with h0|h0
  ·subst h0;simp[nS]
  ·rw[k9 h0 h];simp
structure HalfQ (Y y1 y0 u u1 q r:Nat):Prop where
  e:q*y1+r=u
  lt:u*4294967296+u1<(q+1)*Y
  qb:q<=4294967297
theorem mY {Y y1 y0 u u1:Nat}(c:Y=y1*(2^32)+y0)(h1:u1<(2^32))(hn:2147483648<=y1)(h0:y0<(2^32))(h:u<Y):HalfQ Y y1 y0 u u1 (u/y1) (u-u/y1*y1):=by
 have f:u/y1*y1<=u:=Nv u y1
 have d:u<(u/y1+1)*y1:=by
  have:=Nx (a:=u) (b:=y1) oM;rw[Ni,Nk];exact this
 refine ⟨by omega,?_,?_⟩
 ·have:(u/y1+1)*Y=(u/y1+1)*y1*(2^32)+(u/y1+1)*y0:=by rw[c,MS,MT]
  omega
 ·have e:u/y1<4294967298:=by
   rw[Ny oM];omega
  omega
theorem oU {u y1:Nat}(h:0<y1):u-u/y1*y1<y1:=by
 have:=Nx (a:=u) (b:=y1) h;have c:u/y1*y1<=u:=Nv u y1
 omega
theorem HalfQ.dec {Y y1 y0 u u1 q r:Nat}(h:HalfQ Y y1 y0 u u1 q r)(c:Y=y1*(2^32)+y0)(h1:u1<(2^32))(d:u<Y)(a:(2^32)<=q\/(2^32)*r+u1<q*y0):HalfQ Y y1 y0 u u1 (q-1) (r+y1):=by
 have f:0<q:=by
  rcases a with h2|h2
  ·omega
  ·rcases B2 q with h3|h3
   ·subst h3;omega
   ·exact h3
 obtain ⟨p,rfl⟩:∃ p,q=p+1:=⟨q-1,by omega⟩;have e:=h.e;rw[Ni,Nk] at e
 refine ⟨by rw[Nz];omega,?_,by have:=h.qb;omega⟩;rw[Nz]
 rcases a with h2|h2
 ·have:(2^32)*Y<=(p+1)*Y:=z7 _ h2
  omega
 ·have:(p+1)*Y=(p+1)*y1*(2^32)+(p+1)*y0:=by rw[c,MS,MT]
  rw[Ni p 1 y1,Nk] at this;omega
theorem HalfQ.fin {Y y1 y0 u u1 q r:Nat}(h:HalfQ Y y1 y0 u u1 q r)(d:Y=y1*(2^32)+y0)(i:¬(2^32)*r+u1<q*y0):q=(u*(2^32)+u1)/Y/\(u*(2^32)+u1)-q*Y=(u*(2^32)+u1)%Y/\q*Y<=u*(2^32)+u1:=by
 have a:q*Y<=u*(2^32)+u1:=by
  have:q*Y=q*y1*(2^32)+q*y0:=by rw[d,MS,MT]
  have:=h.e
  omega
 have c:q=(u*(2^32)+u1)/Y:=(NB a h.lt).symm;have f:=Nl (u*(2^32)+u1) Y;rw[<-c,MQ] at f
 exact ⟨c,by omega,a⟩
theorem HalfQ.brk {Y y1 y0 u u1 q r:Nat}(h:HalfQ Y y1 y0 u u1 q r)(a:Y=y1*(2^32)+y0)(h0:y0<(2^32))(hr:(2^32)<=r)(c:q<=(2^32)):q=(u*(2^32)+u1)/Y/\(u*(2^32)+u1)-q*Y=(u*(2^32)+u1)%Y/\q*Y<=u*(2^32)+u1 :=
 h.fin a (by
  have:q*y0<=(2^32)*y0:=z7 _ c
  omega)
theorem lj {A y s Y Q R:Nat}(c:Y=y*2^s)(f:A*2^s=Y*Q+R)(h:R<Y):A=y*Q+R/2^s/\R/2^s<y:=by
 have d:0<2^s:=M0 s;have e:y*Q*2^s=Y*Q:=by rw[c];ac_rfl
 have i:y*Q<=A:=by
  have:y*Q*2^s<=A*2^s:=by rw[f,e];omega
  exact Nat.le_of_mul_le_mul_right this d
 have a:R=(A-y*Q)*2^s:=by rw[Nat.sub_mul,f,e];omega
 rw[a,Nat.mul_div_cancel _ d];refine ⟨by omega,?_⟩;have:(A-y*Q)*2^s<y*2^s:=by rw[<-a,<-c];exact h
 exact Nat.lt_of_mul_lt_mul_right this
theorem wT {A y s a e Y u1 h p i x R:Nat}(c:Y=y*2^s)(u:A*2^s=a*(2^64)+e)(d:e=u1*(2^32)+h)(C:0<y)
  (B:p=(a*(2^32)+u1)/Y)(l:i=(a*(2^32)+u1)%Y)(o:x=(i*(2^32)+h)/Y)(j:R=(i*(2^32)+h)%Y) :
  A=y*(p*(2^32)+x)+R/2^s/\R/2^s<y:=by
 have f:0<Y:=by rw[c];exact NC C (M0 s)
 have D:=Nl (a*(2^32)+u1) Y;have F:=Nl (i*(2^32)+h) Y;rw[<-B,<-l] at D
 rw[<-o,<-j] at F;have z:R<Y:=by rw[j];exact As _ f
 refine lj c ?_ z;rw[u,d,MS,<-MT]
 clear B l o j u d z c f C;omega
theorem uP {y:Nat}(h0:0<y)(h:y<(2^64)):(2^63)<=y*2^(64-nb y)/\y*2^(64-nb y)<(2^64):=by
 obtain ⟨c,a,l⟩:=cI h0;have d:nb y<=64:=lU (k:=64) h
 have f:(2:Nat)^(nb y-1)*2^(64-nb y)=(2^63):=by
  rw[<-M4,show nb y-1+(64-nb y)=63 by omega]
 have i:(2:Nat)^nb y*2^(64-nb y)=(2^64):=by
  rw[<-M4,show nb y+(64-nb y)=64 by omega]
 have j:=z7 (2^(64-nb y)) c;have e:=ND a (M0 (64-nb y))
 omega
theorem DR {hi lo s:Nat}(d:s<=64)(c:lo<(2^64)):(hi*(2^64)+lo)*2^s=(hi*2^s+lo/2^(64-s))*(2^64)+lo*2^s%(2^64)/\lo/2^(64-s)<2^s:=by
 have e:((2^64):Nat)=2^(64-s)*2^s:=by rw[<-M4,show 64-s+s=64 by omega]
 have h1:lo*2^s/(2^64)=lo/2^(64-s):=by
  rw[e,NE _ _ (M0 s)]
 have a:=Nl (lo*2^s) (2^64);rw[h1] at a
 constructor
 ·rw[Ni,Ni]
  have:hi*(2^64)*2^s=hi*2^s*(2^64):=by ac_rfl
  omega
 ·rw[Ny (M0 _),MQ,<-e];exact c
theorem o9 {a b q Y r:Nat}(h:q*Y<=a*(2^32)+b)(hr:a*(2^32)+b-q*Y=r)(c:r<(2^64)):((a*(2^32)%(2^64)+b)%(2^64)+((2^64)-q*Y%(2^64)))%(2^64)=r:=by
 generalize q*Y=m at *
 omega
theorem Gl {a b:Nat}(ha:a<(2^32))(c:b<(2^32)):a*b<(2^64):=by
 have:a*b<=4294967295*4294967295:=NF oM oM
 omega
theorem ef {a b c:Nat}(h:c<a*b):0<a:=by
 rcases B2 a with h0|h0
 ·rw[h0,zZ] at h;omega
 ·exact h0
theorem sF {u u1 Y:Nat}(h:u<Y)(h1:u1<(2^32)):(u*(2^32)+u1)/Y<(2^32):=by
 rw[Ny oM];have:(u+1)*(2^32)<=Y*(2^32):=z7 _ h
 omega
theorem CB {p:Nat}(h:p<=64):((2^64):Nat)=2^(64-p)*2^p:=by rw[<-M4,show 64-p+p=64 by omega]
theorem Cj {x p o:Nat}(d:p<=64)(h:x<(2^64))(f:o<2^p):
  o ||| (x*2^p%(2^64))=o+x*2^p%(2^64)/\o+x*2^p%(2^64)<(2^64)/\x*2^p%(2^64)+(2^64)*(x/2^(64-p))=x*2^p/\x/2^(64-p)<2^p:=by
 have e:=CB d;have c:x*2^p%(2^64)=x%2^(64-p)*2^p:=by
  conv=>lhs;rw[e]
  exact NG _ _ _
 have a:x%2^(64-p)<2^(64-p):=As _ (M0 _);refine ⟨by rw[c];exact g6 p f,?_,?_,?_⟩
 ·rw[c]
  have:(x%2^(64-p)+1)*2^p<=2^(64-p)*2^p:=z7 _ a;rw[<-e,Ni] at this
  omega
 ·have h1:x*2^p/(2^64)=x/2^(64-p):=by
   conv=>lhs;rw[e]
   exact NE _ _ (M0 _)
  rw[<-h1];exact NH _ _
 ·rw[Ny (M0 _),MQ,<-e];exact h
theorem xP {l w:List Nat}{i q p x o a c:Nat}(y:i+q+1<l.length)(hv:aD l=2^p*(18446744073709551616^q*ai 18446744073709551616 (w.take i)))(h0:l.getD (i+q+1) 0=0)(h:a+18446744073709551616*c=x*2^p)(u:x=w.getD i 0)(f:o=l.getD (i+q) 0):
  aD ((l.set (i+q) (o+a)).set (i+q+1) c)=2^p*(18446744073709551616^q*ai 18446744073709551616 (w.take (i+1))):=by
 have e:=cP 18446744073709551616 (l:=l) (k:=i+q) (o+a) oM;have d:=cP 18446744073709551616 (l:=l.set (i+q) (o+a)) (k:=i+q+1) c (by rw[NI];omega);rw[bF oM,if_neg oM,h0] at d
 rw[<-f] at e;have j:2^p*(18446744073709551616^q*ai 18446744073709551616 (w.take (i+1)))=aD l+18446744073709551616^(i+q)*(x*2^p):=by
  rw[aI,hv,<-u,MS,MS,M4];congr 1
  ac_rfl
 rw[j,<-h];rw[MP] at d;show ai 18446744073709551616 _=ai 18446744073709551616 l+_
 simp only[MS,<-MT] at e d ⊢
 omega
theorem Ci (n):(2:Nat)^n=(2^64)^(n/64)*2^(n%64):=by
 have:n=64*(n/64)+n%64:=by omega
 conv=>lhs;rw[this,M4,M7]
theorem sH {x y p:Nat}(f:p<=64)(i:x<(2^64)):
  (x/2^p) ||| (y*2^(64-p)%(2^64))=x/2^p+y*2^(64-p)%(2^64)/\x/2^p+y*2^(64-p)%(2^64)<(2^64)/\2^p*(x/2^p+y*2^(64-p)%(2^64))+x%2^p=x+(2^64)*(y%2^p):=by
 have e:=CB f;have c:((2^64):Nat)=2^p*2^(64-p):=by rw[MQ];exact e
 have a:y*2^(64-p)%(2^64)=y%2^p*2^(64-p):=by
  conv=>lhs;rw[c]
  exact NG _ _ _
 have h:x/2^p<2^(64-p):=by rw[Ny (M0 _),<-e];exact i
 have d:y%2^p<2^p:=As _ (M0 _);refine ⟨by rw[a];exact g6 (64-p) h,?_,?_⟩
 ·rw[a]
  have:(y%2^p+1)*2^(64-p)<=2^p*2^(64-p):=z7 _ d;rw[<-c,Ni] at this
  omega
 ·rw[a,MS]
  have h1:=Nl x (2^p);have j:2^p*(y%2^p*2^(64-p))=(2^64)*(y%2^p):=by rw[c];ac_rfl
  omega
theorem q7 {l W:List Nat}{i p d a:Nat}(j:i<l.length)(inv:2^p*ai 18446744073709551616 l+a=ai 18446744073709551616 (W.take i)+18446744073709551616^i*(W.getD i 0%2^p))(h0:l.getD i 0=0)(o:2^p*d+W.getD i 0%2^p=W.getD i 0+18446744073709551616*(W.getD (i+1) 0%2^p)):
  2^p*ai 18446744073709551616 (l.set i d)+a=ai 18446744073709551616 (W.take (i+1))+18446744073709551616^(i+1)*(W.getD (i+1) 0%2^p):=by
 have e:=cP 18446744073709551616 (l:=l) (k:=i) d j;rw[h0] at e
 rw[aI,MP];have c:18446744073709551616^i*(2^p*d+W.getD i 0%2^p)=18446744073709551616^i*(W.getD i 0+18446744073709551616*(W.getD (i+1) 0%2^p)):=by rw[o]
 have f:ai 18446744073709551616 (l.set i d)=ai 18446744073709551616 l+18446744073709551616^i*d:=by omega
 rw[f,MS];have h:2^p*(18446744073709551616^i*d)=18446744073709551616^i*(2^p*d):=by ac_rfl
 rw[h];simp only[MS,<-MT] at c ⊢
 simp only[MT] at c inv ⊢
 omega
theorem DI {l W:List Nat}{p m:Nat}(a:W.length<=m)(inv:2^p*ai (2^64) l+W.getD 0 0%2^p=ai (2^64) (W.take m)+(2^64)^m*(W.getD m 0%2^p)):aD l=aD W/2^p:=by
 rw[Nj a] at inv;have h0:W.getD m 0=0:=by simp[ua a]
 rw[h0,NJ,MX,y5] at inv;have c:=M0 p;have d:=As (W.getD 0 0) c
 show ai _ l=ai _ W/_
 rw[<-inv,NK c,MN d,y5]
theorem oS {w:List Nat}(c:Wd w){q:Nat}(a:q<=w.length):aD (w.drop q)=aD w/(2^64)^q:=by
 have e:=bU (2^64) a;have h1:=bQ (Dg.take c q);rw[MV,MW a] at h1
 show ai _ _=ai _ w/_
 rw[e,M9 _ _ (Na kD),MN h1,z6]
def oe (x:Nat):List Value:=[.int .u8 (x:Nat)]
theorem t6 {b:Nat}(a:0<b){l:List Nat}(h:Dg b l)(j):l.getD j 0=ai b l/b^j%b:=by
 rcases ea j l.length with hj|hj
 ·have h1:=bU b (l:=l) (k:=j) oM
  have d:=ge b (l:=l) (k:=j) hj;have c:=bQ (Dg.take h j);rw[MV,MW oM] at c
  have e:0<b^j:=Na a;rw[h1,M9 _ _ e,MN c,z6,d,NL,Am (h.getD a j)]
 ·rw[cB hj,MN,NJ]
  exact er (bQ h) (M1 a hj)
theorem AO {b:Nat}{l:List Nat}{k P:Nat}(hk:k<l.length)(d:0<b)(h:ai b l<b^k*P):l.getD k 0<P:=by
 have h1:=bU b (l:=l) (k:=k) oM;have c:=ge b (l:=l) (k:=k) hk;have e:0<b^k:=Na d;refine NM (a:=b^k) ?_;have f:b^k*l.getD k 0<=b^k*ai b (l.drop k):=M5 _ (by rw[c];omega)
 omega
theorem tI (k):(256:Nat)^k=(2^64)^(k/8)*2^(8*(k%8)):=by
 have:k=8*(k/8)+k%8:=by omega
 conv=>lhs;rw[this,M4,M7]
 rw[M7 2 8]
theorem rx {l:List Nat}(a:Wd l)(k):l.getD (k/8) 0/2^(8*(k%8))%256=aD l/256^k%256:=by
 rw[t6 kD a (k/8),tI,<-Nb]
 show _=ai (2^64) l/_/_%256
 generalize ai (2^64) l/(2^64)^(k/8)=y
 have:k%8=0\/k%8=1\/k%8=2\/k%8=3\/k%8=4\/k%8=5\/k%8=6\/k%8=7:=by omega
 rcases this with h|h|h|h|h|h|h|h<;>rw[h]<;>omega
theorem BA (n k):(wds n).getD (k/8) 0/2^(8*(k%8))%256=n/256^k%256:=by
 rw[rx (Wd.wds n),a7]
theorem Ac {b k:Nat}(a:b<256):b*2^(8*(k%8))<(2^64):=by
 have:k%8=0\/k%8=1\/k%8=2\/k%8=3\/k%8=4\/k%8=5\/k%8=6\/k%8=7:=by omega
 rcases this with h|h|h|h|h|h|h|h<;>rw[h]<;>omega
theorem xx {a b k:Nat}(ha:a<2^(8*(k%8)))(c:b<256):a+b*2^(8*(k%8))<(2^64):=by
 have:k%8=0\/k%8=1\/k%8=2\/k%8=3\/k%8=4\/k%8=5\/k%8=6\/k%8=7:=by omega
 rcases this with h|h|h|h|h|h|h|h<;>rw[h] at ha ⊢ <;> omega
theorem uY {l:List Nat}{n k x:Nat}(hk:k/8<l.length)(inv:aD l=n%256^k)(f:x=n/256^k%256):
  (l.getD (k/8) 0 ||| x*2^(8*(k%8))%18446744073709551616)=l.getD (k/8) 0+x*2^(8*(k%8))/\l.getD (k/8) 0+x*2^(8*(k%8))<18446744073709551616 /\
  aD (l.set (k/8) (l.getD (k/8) 0+x*2^(8*(k%8))))=n%256^(k+1):=by
 have c:x<256:=by rw[f];exact As _ oM
 have a:aD l<256^k:=by rw[inv];exact As _ (Na oM)
 have d:l.getD (k/8) 0<2^(8*(k%8)):=AO (b:=18446744073709551616) hk kD (by rw[<-tI];exact a);refine ⟨?_,xx d c,?_⟩
 ·rw[Am (Ac c)];exact g6 _ d
 ·have e:=cP 18446744073709551616 (l:=l) (k:=k/8) (l.getD (k/8) 0+x*2^(8*(k%8))) hk
  rw[BN,<-f,<-inv];show ai _ _=ai _ l+_
  have h:256^k*x=18446744073709551616^(k/8)*(x*2^(8*(k%8))):=by rw[tI k];ac_rfl
  rw[MS] at e;rw[h];omega
theorem Cp (n):n<256^((nb n+7)/8):=by
 have h:=JL n;have e:(256:Nat)^((nb n+7)/8)=2^(8*((nb n+7)/8)):=by rw[M7]
 rw[e];exact er h (M1 oM oM)
theorem mZ (n):nb n<=64*(wds n).length:=by
 apply lU
 have:=dO n
 rwa [show (18446744073709551616:Nat)=2^64 by rfl,<-M7] at this
theorem nO (n):(wds n).length=(nb n+63)/64:=by
 rcases B2 n with h|h
 ·subst h;rfl
 ·have h1:=xy h
  have a:=ni h;have c:=p8 n ((wds n).length-1);have d:=mi.2 h
  generalize (wds n).getD ((wds n).length-1) 0=t at *
  have e:=(cI (Nu a)).2.2;have f:nb t<=64:=lU (k:=64) c
  omega
def Nw (K:Nat)(h:Hp)(b:Nat)(t:TypeId)(cs:List Value):Prop:=K<=b/\t≠0/\h[b]?=some (.cells cs.toArray t (0,0))
theorem Nw.gw {K:Nat}{h d:Hp}{b:Nat}{t:TypeId}{cs:List Value}(x:Nw K h b t cs)(u:Gw h d):Nw K d b t cs:=by
 obtain ⟨h1,c,a⟩:=x;refine ⟨h1,c,?_⟩
 rcases u.blk b (aW a) with e|e
 ·exact e.trans a
 ·rw[e] at a
  injection a with a;unfold bp at a;injection a with _ h4;exact absurd h4.symm c
theorem Nw.seg {K:Nat}{h:Hp}{b:Nat}{t:TypeId}{cs sp:List Value}(x:Nw K h b t (cs++sp)):Seg h b 0 cs:=fun i v hv=>by
 unfold eF;rw[x.2.2];have hi:i<cs.length:=(NN.1 hv).1
 simp only[z6,List.getElem?_toArray];rw[wj hi];exact hv
theorem Nw.seg0 {K:Nat}{h:Hp}{b:Nat}{t:TypeId}{cs:List Value}(x:Nw K h b t cs):Seg h b 0 cs:=Nw.seg (sp:=[]) (by rw[List.append_nil];exact x)
theorem oq {vs cs:List Value}{o:Nat}(h:(vs.drop o).take cs.length=cs)(i v)(hv:cs[i]?=some v):vs[o+i]?=some v:=by
 have hi:i<cs.length:=(NN.1 hv).1;rw[<-h,yh hi,yy] at hv
 exact hv
section laws
variable {M:Ms}{P:Program}{n:Nat}{N R:Po}{X:Nat->Po}{ops:Array Oper}{k k0:Nat}{hr:Hp}{AL:List Al}{L:Array Bool}{Γ:cC}{w:World}{h:Hp}{w0:World}{h0:Hp}{B:List Bx}{Rs:List Rw}{F:List (Hp->Prop)}
theorem kS:∀ (cs vs:List Value) (o:Nat),(bZ vs o cs).length=vs.length
 | [],_,_=>rfl
 | c::cs,vs,o=>by show (bZ (vs.set o c) (o+1) cs).length=_;rw[kS,NI]
theorem SlO.flat {α:Type}{sz:Nat}{f:α->List Value}{d:α}{A:Z9}:∀ {l:List α},(∀ x,(f x).length=sz)->SlO sz f d h A l->Seg h (aB A) (aO A) (l.flatMap f)
  | l,hf,s=>fun i v hv=>by
    have hi:i<(l.flatMap f).length:=(NN.1 hv).1;rw[cn hf] at hi
    rcases B2 sz with h0'|hp
    . subst h0';simp at hi
    . have hk:i/sz<l.length:=(Ny hp).2 hi
      have hr:i%sz<sz:=As _ hp;have e:=s.el (i/sz) hk (i%sz) v;have c:=gj hf d l (i/sz) hk;have a:i/sz*sz+i%sz=i:=by rw[MQ];exact Nl i sz
      have:=e (by rw[<-c,yh hr,yy,a];exact hv)
      rwa [y3,a] at this
theorem g7 {b o:Nat}{news:List Value}(g:G w h)(c:Seg h b o news):∀ j u,news[j]?=some u->w.cell? ((⟨b,o,none⟩:Addr).add j)=some u:=by
 intro j u a;have:=mD g (c j u a)
 unfold Addr.add;split
 ·rename_i h0;subst h0;exact this
 ·exact this
theorem rp {α:Type}{f:α->List Value}{l m:List α}:l.flatMap f++m.flatMap f=(l++m).flatMap f:=by simp
theorem Mb {α:Type}(t j ty sz c A)(l:List α)(f:α->List Value)(d:α)(C)(m:List α)(c2 bt z)(s:SS w0 h0 w h B Rs F)(so:SlO sz f d h C m)(p:0<m.length)
  (H:∀ i c' w' y,SS w0 h0 w' y B (Rs.set j ⟨ty,sz,i,c',(l++m).length,(l++m).flatMap f⟩) F->LG P n N R X ops (k+1) ((t,.slice i (l++m).length c')::Γ) w')
  (K:cL ops Γ k t n=true:=by kernel_rfl)(J:sJ P (ev Γ) (am ops k)=some (.slice A l.length c,.slice C m.length c2,ty,z,sz,bt):=by kernel_rfl)(hf:∀ x,(f x).length=sz:=by intro _;rfl)(h1:∀ x,(f x).all (·.oneCell')=true:=by intro _;kernel_rfl)(o:z.cells.size=sz:=by kernel_rfl)(e:0<sz:=by decide)
  (hr:Rs.getD j default=⟨ty,sz,A,c,l.length,l.flatMap f⟩:=by kernel_rfl)(S:decide (j<Rs.length)=true:=by kernel_rfl)(U:l.length+m.length<=(2^40):=by omega)(L:(l.length+m.length)*bt<=(2^47):=by omega):LG P n N R X ops k Γ w:=by
 have a:=oT S;have Q:=so.ok p;rw[Q] at J;refine LF t j (m.flatMap f) s (g7 s.g (so.flat hf)) (cn hf m) (fun u M=>?_) a (fj hr a) K J o e U L (fun i c' w' y I=>?_)
 ·obtain ⟨x,_,O⟩:=NO.1 M
  exact (o0.1 (h1 x)) u O
 ·have D:l.length+m.length=(l++m).length:=by simp
  rw[rp,D] at I;rw[D];exact H i c' w' y I
theorem SS.newr {α:Type}{f:α->List Value}{l:List α}{sz:Nat}(s:SS w0 h0 w h B Rs F)(ty)(hf:∀ x,(f x).length=sz)(i:l.length<=maxLen):SS w0 h0 (w.alloc (.cells (l.flatMap f).toArray ty (0,0))) (h.push bp) B (⟨ty,sz,some ⟨w.heap.size,0,none⟩,l.length,l.length,l.flatMap f⟩::Rs) F:=by
  have u:Up w h (w.alloc (.cells (l.flatMap f).toArray ty (0,0))) (h.push bp):=Up.allocAny s.g _ _ (.inr rfl);have c:=s.step u;refine ⟨c.g0,c.st,fun r hr=>?_,NP.2 ⟨fun r hr=>?_,c.ap⟩,c.mo,c.f⟩
  . rcases hC.1 hr with rfl|hr
    . refine ⟨⟨cn hf l,.inr ⟨w.heap.size,l.length,(l.flatMap f).toArray,rfl,by rw[s.g.size];exact s.st.sz,?_,ek _,i,?_,?_⟩⟩,fun b a=>?_,fun b a i=>?_⟩
      . rw[heap_alloc];exact e6
      . simp[<-cn hf l]
      . show List.take (l.length*sz) (l.flatMap f)=_
        rw[<-cn hf l];exact y8
      . simp[Rw.v,Value.ownBlock] at a
        subst a;rw[s.g.size];exact e6
      . simp[Rw.v,Value.ownBlock] at a
        obtain ⟨x,j,e⟩:=g3.1 i;have:=(s.st.own x j).lt;have o:x.b=b:=e
        omega
    . exact c.ro r hr
  . intro b a d
    have:=jV (s.ro r hr).own d
    simp[Rw.v,Value.ownBlock] at a
    omega
theorem Jg {α:Type}(t ty sz)(f:α->List Value)(l:List α)(s:SS w0 h0 w h B Rs F)(H:∀ b w' h',SS w0 h0 w' h' B (⟨ty,sz,some ⟨b,0,none⟩,l.length,l.length,l.flatMap f⟩::Rs) F->LG P n N R X ops (k+1) ((t,.slice (some ⟨b,0,none⟩) l.length l.length)::Γ) w')(a:cL ops Γ k t n=true:=by kernel_rfl)
  (hr:(execOp (ev Γ) (am ops k)).run P w=.ok (.value (.slice (some ⟨w.heap.size,0,none⟩) l.length l.length)) (w.alloc (.cells (l.flatMap f).toArray ty (0,0))):=by kernel_rfl)(hf:∀ x,(f x).length=sz:=by intro _;rfl)(c:NQ l.length 1000=true:=by kernel_rfl):LG P n N R X ops k Γ w :=
 LG.val t _ _ (bS a).1 (bS a).2 hr (H _ _ _ (s.newr ty hf (by have:=Hi c;unfold maxLen;omega)))
theorem oJ (j o cs)(s:SS w0 h0 w h B Rs F)(H:∀ w',Put (aw B j).b w w'->SS w0 h0 w' h (iH B j o cs) Rs F->LG P n N R X ops (k+1) Γ w')(c:cS ops Γ k=true:=by kernel_rfl)
  (a:(decide (j<B.length) && decide (o+cs.length<=(aw B j).vs.length))=true:=by kernel_rfl)(e:d8 P (execOp (ev Γ) (am ops k))=some (.skip,od (aw B j).b o cs):=by kernel_rfl):LG P n N R X ops k Γ w :=
 LG.put j o cs s.st s.g0 (iR c).1 (iR c).2 a e (fun w' p d=>H w' p (s.put0 (oT (lu _ _▸a).1) p d (qA (oT (lu _ _▸a).1))))
theorem tX (i t A len a sz x j)(f:A=some ⟨aB A,aO A,none⟩)(H:AG M P n N R X ops k0 (L.setIfInBounds i true) ((t,.pointer (some ⟨aB A,aO A+j*sz,none⟩))::Γ) w)(d:cT n ops k0 L Γ i t=true:=by kernel_rfl)(e:EE P (ev Γ) (am ops i)=some (.slice A len a,.int .i64 x,sz):=by kernel_rfl)(hk:x=j:=by omega)(c:j<len:=by omega):AG M P n N R X ops k0 L Γ w :=
 T.val i t _ w (jG d).1 (jG d).2 (im e f hk c w) H
theorem eK {α:Type}(i t ty m sz bt z)(f:α->List Value)(x0:α)(s:SS w0 h0 w h B Rs F)(H:∀ b w' h',SS w0 h0 w' h' (⟨b,ty,(Af m x0).flatMap f⟩::B) Rs F->EG M P n N R X ops k0 hr AL (L.setIfInBounds i true) ((t,.slice (some ⟨b,0,none⟩) m m)::Γ) w' h')(p:Gq n ops k0 AL L Γ i t=true:=by kernel_rfl)
  (C:Le P (ev Γ) (am ops i)=some (.int .i64 (m:Int),.int .i64 (m:Int),ty,z,sz,bt):=by kernel_rfl)(j:z.cells.toList=f x0:=by kernel_rfl)(o:z.cells.size=sz:=by kernel_rfl)(c:0<sz:=by decide)(y:bt*m<=(2^47):=by omega)(e:m<(2^63):=by omega):EG M P n N R X ops k0 hr AL L Γ w h :=
 Rg.event i t (jK p).1 (jK p).2 (fun w1 h1 u=>by
  have a:=s.step u;have d:Up w1 h1 (w1.alloc (.cells ((Af m x0).flatMap f).toArray ty (0,0))) (h1.push bp):=Up.allocAny a.g _ _ (.inr rfl);refine .inl ⟨_,_,_,qJ C j o c y e w1,d.m M.l,H _ _ _ (a.new d (by rw[a.g.size];exact ek _) (St.new1 (x:=⟨0,0,.cells ((Af m x0).flatMap f).toArray ty (0,0)⟩) a.st (a.st.step d) ⟨?_,?_,?_⟩ ty _ rfl))⟩
  ·rw[heap_alloc];exact e6
  ·rw[a.g.size];exact e6
  ·show h1.size<=w1.heap.size;rw[a.g.size];exact ek _)
theorem SS.blkp {F1:List (Hp->Prop)}{wr:World}{x:Al}{b:Nat}(a:List Bx)(j:SS w0 h0 wr hr B Rs F1)(s:SS w0 h0 w h (a++B) Rs F)(k:Blk hr w h (x,b))(t vs)(p:x.o=.cells vs.toArray t (0,0))(z:a.all (fun y=>y.t != t)=true):SS w0 h0 w h (⟨b,t,vs⟩::(a++B)) Rs F :=
 ⟨s.g0,St.new j.st s.st (fun y d=>by
  rcases List.mem_append.1 d with d|d
  ·right
   intro e;have h1:=s.st.own y (List.mem_append_left _ d);have l:w.heap[b]?=some x.o:=k.1
   unfold Own at h1;rw[e,l,p] at h1;injection h1 with h1;injection h1 with _ h3;have:=(o0.1 z) y d
   simp only[bne_iff_ne,ne_eq] at this;exact this h3.symm
  ·exact .inl (aW (j.st.jk y d))) k t vs p,fun r i=>(s.ro r i).new b (fun c u e=>by
  have h1:=(j.ro r i).lt u;have l:hr.size<=b:=k.2.2
  omega),s.ap,s.mo,s.f⟩
theorem jh {F1:List (Hp->Prop)}{wr:World}{x:Al}(a:List Bx)(j:SS w0 h0 wr hr B Rs F1)(s:SS w0 h0 w h (a++B) Rs F)(t vs)(H:∀ w' c b,SS w0 h0 w' c (⟨b,t,vs⟩::(a++B)) Rs F->AG M P n N R X ops k0 (L.setIfInBounds x.i true) ((x.t,.pointer (some ⟨b,0,none⟩))::Γ) w')(d:(gX ops [x] L && decide (x.t<n))=true:=by kernel_rfl)(f:x.o=.cells vs.toArray t (0,0):=by kernel_rfl)(e:a.all (fun y=>y.t != t)=true:=by kernel_rfl):EG M P n N R X ops k0 hr [x] L Γ w h :=
 Rg.fin1 d (fun w' c b u k=>H w' c b (SS.blkp a j (s.step u) k t vs f e))
end laws
theorem SS.at_ {w:World}{h:Hp}{rb:Nat}{t:TypeId}{vs:List Value}(g:G w h)(o:Own w rb t vs)(j:h[rb]?=some bp):∃ w0 h0,SS w0 h0 w h [⟨rb,t,vs⟩] [] []:=by
 obtain ⟨w0,h0,c,d⟩:=St.at_ g o j;exact ⟨w0,h0,c,d,fun _ a=>(by cases a),.nil,fun _ a=>(by cases a),trivial⟩
theorem SlO.take {α:Type}{sz:Nat}{f:α->List Value}{d:α}{h:Hp}{A:Z9}{l:List α}(s:SlO sz f d h A l)(k):SlO sz f d h A (l.take k) :=
 ⟨fun a=>s.ok (by rw[MV] at a;omega),fun i hi=>by
  rw[MV] at hi;have:=s.el i oM
  rwa [Nc,yh oM,<-Nc]⟩
theorem SlO.drop {α:Type}{sz:Nat}{f:α->List Value}{d:α}{h:Hp}{A:Z9}{l:List α}(s:SlO sz f d h A l)(k c)(o:l.length<=c):SlO sz f d h (if c=k then A else A.map (·.add (k*sz))) (l.drop k):=by
 rcases ea k l.length with hk|hk
 ·rw[if_neg oM]
  have j:=s.ok oM;have a:(⟨aB A,aO A,none⟩:Addr).add (k*sz)=⟨aB A,aO A+k*sz,none⟩:=by
   unfold Addr.add;split
   ·rename_i h0;rw[h0];rfl
   ·rfl
  have e:A.map (·.add (k*sz))=some ⟨aB A,aO A+k*sz,none⟩:=by rw[j];simp only[um,aB,aO] at a ⊢;rw[<-a]
  refine ⟨fun _=>by rw[e];rfl,fun i hi=>?_⟩;rw[e]
  show Seg h (aB A) (aO A+k*sz+i*sz) _
  rw[Np] at hi;have:=s.el (k+i) oM;rw[Ni,<-y3] at this
  rwa [Nc,yy,<-Nc]
 ·rw[NR hk];exact SlO.nil
section ss
variable {w0:World}{h0:Hp}{w:World}{h:Hp}{B:List Bx}{R:List Rw}{F:List (Hp->Prop)}
theorem SS.rowA (s:SS w0 h0 w h B R F)(j){ty:TypeId}{sz c m:Nat}{A:Z9}{cs:List Value}(d:0<m)(hr:R.getD j default=⟨ty,sz,A,c,m,cs⟩:=by kernel_rfl)(f:decide (j<R.length)=true:=by kernel_rfl):∃ b,A=some ⟨b,0,none⟩:=by
 have a:=oT f;have r:=s.ro _ (gg a);rw[fj hr a] at r
 rcases r.own with ⟨_,⟨_,e⟩|⟨b,cap,cur,e,_⟩⟩
 ·simp only[] at e;omega
 ·simp only[Rw.v] at e
  injection e with e;exact ⟨b,e⟩
theorem SS.rowO (s:SS w0 h0 w h B R F)(j){ty:TypeId}{sz c m b:Nat}{cs:List Value}(hr:R.getD j default=⟨ty,sz,some ⟨b,0,none⟩,c,m,cs⟩)(a:j<R.length):∃ vs:List Value,Own w b ty vs/\vs.take (m*sz)=cs/\cs.length=m*sz/\h0.size<=b/\m<=c/\c<=maxLen/\vs.length=c*sz:=by
 have r:=s.ro _ (gg a);rw[fj hr a] at r
 rcases r.own with ⟨h1,⟨e,_⟩|⟨g,cap,cur,e,hb,hg,hn,hm,hs,ht⟩⟩
 ·simp[Rw.v] at e
 ·simp only[Rw.v] at e
  injection e with e1 e2 e3;injection e1 with e1;injection e1 with e1;subst e1 e3;exact ⟨cur.toList,by simpa [Own] using hg,ht,h1,hb,hn,hm,by simpa using hs⟩
theorem CJ {vs cs:List Value}{k i:Nat}{v:Value}(h:vs.take k=cs)(hv:cs[i]?=some v):vs[i]?=some v:=by
 have hi:i<cs.length:=(NN.1 hv).1;rw[<-h] at hi
 rw[MV] at hi;rw[<-h,yh oM] at hv;exact hv
theorem mP:∀ (cs vs:List Value) (o k:Nat),o+cs.length<=k->(bZ vs o cs).take k=bZ (vs.take k) o cs
  | [],_,_,_,_=>rfl
  | c::cs,vs,o,k,h=>by
    show (bZ (vs.set o c) (o+1) cs).take k=bZ ((vs.take k).set o c) (o+1) cs
    rw[mP cs _ _ _ (by simp only[uA] at h;omega),List.take_set]
theorem SS.rowput (s:SS w0 h0 w h B R F)(j){ty:TypeId}{sz c m b o:Nat}{cs l:List Value}{w':World}{vs:List Value}(hr:R.getD j default=⟨ty,sz,some ⟨b,0,none⟩,c,m,cs⟩)(z:j<R.length)(p:Put b w w')(X:Own w' b ty (bZ vs o l))(hv:vs.take (m*sz)=cs)(V:vs.length=c*sz)(Z:o+l.length<=cs.length):SS w0 h0 w' h B (R.set j ⟨ty,sz,some ⟨b,0,none⟩,c,m,bZ cs o l⟩) F:=by
  have D:=fj hr z;have r:=s.ro _ (gg z);rw[D] at r
  have S:=r.jk b rfl;obtain ⟨_,_,_,K,y,O,J,_⟩:=s.rowO j hr z;have U:∀ x∈B,x.b≠b:=fun x u e=>r.ap b rfl (g3.2 ⟨x,u,e⟩)
  have Q:=Ft.1 s.ap;refine ⟨s.g0,⟨s.st.up.put p S y s.g0.size,?_,s.st.jk,s.st.lo,s.st.nd⟩,?_,?_,s.mo,s.f⟩
  . intro x u
    show w'.heap[x.b]?=_
    rw[p.blk _ (U x u)];exact s.st.own x u
  . intro x u
    obtain ⟨i,hi,H⟩:=vj.1 u;have a:i<R.length:=by simpa using hi
    by_cases e:j=i
    . subst e
      simp only[Ga] at H;rw[<-H];refine ⟨⟨?_,.inr ⟨b,c,(bZ vs o l).toArray,rfl,y,X,O,J,by simp[kS,V],?_⟩⟩,r.jk,r.ap⟩
      . show (bZ cs o l).length=m*sz;rw[kS];exact K
      . show (bZ vs o l).take (m*sz)=bZ cs o l
        rw[mP _ _ _ _ oM,hv]
    . rw[F2 e] at H
      rw[<-H];have C:Apart R[i].v R[j].v:=by
        rcases Nat.lt_or_gt_of_ne e with hl'|hl'
        . exact (Q j i z a hl').symm
        . exact Q i j a z hl'
      rw[D] at C;have I:=s.ro _ (gg a);exact ⟨fa I.own (fun d Y=>p.blk d (fun W=>C d Y (by rw[W];rfl))),I.jk,I.ap⟩
  . refine Ft.2 (fun i k hi hk L=>?_)
    have a:i<R.length:=by simpa using hi
    have M:k<R.length:=by simpa using hk
    have:=Q i k a M L
    by_cases e:j=i
    . subst e
      rw[Ga,F2 oM];rw[D] at this;exact this
    . by_cases e2:j=k
      . subst e2
        rw[Ga,F2 oM];rw[D] at this;exact this
      . rw[F2 e,F2 e2]
        exact this
theorem SS.rown (s:SS w0 h0 w h B R F)(R':List Rw)(e:R=R'):SS w0 h0 w h B R' F:=e▸s
end ss
theorem jS {α:Type}{f:α->List Value}{sz:Nat}(hf:∀ x,(f x).length=sz)(d:α){o:Nat}{cs:List Value}:∀ (l:List α) (k:Nat) (x:α),k<l.length->o+cs.length<=sz->bZ (f (l.getD k d)) o cs=f x->bZ (l.flatMap f) (k*sz+o) cs=(l.set k x).flatMap f
  | [],k,x,h,_,_=>by simp at h
  | y::l,0,x,h,ho,e=>by
    simp only[y4,zZ,z6,NS,List.getD_cons_zero] at e ⊢
    rw[<-e];exact putAt_left _ _ _ _ (by rw[hf];exact ho)
  | y::l,k+1,x,h,ho,e=>by
    simp only[y4,List.set_cons_succ,y9] at e ⊢
    rw[Nat.succ_mul,show k*sz+sz+o=(f y).length+(k*sz+o) by rw[hf];omega,ip,jS hf d l k x (by simpa using h) ho e]
where
  putAt_left:∀ (cs a b:List Value) (o:Nat),o+cs.length<=a.length->bZ (a++b) o cs=bZ a o cs++b
    | [],_,_,_,_=>rfl
    | c::cs,a,b,o,h=>by
      show bZ ((a++b).set o c) (o+1) cs=bZ (a.set o c) (o+1) cs++b
      simp only[uA] at h;rw[List.set_append_left _ _ oM,putAt_left cs _ b _ (by rw[NI];omega)]
section laws
variable {M:Ms}{P:Program}{n:Nat}{N R:Po}{X:Nat->Po}{ops:Array Oper}{k k0:Nat}{hr:Hp}{AL:List Al}{L:Array Bool}{Γ:cC}{w:World}{h:Hp}{w0:World}{h0:Hp}{B:List Bx}{Rs:List Rw}{F:List (Hp->Prop)}
theorem SS.rowrun {α:Type}{w':World}{d:Sem α}{r:α}(s:SS w0 h0 w h B Rs F)(j){ty:TypeId}{sz c m b o:Nat}{cs e:List Value}(l:Rs.getD j default=⟨ty,sz,some ⟨b,0,none⟩,c,m,cs⟩)(y:j<Rs.length)(f:(cs.drop o).take e.length=e)(x:Ext w w')(z:cc P d e=some (r,mn b o e.length)):d.run P w'=.ok r w':=by
 obtain ⟨vs,u,hv,_⟩:=s.rowO j l y;exact db _ _ _ _ z (fun i a v ha p=>by rw[fG _ _ _ _ _ ha,(u.ext x).cell];exact CJ hv (oq f i v p))
theorem Lb (t j v a){ty:TypeId}{sz c m b o:Nat}{cs:List Value}(s:SS w0 h0 w h B Rs F)(d:(cs.drop o).take a.length=a)(H:LG P n N R X ops (k+1) ((t,v)::Γ) w)(e:Rs.getD j default=⟨ty,sz,some ⟨b,0,none⟩,c,m,cs⟩:=by kernel_rfl)(i:decide (j<Rs.length)=true:=by kernel_rfl)(f:cL ops Γ k t n=true:=by kernel_rfl)(l:cc P (execOp (ev Γ) (am ops k)) a=some (.value v,mn b o a.length):=by kernel_rfl):LG P n N R X ops k Γ w :=
 LG.val t v w (bS f).1 (bS f).2 (s.rowrun j e (oT i) d (Ext.refl _) l) H
theorem MI (j o f){ty:TypeId}{sz c m b:Nat}{cs:List Value}(s:SS w0 h0 w h B Rs F)(J:o+f.length<=cs.length)(H:∀ w',SS w0 h0 w' h B (Rs.set j ⟨ty,sz,some ⟨b,0,none⟩,c,m,bZ cs o f⟩) F->LG P n N R X ops (k+1) Γ w')(a:Rs.getD j default=⟨ty,sz,some ⟨b,0,none⟩,c,m,cs⟩:=by kernel_rfl)(D:decide (j<Rs.length)=true:=by kernel_rfl)(u:cS ops Γ k=true:=by kernel_rfl)
  (I:d8 P (execOp (ev Γ) (am ops k))=some (.skip,od b o f):=by kernel_rfl):LG P n N R X ops k Γ w:=by
 have d:=oT D;obtain ⟨vs,y,hv,x,_,z,_,l⟩:=s.rowO j a d
 have p:o+f.length<=vs.length:=by
  have:=congrArg NT hv;rw[MV] at this
  omega
 obtain ⟨w',e,C,i⟩:=gk _ _ o f vs w I y p;exact LG.store w' (iR u).1 (iR u).2 e (H w' (s.rowput j a d C i hv l J))
theorem Mp (i j o l){ty:TypeId}{sz c m b:Nat}{cs:List Value}(s:SS w0 h0 w h B Rs F)(U:o+l.length<=cs.length)(H:∀ w',SS w0 h0 w' h B (Rs.set j ⟨ty,sz,some ⟨b,0,none⟩,c,m,bZ cs o l⟩) F->AG M P n N R X ops k0 (L.setIfInBounds i true) Γ w')(a:Rs.getD j default=⟨ty,sz,some ⟨b,0,none⟩,c,m,cs⟩:=by kernel_rfl)(Q:decide (j<Rs.length)=true:=by kernel_rfl)
  (C:(iE ops k0 L i && bc Γ (am ops i) && ((am ops i).dst == none))=true:=by kernel_rfl)(I:bu ops Γ (am ops i)=some true:=by kernel_rfl)
  (S:d8 P (execOp (ev Γ) (am ops i))=some (.skip,od b o l):=by kernel_rfl)(hz:∀ K bs,M.z=some (K,bs)->K<=b\/b∈bs:=by intro _ _ e;cases e):AG M P n N R X ops k0 L Γ w:=by
 have d:=oT Q;obtain ⟨vs,J,hv,D,_,O,_,u⟩:=s.rowO j a d
 have x:o+l.length<=vs.length:=by
  have:=congrArg NT hv;rw[MV] at this
  omega
 obtain ⟨w',f,y,p⟩:=gk _ _ o l vs w S J x;exact T.store i w' C I f (y.tl hz) (H w' (s.rowput j a d y p hv u U))
theorem Gj (i t j v a){ty:TypeId}{sz c m b o:Nat}{cs:List Value}(s:SS w0 h0 w h B Rs F)(d:(cs.drop o).take a.length=a)(H:EG ⟨[],none⟩ P n N R X ops k0 hr AL (L.setIfInBounds i true) ((t,v)::Γ) w h)(e:Rs.getD j default=⟨ty,sz,some ⟨b,0,none⟩,c,m,cs⟩:=by kernel_rfl)(p:decide (j<Rs.length)=true:=by kernel_rfl)(f:Dr n ops k0 AL L Γ i t=true:=by kernel_rfl)(u:cc P (execOp (ev Γ) (am ops i)) a=some (.value v,mn b o a.length):=by kernel_rfl):EG ⟨[],none⟩ P n N R X ops k0 hr AL L Γ w h :=
 Rg.load i t v (i9 f).1 (i9 f).2 (fun _ l=>s.rowrun j e (oT p) d l.ext u) H
end laws
theorem pg (x y:Int):(if y>x then y else x)=max x y:=by omega
theorem fW (x y:Int):(if y<x then y else x)=min x y:=by omega
section z
variable {bs:List Nat}{P:Program}{n:Nat}{N R:Po}{X:Nat->Po}{ops:Array Oper}{k0:Nat}{hr:Hp}{AL:List Al}{L:Array Bool}{Γ:cC}{w wr:World}{h:Hp}{w0:World}{h0:Hp}{B:List Bx}{Rs:List Rw}{F F1:List (Hp->Prop)}
abbrev Mz (hr:Hp)(bs:List Nat):Ms:=⟨[],some (hr.size,bs)⟩
theorem Gh {id:Nat}{d:Bool}(k0)(AL:List Al)(bs)(e:P.follows .mixedOrders=true)(s:SS w0 h0 w h B Rs F)(c:∀ x∈AL,AlOk P ops k0 x)(H:EG (Mz h bs) P n N R X ops k0 h AL (tw ops.size false) Γ w h)(a:mE ops=true:=by kernel_rfl):CG P n N R X (.region id ops d) Γ w :=
 CG.region (Mz h bs) k0 AL e a s.g c (fun _ f=>by cases f) H
theorem KY (d:SS w0 h0 wr hr B Rs F1)(s:SS w0 h0 w h B Rs F){w':World}(e:∀ b,b<hr.size->b ∉ bs->b ∉ ([]:List Nat)->w'.heap[b]?=w.heap[b]?):∀ x∈B,x.b ∉ bs->Own w' x.b x.t x.vs:=fun x a c =>
 (e x.b (aW (d.st.jk x a)) c List.not_mem_nil).trans (s.st.own x a)
theorem Dj (i t)(ps:List (Nat × Nat × Nat))(v)(d:SS w0 h0 wr hr B Rs F1)(s:SS w0 h0 w h B Rs F)(H:EG (Mz hr bs) P n N R X ops k0 hr AL (L.setIfInBounds i true) ((t,v)::Γ) w h)(hM:∀ p∈ps,(aw B p.1).b ∉ bs:=by intro _ _;exact List.not_mem_nil)(a:cE n ops k0 AL L Γ i t=true:=by kernel_rfl)(c:dt B ps=true:=by kernel_rfl)(e:cc P (execOp (ev Γ) (am ops i)) (dY B ps)=some (.value v,cJ B ps):=by kernel_rfl):EG (Mz hr bs) P n N R X ops k0 hr AL L Γ w h :=
 Rg.loadZ i t v rfl (jy a).1 (jy a).2 (fun w' f=>db _ _ _ _ e (it hM (KY d s f) ps (fun _ h=>h) c)) H
theorem I3 {x y:Al}(I:SS w0 h0 wr hr B Rs F)(s:SS w0 h0 w h B Rs F)(t vs l j)(H:∀ w' p b c,hr.size<=b->hr.size<=c->SS w0 h0 w' p (⟨b,t,vs⟩::⟨c,l,j⟩::B) Rs F->AG (Mz hr bs) P n N R X ops k0 ((L.setIfInBounds y.i true).setIfInBounds x.i true) ((x.t,.pointer (some ⟨b,0,none⟩))::(y.t,.pointer (some ⟨c,0,none⟩))::Γ) w')(K:(gX ops [x,y] L && decide (x.t<n) && decide (y.t<n) && (x.t != y.t) && (x.i != y.i))=true:=by kernel_rfl)(M:x.o=.cells vs.toArray t (0,0):=by kernel_rfl)(D:y.o=.cells j.toArray l (0,0):=by kernel_rfl):EG (Mz hr bs) P n N R X ops k0 hr [x,y] L Γ w h :=
 Rg.fin2 K (fun w' p b c u k k2 z=>H w' p b c k.2.2 k2.2.2 ⟨s.g0,St.new2 I.st (s.st.step u) k k2 z t vs M l j D,fun r a=>(((s.step u).ro r a).new c (fun d C e=>by
  have h1:=(I.ro r a).lt C;have J:hr.size<=c:=k2.2.2
  omega)).new b (fun d C e=>by
  have h1:=(I.ro r a).lt C;have J:hr.size<=b:=k.2.2
  omega),s.ap,s.mo,(s.step u).f⟩)
theorem jB {b:Nat}(c:hr.size<=b):∀ K a,(Mz hr bs).z=some (K,a)->K<=b\/b∈a:=fun K a e=>by
 injection e with e;injection e with e1 e2;subst e1;exact .inl c
theorem gN {b:Nat}(c:b∈bs):∀ K a,(Mz hr bs).z=some (K,a)->K<=b\/b∈a:=fun K a e=>by
 injection e with e;injection e with e1 e2;subst e2;exact .inr c
end z
theorem fR {α:Type}{f:α->List Value}{sz:Nat}(hf:∀ x,(f x).length=sz)(d:α)(l:List α)(k)(hk:k<l.length):((l.flatMap f).drop (0+k*sz)).take (f (l.getD k d)).length=f (l.getD k d):=by
 rw[z6,hf];exact gj hf d l k hk
section row
variable {P:Program}{n:Nat}{N R:Po}{X:Nat->Po}{ops:Array Oper}{k:Nat}{Γ:cC}{w:World}{h:Hp}{w0:World}{h0:Hp}{B:List Bx}{Rs:List Rw}{F:List (Hp->Prop)}
theorem GM {α:Type}(j e a i)(l:List α)(f:α->List Value)(sz)(d x:α){ty:TypeId}{c b:Nat}(s:SS w0 h0 w h B Rs F)(hk:e<l.length)(H:∀ w',SS w0 h0 w' h B (Rs.set j ⟨ty,sz,some ⟨b,0,none⟩,c,l.length,(l.set e x).flatMap f⟩) F->LG P n N R X ops (k+1) Γ w')
  (C:bZ (f (l.getD e d)) a i=f x:=by rfl)(hf:∀ x,(f x).length=sz:=by intro _;rfl)(z:NQ (a+i.length) sz=true:=by kernel_rfl)(o:Rs.getD j default=⟨ty,sz,some ⟨b,0,none⟩,c,l.length,l.flatMap f⟩:=by kernel_rfl)(D:decide (j<Rs.length)=true:=by kernel_rfl)(y:cS ops Γ k=true:=by kernel_rfl)
  (I:d8 P (execOp (ev Γ) (am ops k))=some (.skip,od b (0+e*sz+a) i):=by kernel_rfl):LG P n N R X ops k Γ w:=by
 have p:=Hi z;refine MI j (0+e*sz+a) i s ?_ (fun w' u=>H w' ?_) o D y I
 ·rw[cn hf,z6]
  have:(e+1)*sz<=l.length*sz:=z7 _ hk;rw[Ni,Nk] at this
  omega
 ·rw[z6,jS hf d l e x hk p C] at u
  exact u
end row
theorem qO {P:Program}(w)(t ty e:TypeId)(i:TypeInfo)(z:Value)(f:P.underlying t=some (.slice e))(hi:P.info? e=some i)(hz:i.zero=some z)(l a:Addr)(m c)(news:List Value)(h:news.length=m*i.size)(d:∀ j u,news[j]?=some u->w.cell? (a.add j)=some u)(x:0<m)(o:m<=(2^40))(p:m*i.bytes<=(2^47)):
  (Builtin.append_ #[t,t] ty #[.slice (some l) 0 0,.slice (some a) m c]).run P w=(Builtin.append_ #[t,t] ty #[.slice none 0 0,.slice (some a) m c]).run P w:=by
 rw[run_append_grow (P:=P) w t ty e i z f hi hz l 0 0 [] (by simp) (by simp) a m c news h d oM oM (growslice_fits oM (by simpa using p)),
  run_append_nil (P:=P) w t ty e i z f hi hz a m c news h d oM oM oM]
 simp
section app
variable {M:Ms}{P:Program}{n:Nat}{N R:Po}{X:Nat->Po}{ops:Array Oper}{k k0:Nat}{hr:Hp}{AL:List Al}{L:Array Bool}{Γ:cC}{w:World}{h:Hp}{w0:World}{h0:Hp}{B:List Bx}{Rs:List Rw}{F:List (Hp->Prop)}
theorem qz {o:Oper}{x y:Operand}{t e:TypeId}{z:Value}{sz bt m2 c:Nat}{news:List Value}{J a:Addr}(O:o.op=.call { callee:=.builtin .append,args:=#[x,y],argTypes:=#[t,t] })
    (S:ev Γ x=.slice (some J) 0 0)(W:ev Γ y=.slice (some a) m2 c)(I:P.underlying t=some (.slice e))(hi:(P.info? e).map (fun i=>(i.zero,i.size,i.bytes))=some (some z,sz,bt))(C:z.cells.size=sz)(p:0<sz)
    (s:St w0 h0 w h B)(L:news.length=m2*sz)(f:∀ j u,news[j]?=some u->w.cell? (a.add j)=some u)(h1:∀ u∈news,u.oneCell'=true)(D:0<m2)
    (V:m2<=(2^40))(H:m2*bt<=(2^47)) :
    ∃ v' w',(execOp (ev Γ) o).run P w=.ok (.value v') w'/\w'.ownsRow h0.size e sz v' (0+m2) ([]++news)/\w.grownBy w' (Value.slice none 0 0).ownBlock/\(v'.ownBlock=(Value.slice none 0 0).ownBlock\/v'.ownBlock=some w.heap.size):=by
  cases d:P.info? e with
  | none=>rw[d] at hi;cases hi
  | some inf =>
    rw[d] at hi;simp only[um,Option.some.injEq,Prod.mk.injEq] at hi;obtain ⟨i1,K,F⟩:=hi;obtain ⟨v',w',l,M,Q,X,U⟩:=run_append_own_at (P:=P) w h0.size t o.type e inf z sz bt I d i1 K F C p (.slice none 0 0) 0 [] (World.ownsRow_nil _ _ _ _) a m2 c news L f h1 (by unfold maxLen;omega) (by rw[z6];exact H) (by rw[s.g.size];exact s.sz);refine ⟨v',w',?_,M,Q,U⟩;rw[<-qO (P:=P) w t o.type e inf z I d i1 J a m2 c news (by rw[K];exact L) f D V (by rw[F];exact H)] at l
    unfold execOp;simp only[O,resolve,invoke,builtin,Sem.run_bind,Sem.run_pure,Result.andThen_ok,NU,A7,NV,S,W,l]
theorem SS.appE (s:SS w0 h0 w h B Rs F){o:Oper}{ty:TypeId}{sz bt c2 Z:Nat}{z:Value}{α:Type}{f:α->List Value}{d:α}{L:Z9}{m:List α}(O:sJ P (ev Γ) o=some (.slice (some ⟨Z,0,none⟩) 0 0,.slice L m.length c2,ty,z,sz,bt))(so:SlO sz f d h L m)(e:0<m.length)(h1:∀ x∈m,(f x).all (·.oneCell')=true)(hf:∀ x,(f x).length=sz)(K:z.cells.size=sz)(i:0<sz)(Y:m.length<=(2^40))(V:m.length*bt<=(2^47)):
  ∃ D c' w' C,(execOp (ev Γ) o).run P w=.ok (.value (.slice D m.length c')) w'/\Up w h w' C/\SS w0 h0 w' C B (⟨ty,sz,D,c',m.length,m.flatMap f⟩::Rs) F:=by
 rw[so.ok e] at O;obtain ⟨x',y,Q,W,J,hy,I,hi⟩:=j3 O
 obtain ⟨v',w',l,X,a,p⟩:=qz (P:=P) W J hy I hi K i s.st (cn hf m) (g7 s.g (so.flat hf)) (fun u I=>by
  obtain ⟨x,H,J⟩:=NO.1 I;exact (o0.1 (h1 x H)) u J) e Y V
 obtain ⟨C,D,c',rfl,S,M⟩:=(s.nil ty sz).grown (j:=0) (by simp) (w':=w') (v':=v') (m2:=m.length) (news:=m.flatMap f) X a p;refine ⟨D,c',w',C,?_,⟨⟨a.os,a.tape,a.output,a.size,fun c U=>a.block c U (by simp[Value.ownBlock])⟩,S,M.g⟩,?_⟩
 ·rw[l];simp
 ·simpa using M
theorem Mx {α:Type}(t ty sz)(f:α->List Value)(d:α)(C o)(m:List α)(c2 bt z)(s:SS w0 h0 w h B Rs F)(so:SlO sz f d h o m)(j:0<m.length)(h1:∀ x∈m,(f x).all (·.oneCell')=true)
  (H:∀ e c' w' l,SS w0 h0 w' l B (⟨ty,sz,e,c',m.length,m.flatMap f⟩::Rs) F->LG P n N R X ops (k+1) ((t,.slice e m.length c')::Γ) w')
  (p:cL ops Γ k t n=true:=by kernel_rfl)(I:sJ P (ev Γ) (am ops k)=some (.slice (some ⟨C,0,none⟩) 0 0,.slice o m.length c2,ty,z,sz,bt):=by kernel_rfl)(hf:∀ x,(f x).length=sz:=by intro _;rfl)(i:z.cells.size=sz:=by kernel_rfl)(c:0<sz:=by decide)(y:m.length<=(2^40):=by omega)(u:m.length*bt<=(2^47):=by omega):LG P n N R X ops k Γ w:=by
 obtain ⟨e,c',w',l,a,_,D⟩:=s.appE (P:=P) I so j h1 hf i c y u;exact LG.val t _ w' (bS p).1 (bS p).2 a (H e c' w' l D)
end app
def a8 (x:Nat):List Value:=[.int .u32 (x:Nat)]
abbrev S3 (A:Z9)(l:List Nat):Hp->Prop:=fun h_=>SlO 1 a8 0 h_ A l
theorem oG:∀ f n:Nat,ry f n=rj (2^32) f n
  | 0,_=>rfl
  | f+1,n=>by
    unfold ry rj;split
    . rfl
    . rw[oG f]
theorem vD (n):lim n=ig (2^32) n:=oG n n
def Ld (l:List Nat):Prop:=Dg 4294967296 l
theorem Ld.lim (n):Ld (lim n):=fun x a=>lc n x a
theorem Ld.get {l:List Nat}(h:Ld l)(k):l.getD k 0<(2^32):=Dg.getD h kD k
theorem Ld.set {l:List Nat}(h:Ld l)(k){x:Nat}(a:x<(2^32)):Ld (l.set k x):=Dg.set h k a
theorem Ld.rep (n):Ld (Af n 0):=Dg.rep kD
theorem dk (n):ai (2^32) (lim n)=n:=by rw[<-kY];exact gx n
theorem tM {l:List Nat}(h:Ld l){n:Nat}(e:ai (2^32) l=n):lim n=l.take (tl l l.length):=by
 rw[<-e,<-kY];exact Bk h
theorem nh {l:List Nat}(h:Ld l){n:Nat}(e:ai (2^32) l=n):(lim n).length=tl l l.length:=by
 rw[tM h e,MV];have:=iN l l.length;omega
theorem cO (n):n<4294967296^(lim n).length:=by rw[vD];exact j0 kD n
theorem dP {a b:Nat}(h:a<=b):(lim a).length<=(lim b).length:=eU (H1 h (cO b))
theorem gT {a b k:Nat}(h:a<=b)(c:(lim b).length<=k):(lim a).length<=k:=ep (dP h) c
theorem ji {a b k:Nat}(ha:(lim a).length<=k)(c:(lim b).length<=k):(lim (a+b)).length<=k+1:=by
 refine eU ?_;have h1:=cO a;have e:=cO b;have f:4294967296^(lim a).length<=4294967296^k:=M1 kD ha;have d:4294967296^(lim b).length<=4294967296^k:=M1 kD c;rw[MP]
 omega
theorem gJ {a b:Nat}:(lim (a*b)).length<=(lim a).length+(lim b).length:=by
 refine eU ?_;rw[M4];exact Nat.mul_lt_mul'' (cO a) (cO b)
theorem uI (n):(lim n).length<=2*(wds n).length:=by
 refine eU ?_;have:=dO n
 rwa [show (18446744073709551616:Nat)=4294967296^2 by rfl,<-M7] at this
theorem FC (n):(wds n).length<=(lim n).length:=by
 refine fw kD ?_;have:=cO n;exact er this (Nat.pow_le_pow_left kD _)
theorem gW {a b:Nat}(h:(lim a).length<(lim b).length):a<b:=by
 rcases ea a b with hl|hl
 ·exact hl
 ·have:=dP hl;omega
theorem FU {a b:Nat}(h:lim a=lim b):a=b:=by rw[<-gx a,<-gx b,h]
theorem il {a b k:Nat}(e:(lim a).length=(lim b).length)(hk:k<(lim a).length)(i:(lim a).drop (k+1)=(lim b).drop (k+1))(c:(lim a).getD k 0<(lim b).getD k 0):a<b:=by
 have d:=bU 4294967296 (l:=lim a) (k:=k+1) oM;have f:=bU 4294967296 (l:=lim b) (k:=k+1) oM;rw[dk] at d f
 rw[i] at d;have o:=aN 4294967296 (l:=lim a) (k:=k) hk;have p:=aN 4294967296 (l:=lim b) (k:=k) oM;have h:=bQ (Dg.take (Ld.lim a) k);rw[MV,MW oM] at h
 have j:4294967296^k*(lim a).getD k 0+4294967296^k<=4294967296^k*(lim b).getD k 0:=by
  rw[<-Nt];exact M5 _ c
 omega
def RN (h:Hp)(v:Value)(n:Nat):Prop:=SlV 1 a8 0 h v (lim n)
def RI (h:Hp)(v:Value)(z:Int):Prop:=∃ A c,v=.agg #[.bool (af z),.slice A (lim (ab z)).length c]/\(lim (ab z)).length<=c/\SlO 1 a8 0 h A (lim (ab z))
def RP (h:Hp)(v:Value)(z:Int)(n:Nat):Prop:=∃ A c B d,v=.agg #[.bool (af z),.slice A (lim (ab z)).length c,.slice B (lim n).length d]/\(lim (ab z)).length<=c/\(lim n).length<=d/\SlO 1 a8 0 h A (lim (ab z))/\SlO 1 a8 0 h B (lim n)
def RQ (h:Hp)(v:Value)(q:Rat):Prop:=RP h v q.num q.den
theorem RP.gw {h a:Hp}{v:Value}{z:Int}{n:Nat}(r:RP h v z n)(u:Gw h a):RP a v z n:=by
 obtain ⟨A,c,B,d,h1,f,j,e,i⟩:=r;exact ⟨A,c,B,d,h1,f,j,e.gw u,i.gw u⟩
theorem RQ.gw {h a:Hp}{v:Value}{q:Rat}(r:RQ h v q)(u:Gw h a):RQ a v q:=RP.gw r u
theorem RN.trim {h:Hp}{A:Z9}{l:List Nat}{n m a:Nat}(c:Ld l)(e:ai (2^32) l=n)(d:l.length=m)(i:m<=a)(s:SlO 1 a8 0 h A l):RN h (.slice A (tl l m) a) n:=by
 subst d;have f:=nh c e;have:=iN l l.length;refine ⟨A,a,by rw[f],by omega,?_⟩;rw[tM c e];exact s.take _
theorem uD {h:Hp}{p b:Bool}{n a:Nat}{A:Z9}(d:b=(p && decide (0<n)))(c:(lim n).length<=a)(e:SlO 1 a8 0 h A (lim n)):RI h (.agg #[.bool b,.slice A (lim n).length a]) (bD p n):=by
 subst d;refine ⟨A,a,?_,?_,?_⟩
 ·rw[kw,fH]
 ·rw[fH];exact c
 ·rw[fH];exact e
theorem Et {l:List Nat}{m:Nat}(h:0<m)(h0:l.getD (m-1) 0=0):tl l m=tl l (m-1):=by
 obtain ⟨k,rfl⟩:∃ k,m=k+1:=⟨m-1,by omega⟩;rw[mC,if_pos (by simpa using h0)];rfl
theorem CQ {b:Nat}{z:List Nat}{i c c' s t X:Nat}(hi:i<z.length)(h0:z.getD i 0=0)(inv:ai b z+b^i*c=X)(e:s+b*c'=c+t):ai b (z.set i s)+b^(i+1)*c'=X+b^i*t:=by
 have h1:=cP b s hi;rw[h0,MX,y5] at h1;have a:=congrArg (b^i * ·) e
 simp only[MS] at a;rw[MP,MT,h1];omega
theorem wn {b:Nat}{z:List Nat}{c v:Nat}(inv:ai b z+b^z.length*c=v)(h:v<b^z.length):ai b z=v:=by
 rcases B2 c with hc|hc
 ·subst hc;rw[MX,y5] at inv;exact inv
 ·have:b^z.length*1<=b^z.length*c:=M5 _ hc
  omega
theorem sv {l:List Nat}{k x:Nat}(hk:k<l.length)(h:∀ i,k<=i->l.getD i 0=0):∀ i,k+1<=i->(l.set k x).getD i 0=0:=fun i hi=>by rw[bF hk,if_neg oM];exact h i oM
theorem BB {b:Nat}{z:List Nat}{x y c:Nat}(a:Dg b z)(inv:ai b z+y=x+b^z.length*c)(d:y<=x):ai b z=x-y:=by
 have h1:=bQ a;rcases B2 c with hc|hc
 ·subst hc;rw[MX,y5] at inv;omega
 ·have:b^z.length*1<=b^z.length*c:=M5 _ hc
  omega
theorem Es {b:Nat}{z y x:List Nat}{i c c' s:Nat}(hi:i<z.length)(h0:z.getD i 0=0)(inv:ai b z+ai b (y.take i)=ai b (x.take i)+b^i*c)(e:s+y.getD i 0+c=x.getD i 0+b*c'):
  ai b (z.set i s)+ai b (y.take (i+1))=ai b (x.take (i+1))+b^(i+1)*c':=by
 have h1:=cP b s hi;rw[h0,MX,y5] at h1;have a:=congrArg (b^i * ·) e
 simp only[MS] at a;rw[aI,aI,MP,MT,h1];omega
theorem Cd {x y c t:Nat}(e:x<(2^32))(f:y<(2^32))(d:c<=1)(a:t=((x+((2^64)-y))%(2^64)+((2^64)-c))%(2^64)):t%(2^32)+y+c=x+(2^32)*(t/(2^63))/\t/(2^63)<=1:=by
 subst a;omega
theorem tg {r x:Nat}(a:x<(2^32)):r*(2^32) ||| x=r*(2^32)+x:=by
 have:=Ns (i:=32) (b:=x) oM r;rw[MQ];exact this.symm
theorem wu {r x d:Nat}(a:0<d)(hr:r<d)(e:x<(2^32))(c:d<(2^32)):
  (r*(2^32)+x)/d%(2^32)=(r*(2^32)+x)/d/\r*(2^32)+x=d*((r*(2^32)+x)/d)+(r*(2^32)+x)%d/\(r*(2^32)+x)%d<d:=by
 refine ⟨Am ?_,(Nl _ _).symm,As _ a⟩;rw[Ny a];have h1:(r+1)*(2^32)<=d*(2^32):=z7 _ hr;rw[MQ]
 omega
theorem Be {b:Nat}{l z:List Nat}{m d r c q X:Nat}(j:0<m)(i:m-1<z.length)(h0:z.getD (m-1) 0=0)(inv:X=d*ai b z+(b^m*r+ai b (l.take m)))(e:r*b+l.getD (m-1) 0=d*q+c):
  X=d*ai b (z.set (m-1) q)+(b^(m-1)*c+ai b (l.take (m-1))):=by
 obtain ⟨k,rfl⟩:∃ k,m=k+1:=⟨m-1,by omega⟩;rw[Nz] at *
 have h1:=cP b q i;rw[h0,MX,y5] at h1;have a:=congrArg (b^k * ·) e
 simp only[MS] at a;rw[inv,h1,aI,MP,MS];have f:b^k*(r*b)=b^k*b*r:=by rw[MQ r b,MT]
 have h:b^k*(d*q)=d*(b^k*q):=by ac_rfl
 rw[f,h] at a;omega
theorem CD (k):(2:Nat)^k=(2^32)^(k/32)*2^(k%32):=by
 have:k=32*(k/32)+k%32:=by omega
 conv=>lhs;rw[this,M4,M7]
theorem JM {x p c:Nat}(e:p<32)(f:x<(2^32))(a:c<2^p):
  (c ||| x*2^p%(2^64))=c+x*2^p/\c+x*2^p<(2^64)/\(c+x*2^p)/(2^32)<2^p:=by
 have h0:2^p<=2^31:=M1 kD oM;have h1:x*2^p<=4294967295*2^p:=z7 _ oM;have d:x*2^p<(2^64):=by omega
 refine ⟨?_,by omega,?_⟩
 ·rw[Am d];exact g6 p a
 ·rw[Ny kD];omega
theorem xR {b:Nat}{l:List Nat}{i c P Q s x:Nat}{a:List Nat}(h:0<b)(inv:ai b l+b^l.length*c=b^Q*(P*ai b (a.take i)))(e:l.length=Q+i)(d:s=c+x*P)(f:x=a.getD i 0):
  ai b (l++[s%b])+b^(l++[s%b]).length*(s/b)=b^Q*(P*ai b (a.take (i+1))):=by
 have j:b^l.length*s=b^l.length*(s%b)+b^l.length*(b*(s/b)):=by rw[<-MS,NH]
 have o:b^l.length*s=b^l.length*c+b^Q*(P*(b^i*x)):=by
  rw[d,MS,e,M4];congr 1
  ac_rfl
 rw[da,zY,aI,<-f,MS P,MS (b^Q),<-inv]
 show _+b^l.length*(s%b+b*0)+b^(l.length+1)*_=_
 rw[MX,y5,MP,MT];omega
theorem Ld.app {l:List Nat}(h:Ld l){x:Nat}(a:x<(2^32)):Ld (l++[x]):=Dg.append h (Dg.one a)
theorem xv {a n q m p:Nat}(h:a<(2^32)^n)(f:p<=32)(c:m=q+(n+1)):a*((2^32)^q*2^p)<(2^32)^m:=by
 have h1:(2:Nat)^p<=(2^32):=ep (M1 kD f) (ek (2^32));subst c;rw[M4,MP];have d:a*2^p<(2^32)^n*(2^32):=er (ND h (M0 p)) (M5 _ h1);have e:a*((2^32)^q*2^p)=(2^32)^q*(a*2^p):=by ac_rfl
 rw[e];exact Nf d (Na kD)
theorem Ky {x y p:Nat}(o:p<32)(B:x<(2^32))(u:y<(2^32)):
  (x ||| y*(2^32)%(2^64))=x+y*(2^32)/\x+y*(2^32)<(2^64) /\
  2^p*((x+y*(2^32))/2^p%(2^32))+x%2^p=x+(2^32)*(y%2^p):=by
 have h0:2^p*2^(32-p)=(2^32):=by rw[<-M4,show p+(32-p)=32 by omega]
 have c:=M0 p;refine ⟨?_,by omega,?_⟩
 ·rw[Am oM]
  exact g6 32 oM
 ·-- y=2^p*y1+y0
  have i:=Nl y (2^p);have h:=Nl x (2^p)
  generalize y/2^p=y1 at *
  generalize hy0:y%2^p=y0 at *
  generalize hxq:x/2^p=x1 at *
  generalize hx0:x%2^p=x0 at *
  have d:x0<2^p:=by rw[<-hx0];exact As _ c
  have f:y0<2^p:=by rw[<-hy0];exact As _ c
  have j:x1<2^(32-p):=by
   refine NM (a:=2^p) ?_
   omega
  have e:x+y*(2^32)=2^p*(x1+2^(32-p)*(2^p*y1+y0))+x0:=by
   rw[<-h,<-i,MS,<-MT (2^p) (2^(32-p)),h0]
   generalize 2^p*y1+y0=Y
   omega
  rw[e,NK c,MN d,y5];have l:x1+2^(32-p)*(2^p*y1+y0)=(x1+2^(32-p)*y0)+(2^32)*y1:=by
   rw[MS,<-MT,MQ (2^(32-p)) (2^p),h0];omega
  have z:2^(32-p)*y0+2^(32-p)<=(2^32):=by
   have:2^(32-p)*(y0+1)<=2^(32-p)*2^p:=M5 _ f;rw[MQ (2^(32-p)) (2^p),h0,MS] at this
   omega
  rw[l,NL,Am oM,MS,<-MT,h0];omega
theorem Hd {b:Nat}{l X:List Nat}{j P d a:Nat}(h:l.length=j)(inv:P*ai b l+a=ai b (X.take j)+b^j*(X.getD j 0%P))(i:P*d+X.getD j 0%P=X.getD j 0+b*(X.getD (j+1) 0%P)):
  P*ai b (l++[d])+a=ai b (X.take (j+1))+b^(j+1)*(X.getD (j+1) 0%P):=by
 have c:ai b (l++[d])=ai b l+b^j*d:=by
  rw[da,h];show _+b^j*(d+b*0)=_;rw[MX,y5]
 have e:=congrArg (b^j * ·) i
 simp only[MS] at e;rw[c,aI,MP,MS];have o:P*(b^j*d)=b^j*(P*d):=by ac_rfl
 have f:b^j*b*(X.getD (j+1) 0%P)=b^j*(b*(X.getD (j+1) 0%P)):=by ac_rfl
 rw[o,f];omega
theorem Il {a k:Nat}{l:List Nat}(i:(lim a).length<=k/32+l.length)(inv:2^(k%32)*ai (2^32) l+((lim a).drop (k/32)).getD 0 0%2^(k%32)=ai (2^32) (((lim a).drop (k/32)).take l.length)+(2^32)^l.length*(((lim a).drop (k/32)).getD l.length 0%2^(k%32))):ai (2^32) l=a/2^k:=by
 have c:((lim a).drop (k/32)).length<=l.length:=by rw[Np];omega
 rw[Nj c,cB c,NJ,MX,y5] at inv;have f:ai (2^32) ((lim a).drop (k/32))=a/(2^32)^(k/32):=by
  rcases ea (lim a).length (k/32) with h|h
  ·rw[NR oM,MN]
   ·rfl
   ·exact er (cO a) (M1 kD oM)
  ·have e:=bU (2^32) (l:=lim a) (k:=k/32) h
   rw[dk] at e;have h1:=bQ (Dg.take (Ld.lim a) (k/32));rw[MV,MW h] at h1
   have d:a/(2^32)^(k/32)=(ai (2^32) ((lim a).take (k/32))+(2^32)^(k/32)*ai (2^32) ((lim a).drop (k/32)))/(2^32)^(k/32):=by rw[<-e]
   rw[d,M9 _ _ (Na kD),MN h1,z6]
 rw[CD k,<-Nb,<-f,<-inv,NK (M0 _),MN (As _ (M0 _)),y5]
section bld
variable {P:Program}{n:Nat}{N R:Po}{X:Nat->Po}{ops:Array Oper}{k:Nat}{Γ:cC}{w0:World}{h0:Hp}{B:List Bx}{Rs:List Rw}{F:List (Hp->Prop)}{wB:World}{hB:Hp}
theorem SS.liftJ (s:SS w0 h0 wB hB B Rs F){w:World}(x:Ext wB w):∃ c,SS w0 h0 w c B Rs F/\∀ b,wB.heap.size<=b->b<w.heap.size->c[b]?=some bp:=by
 have h:=x.size;have f:=s.g.size;refine ⟨hB++tw (w.heap.size-wB.heap.size) bp,s.step ⟨x,⟨by simp,fun b a=>ub a⟩,⟨by simp;omega,fun b=>?_⟩⟩,fun b h1 d=>?_⟩
 ·rcases ea b hB.size with a|a
  ·rw[ub a]
   have e:=Below.block x b oM;rcases s.g.blk b with h1|h1
   ·exact .inl (h1.trans e.symm)
   ·exact .inr h1
  ·rw[A0 a,A6]
   by_cases hl:b<w.heap.size
   ·right;rw[if_pos oM]
   ·left;rw[if_neg oM,eb oM]
 ·rw[A0 oM,A6,if_pos oM]
theorem Mt (t)(ty:TypeId)(vs:List Value){w:World}{h:Hp}(s:SS w0 h0 w h B Rs F)(H:∀ w',Ext w w'->w.heap.size<=w'.heap.size->w'.heap[w.heap.size]?=some (.cells vs.toArray ty (0,0))->LG P n N R X ops (k+1) ((t,.pointer (some ⟨w.heap.size,0,none⟩))::Γ) w')(a:cL ops Γ k t n=true:=by kernel_rfl)
  (hr:(execOp (ev Γ) (am ops k)).run P w=.ok (.value (.pointer (some ⟨w.heap.size,0,none⟩))) (w.alloc (.cells vs.toArray ty (0,0))):=by kernel_rfl):LG P n N R X ops k Γ w :=
 LG.val t _ (w.alloc (.cells vs.toArray ty (0,0))) (bS a).1 (bS a).2 hr (H _ ((Ext.refl _).alloc _) (by rw[heap_alloc];simp) (by rw[heap_alloc];simp))
theorem L9 (t){f:FuncId}{args:Array Value}{V:Value}{Q:World->Prop}{w:World}(s:SS w0 h0 wB hB B Rs F)(x:Ext wB w)(c:Calls P f args w fun e w'=>e=.returned V/\(Q w'/\Below wB.heap.size w w'))(H:∀ w' a,SS w0 h0 w' a B Rs F->Ext wB w'->Q w'->LG P n N R X ops (k+1) ((t,V)::Γ) w')(d:cL ops Γ k t n=true:=by kernel_rfl)
  (hr:(execOp (ev Γ) (am ops k)).run P w=.ok (.enter f args) w:=by kernel_rfl):LG P n N R X ops k Γ w :=
 LG.call t f args (bS d).1 (bS d).2 hr (c.mono fun e w' ⟨j,q,b⟩=>by
  have h:Ext wB w':=Below.trans x b;obtain ⟨a,i,_⟩:=s.liftJ h;exact ⟨V,j,H w' a i h q⟩)
def Fw (a b:Nat):List Nat:=(List.range b).filter (fun c=>decide (a<=c))
theorem mJ {a b c:Nat}:c∈Fw a b↔a<=c/\c<b:=by
 unfold Fw;rw[List.mem_filter,pa];simp;omega
theorem A.takeK {M:Ms}{Q:Exit->Act->World->Prop}{k0:Nat}{L:Array Bool}{a:Act}{w:World}{i:Nat}{o:Oper}{v:Value}{S:World->Prop}
  (hi:ops[i]?=some o)(hk:i<k0)(f:Region.noSelect ops=true)(hf:Region.free .any ops L i=true)(hr:i∈Region.ready .any ops L)(z:∀ c a w,¬Q (.panic c) a w)
  (p:∀ w w',S w->Mo M.l w w'->S w')(C:S w)(D:YieldsIf P ops S o v a)
  (d:(∀ w,S w)\/(∀ w w',S w->Tl M w w'->S w')\/∀ j h,ops[j]?=some h->k0<=j->j≠i->∃ e∈h.after,Region.binds .any e=true/\e.on=i)
  (H:A M P ops Q k0 (L.setIfInBounds i true) (a.put o.dst v) w):A M P ops Q k0 L a w:=by
 unfold A at *;rw[gi hr];exact nB hi (Region.noSelect_spec f) (fun c a w y=>absurd y (z _ _ _)) p _ _ _ _
  (fun j h B u x=>Region.free_spec hi hf j h B u x) d hr D C H hk
variable {M:Ms}{k0:Nat}{L:Array Bool}{w:World}
theorem aV (i t v)(H:AG M P n N R X ops k0 (L.setIfInBounds i true) ((t,v)::Γ) w)(f:cE n ops k0 [] L Γ i t=true:=by kernel_rfl)(hv:∀ w,(execOp (ev Γ) (am ops i)).run P w=.ok (.value v) w:=by intro _;kernel_rfl):AG M P n N R X ops k0 L Γ w:=by
 obtain ⟨d,j⟩:=jy f;rw[lu] at d
 have c:=eo d.1;intro a e;have h:=e.exec (Region.noSelect_spec c.sel i _ · · c.get) d.2;refine A.takeK (v:=v) (S:=fun _=>True) c.get c.lt c.sel c.free c.ready (fun _ _ _ l=>l) (fun _ _ _ _=>trivial) trivial (.inl ⟨e.want j,fun w _=>by rw[h];exact hv w⟩) (.inl fun _=>trivial) ?_;rw[c.dst];exact H _ (e.put c.tn v)
theorem aL (i t v)(hr:∀ w',Mo M.l w w'->(execOp (ev Γ) (am ops i)).run P w'=.ok (.value v) w')(H:AG M P n N R X ops k0 (L.setIfInBounds i true) ((t,v)::Γ) w)(p:Dr n ops k0 [] L Γ i t=true:=by kernel_rfl):AG M P n N R X ops k0 L Γ w:=by
 obtain ⟨d,u⟩:=i9 p;rw[lu,lu] at d
 obtain ⟨⟨j,e⟩,f⟩:=d;have c:=eo j;intro a h;have z:=h.exec (Region.noSelect_spec c.sel i _ · · c.get) e;refine A.takeK (v:=v) (S:=fun w'=>Mo M.l w w') c.get c.lt c.sel c.free c.ready (fun _ _ _ x=>x) (fun _ _ h1 o=>h1.trans o) (Mo.refl _ _) (.inl ⟨h.want u,fun w' y=>by rw[z];exact hr w' y⟩) (.inr (.inr (kc f))) ?_;rw[c.dst];exact H _ (h.put c.tn v)
theorem aH (i t v){h:Hp}{b o:Nat}{cs:List Value}(s:SS w0 h0 w h B Rs F)(d:Seg h b o cs)(H:AG M P n N R X ops k0 (L.setIfInBounds i true) ((t,v)::Γ) w)(hM:∀ b∈M.l,h[b]?=some bp)(a:Dr n ops k0 [] L Γ i t=true:=by kernel_rfl)(c:cc P (execOp (ev Γ) (am ops i)) cs=some (.value v,mn b o cs.length):=by kernel_rfl):AG M P n N R X ops k0 L Γ w :=
 aL i t v (fun _ e=>Seg.runM d s.g hM e c) H a
def Kx (ops:Array Oper)(k0:Nat)(L:Array Bool)(i:Nat):Bool:=decide (i<ops.size) && decide (i<k0) && Region.noSelect ops && (Region.ready .any ops L == [i])
theorem aC (i t){f:FuncId}{args:Array Value}(c:Calls P f args w fun e w'=>∃ v,e=.returned v/\Mo M.l w w'/\AG M P n N R X ops k0 (L.setIfInBounds i true) ((t,v)::Γ) w')(h:(Kx ops k0 L i && bc Γ (am ops i) && ((am ops i).dst == some t) && decide (t<n))=true:=by kernel_rfl)(z:bu ops Γ (am ops i)=some true:=by kernel_rfl)
  (hr:(execOp (ev Γ) (am ops i)).run P w=.ok (.enter f args) w:=by kernel_rfl):AG M P n N R X ops k0 L Γ w:=by
 simp only[lu,decide_eq_true_eq,beq_iff_eq] at h;obtain ⟨⟨⟨h1,y⟩,B⟩,x⟩:=h
 unfold Kx at h1;simp only[lu,decide_eq_true_eq,beq_iff_eq] at h1;have u:=bK (ops:=ops) h1.1.1.1;intro a d;refine A.intro (fun h0=>by rw[h1.2] at h0;cases h0) (fun j p=>?_);rw[h1.2,List.mem_singleton] at p
 subst p;refine OpR.wpOp (R:=fun v w'=>Mo M.l w w'/\AG M P n N R X ops k0 (L.setIfInBounds j true) ((t,v)::Γ) w') u ⟨d.want z,.inr (.inr ⟨f,args,?_,c⟩)⟩ (fun v w' o=>⟨Rl.mo h1.1.1.2 o.1,?_⟩)
 ·rw[d.exec (Region.noSelect_spec h1.1.2 j _ · · u) y];exact hr
 ·rw[B];exact o.2 _ (d.put x v)
theorem xE {id:Nat}(M:Ms)(k0)(c:P.follows .mixedOrders=true)(H:AG M P n N R X ops k0 (tw ops.size false) Γ w.drew):CG P n N R X (.region id ops true) Γ w:=by
 intro a d;refine wp_region_any c ?_;have h1:=H a d
 unfold A at h1;rw[jQ] at h1;exact mI _ _ _ _ _ _ _ _ _ h1
theorem SS.drew {h:Hp}(s:SS w0 h0 w h B Rs F):SS w0 h0 w.drew h B Rs F:=s.step (Up.drew (Up.refl s.g))
theorem BO {K:Nat}{w w':World}(x:Below K w w'):Mo (Fw K w.heap.size) w w':=⟨x.os,x.tape,x.output,x.size,fun c a hn=>by
 rcases ea c K with h|h
 ·exact Below.block x c h
 ·exact absurd (mJ.2 ⟨h,a⟩) hn⟩
theorem tZ {K:Nat}{T e:TypeId}{b:Nat}{bs:List Value}{w w1:World}(h:Lib.IsBuilder T e K b bs w)(x:Ext w w1):Lib.IsBuilder T e K b bs w1:=by
 have key:∀ p,Lib.BuilderAt T e K b p bs w->Lib.BuilderAt T e K b p bs w1:=by
  rintro p ⟨h1,v,a,f,i⟩
  have d:b<w.heap.size:=by
   rcases ea b w.heap.size with h'|h'
   ·exact h'
   ·rw[eb h'] at a;cases a
  exact ⟨h1,v,(Below.block x b d).trans a,fa f (fun c j=>Below.block x c (jV f j)),i⟩
 rcases h with h|h
 ·exact .inl (key _ h)
 ·exact .inr (key _ h)
theorem aX (i t A len a sz x j)(f:A=some ⟨aB A,aO A,none⟩)(H:AG M P n N R X ops k0 (L.setIfInBounds i true) ((t,.pointer (some ⟨aB A,aO A+j*sz,none⟩))::Γ) w)(d:cE n ops k0 [] L Γ i t=true:=by kernel_rfl)(e:EE P (ev Γ) (am ops i)=some (.slice A len a,.int .i64 x,sz):=by kernel_rfl)(hk:x=j:=by omega)(c:j<len:=by omega):AG M P n N R X ops k0 L Γ w :=
 aV i t _ H d (fun w=>im e f hk c w)
theorem tm {P:List UInt8}{x m:Nat}(a:m<8):Lib.byteCells (P++(b8 x).take m)++[.int .u8 ((x/2^(8*m)%256:Nat):Int)]=Lib.byteCells (P++(b8 x).take (m+1)):=by
 have e:(b8 x).take (m+1)=(b8 x).take m++[UInt8.ofNat (x/256^m)]:=by
  rw[List.take_add_one];congr 1
  unfold b8;rw[Nq,Nr a];rfl
 rw[e,<-List.append_assoc];unfold Lib.byteCells;rw[List.map_append (l₁:=P++_)]
 congr 1
 show _=[Value.int .u8 ((x/256^m%256:Nat):Int)]
 rw[M7]
theorem wD {l:List Nat}{k:Nat}(hk:k<l.length):((l.take k).flatMap b8)++(b8 (l.getD k 0)).take 8=(l.take (k+1)).flatMap b8:=by
 have e:(b8 (l.getD k 0)).take 8=b8 (l.getD k 0):=Nj (by rw[kW];omega);rw[ja hk,List.flatMap_append,e];simp
theorem wN {l:List Nat}{k m x:Nat}(hk:k<=l.length)(a:m<=8)(c:l.length<=(2^40)):(Lib.byteCells ((l.take k).flatMap b8++(b8 x).take m)).length+1<=(2^47):=by
 rw[Lib.byteCells_length,zY,oB,MV,MV,kW];omega
theorem EX {l:List Nat}(h:tl l l.length=0):Value.agg #[.int .u64 0,.string ⟨#[]⟩]=nv (aD l):=by
 have e:=kC (2^64) l l.length (ek _);rw[h,y8] at e
 have:aD l=0:=e.symm;rw[this];rfl
theorem IJ {l:List Nat}(d:Wd l)(h:tl l l.length=1):Value.agg #[.int .u64 (l.getD 0 0:Nat),.string ⟨#[]⟩]=nv (aD l):=by
 have e:=kC (2^64) l l.length (ek _);have c:=iN l l.length;rw[h,y8,aI] at e
 have a:aD l=l.getD 0 0:=by show ai _ l=_;rw[<-e];simp[ai]
 rw[a];have:=d.get 0
 unfold nv;rw[nK this,nz this]
theorem Fo {l:List Nat}(c:Wd l)(h:0<tl l l.length):Value.agg #[.int .u64 (l.getD 0 0:Nat),.string ⟨(((l.drop 1).take (tl l l.length-1)).flatMap b8).toArray⟩]=nv (aD l):=by
 have e:=pD c;have a:((l.drop 1).take (tl l l.length-1))=(wds (aD l)).drop 1:=by rw[e,List.drop_take]
 unfold nv;rw[J3 (n:=aD l) (by rw[a]),uq,e,jZ h]
end bld
section
variable {P:Program}{Γ:cC}{o:Oper}
theorem eL {f:FuncId}{args:Array Value}{v:Value}{w:World}(h:(execOp (ev Γ) o).run P w=(callFunc f args).run P w)(k:(callFunc f args).run P w=.ok (.value v) w):(execOp (ev Γ) o).run P w=.ok (.value v) w:=h.trans k
end
theorem fk (x y c)(f:x<(2^64))(d:y<(2^64))(a:c<=1):∃ s c':Nat,s+(2^64)*c'=x+y+c/\s<(2^64)/\c'<=1/\∀ w,(callFunc 165 #[.int .u64 x,.int .u64 y,.int .u64 c]).run Tryz.prog w=.ok (.value (.tuple #[.int .u64 s,.int .u64 c'])) w:=by
 refine ⟨(x+y+c)%(2^64),(x+y+c)/(2^64),by omega,by omega,by omega,fun w=>?_⟩;rw[run_callFunc_extern Tryz.func165 kR kR kR (e:=add64Entry) kR,run_add64 x y c oM oM oM oM]
 simp only[Result.andThen];congr 5<;>omega
theorem jz (x y b)(f:x<(2^64))(d:y<(2^64))(c:b<=1):∃ s a:Nat,s+y+b=x+(2^64)*a/\s<(2^64)/\a<=1/\∀ w,(callFunc 186 #[.int .u64 x,.int .u64 y,.int .u64 b]).run Tryz.prog w=.ok (.value (.tuple #[.int .u64 s,.int .u64 a])) w:=by
 refine ⟨(x+(2^64)-y-b)%(2^64),if x<y+b then 1 else 0,by split<;>omega,by omega,by split<;>omega,fun w=>?_⟩;rw[run_callFunc_extern Tryz.func186 kR kR kR (e:=sub64Entry) kR,run_sub64 x y b c]
 rfl
theorem Ret.of_same {f:FuncId}{args:Array Value}{V:Value}{P:Program}{w:World}{h:Hp}(g:G w h)(c:Calls P f args w fun e w'=>e=.returned V/\w'=w):Calls P f args w (Ret w h fun v _=>v=V) :=
 c.mono fun e w' ⟨d,a⟩=>by subst a;exact ⟨V,h,d,Up.refl g,rfl⟩
theorem qg (x y:Nat)(d:x<(2^64))(f:y<(2^64))(w:World)(h:Hp)(g:G w h):CR 106 #[uV x,uV y] w h (fun v _=>∃ hi lo:Nat,v=.tuple #[uV hi,uV lo]/\lo+(2^64)*hi=x*y/\lo<(2^64)/\hi<(2^64)/\hi<=18446744073709551614):=by
 refine (Ret.of_same g (Tryz.bits_Mul64 x y d f w)).mono ?_;rintro e w' ⟨v,a,c,u,rfl⟩;have h1:x*y<=18446744073709551615*18446744073709551615:=NF oM oM;exact ⟨_,a,c,u,x*y/(2^64),x*y%(2^64),rfl,by omega,by omega,by omega,by omega⟩
theorem oC {n:Nat}(h:n<(2^64)):Lib.bitLen n=nb n:=by
 rcases B2 n with h0|h0
 ·subst h0;rfl
 ·obtain ⟨a,d,f⟩:=cI h0
  have c:nb n<=64:=lU (k:=64) h;have:=Lib.bitLen_shift (nb n-1) n a h
  have h1:n/2^(nb n-1)=1:=by
   have:n<2^(nb n-1)*2:=by rw[<-MP];rwa [show (nb n-1).succ=nb n by omega]
   refine NB oM oM
  rw[h1] at this;have e:Lib.bitLen 1=1:=by decide
  omega
theorem C4 (x:Nat)(a:x<(2^64))(w:World)(h:Hp)(g:G w h):CV 149 #[uV x] w h (nV (nb x)):=by
 have:=Ret.of_same g (Tryz.bits_Len64 x w oM oM);rw[Aw,oC a] at this
 exact this
theorem Gt (x:Nat)(a:x<(2^64))(w:World)(h:Hp)(g:G w h):CV 188 #[uV x] w h (nV (64-nb x)):=by
 have:=Ret.of_same g (Tryz.bits_LeadingZeros64 x w oM oM);have c:nb x<=64:=lU (k:=64) a;rw[Aw,oC a,show (64:Int)-(nb x:Nat)=((64-nb x:Nat):Int) by omega] at this
 exact this
theorem ko {a b:Nat}(ha:a<(2^64))(d:b<(2^64)):a*b<=340282366920938463426481119284349108225:=by
 have h1:a<=18446744073709551615:=by omega
 have c:b<=18446744073709551615:=by omega
 exact NF h1 c
theorem jM (A c l m)(F:l.length=m)(H:l.length<=(2^40))(D:l.length<=c)(w h)(g:G w h)(B:S3 A l h):CV 83 #[.slice A m c] w h (.slice A (tl l m) c):=by
 have a:=((sS g).aS B);refine go Tryz.func83 [(0,qS A m c)] rfl (aa a ac (aG (lL a [.c,.v (nV m),.c] (ag (kZ ?_)))));refine bH _ (CG.loop (fun p Γ z=>∃ (n:Nat)(h_:Hp),p=n/\Γ=[(0,qS A m c),(2,sZ),(3,nV n)]/\SS w h z h_ [] [] [S3 A l]/\n<=m/\tl l m=tl l n) _ ⟨m,h,rfl,rfl,a.to _ _,nR _,rfl⟩ ?_);rintro _ _ w1 ⟨n,u,x,rfl,a,hn,o⟩;refine cQ (aa a ac ?_);cases d:(decide ((0:Int)<(n:Int)))
 .
  have j:=oF d;refine lB 7 d (lL a ac (lG 9 ?_));refine lG 10 (lG 11 (lG 12 (lG 13 (lG 14 (lL a [.v qF] (ah (CG.exit ?_)))))))
  show CG _ _ _ _ _ _ _ _
  refine aa a ax (lT 20 A m c 1 (n:Nat) n ?_);exact lL a ac (ae a [] (qS A n c) (by rw[o,pf oM]))
 have j:=oT d;refine lB 7 d (lL a cG (bw 11 ((n:Nat)-1) (n-1) ?_));refine lX 12 A m c 1 (n-1:Nat) (n-1) ((a.f.1).ok oM) (lH 13 (mW (l.getD (n-1) 0)) a ((a.f.1).el (n-1) oM) ?_);cases e:(((l.getD (n-1) 0:Nat):Int) == (0:Int))
 .
  have i:=aj e;refine lB 14 e (lL a [.v qF] (ah (CG.exit ?_)))
  show CG _ _ _ _ _ _ _ _
  refine aa a ax (lT 20 A m c 1 (n:Nat) n ?_);exact lL a ac (ae a [] (qS A n c) (by rw[o,pf oM]))
 have i:=eq_of_beq e;refine lB 14 e (lL a [.v qT] (ak (cK (kZ (kQ (lL a ac (bw 17 ((n:Nat)-1) (n-1) ?_)))))));refine lL a ac (lD ?_);intro C y;refine ⟨_,_,?_,⟨n-1,u,rfl,rfl,a.to _ _,oM,(by rw[o];exact Et oM oM)⟩,y.to _ kR⟩
 omega
theorem xb {h:Hp}{A:Z9}{n a:Nat}(hn:n<(2^64))(c:2<=a)(s:SlO 1 a8 0 h A [n%(2^32),n/(2^32)]):RN h (.slice A (tl [n%(2^32),n/(2^32)] 2) a) n :=
 RN.trim (Dg.cons oM (Dg.one oM)) (by simp only[ai];omega) rfl c s
theorem qE (n)(hn:n<(2^64))(w h)(g:G w h):CR 39 #[mV n] w h (fun v h=>RN h v n):=by
 have a:=sS g;refine go Tryz.func39 [(0,mV n)] rfl (aa a ac (aG (lL a ac (lV 4 (mW (n%(2^32))) ?_ (hr:=rT ((n:Int)) kR (g8 _))))));refine lL a ac (lV 6 (mV (n/(2^32))) ?_ (hr:=aK (n:=NW (n:Int) (2^32)) kR (eN _ (2^32))));refine lV 7 (mW (n/(2^32))) ?_ (hr:=rT (((n/(2^32):Nat):Int)) kR (qi oM oM));refine lR 8 153 2 ([mW (n%(2^32)),mW (n/(2^32))]) a (fun c w2 j a=>?_);replace a:=a.aS (SlO.of_flat (sz:=1) (f:=a8) (d:=0) (l:=[(n%(2^32)),(n/(2^32))]) (fun _=>rfl) a.f.1);exact ar 9 a (jM (sB c) 2 ([(n%(2^32)),(n/(2^32))]) 2 (by first|rfl|omega|assumption) (by simp) (by simp) _ _ a.g a.f.1) (fun e i a=>lL a ac (ae a [] (qS (sB c) (tl ([(n%(2^32)),(n/(2^32))]) 2) 2) (xb hn oM a.f.1)))
theorem LN (n A a)(e:(lim n).length<=a)(w h)(g:G w h)(i:S3 A (lim n) h):CR 82 #[.bool false,.slice A ((lim n).length) a] w h (fun v h=>RI h v (bD false n)):=by
 have d:=((sS g).aS i);refine go Tryz.func82 [(0,qF),(1,qS A ((lim n).length) a)] rfl (aA (lA 4 26 ([qF,sZ]) d (fun l w2 o d=>aG (lL d ax (lG 7 ?_)))));exact lG 8 (lG 9 (lL d [.v qF,.c,.v (.agg #[qF,qS A ((lim n).length) a])] (lP 0 0 ([qF,qS A ((lim n).length) a]) d (fun j d=>ae d [(0,0,2)] (.agg #[qF,qS A ((lim n).length) a]) (uD rfl e d.f.1)))))
theorem LS (n A a)(j:(lim n).length<=a)(w h)(g:G w h)(l:S3 A (lim n) h):CR 82 #[.bool true,.slice A ((lim n).length) a] w h (fun v h=>RI h v (bD true n)):=by
 have d:=((sS g).aS l);have o:=@bV n;refine go Tryz.func82 [(0,qT),(1,qS A ((lim n).length) a)] rfl (aA (lA 4 26 ([qF,sZ]) d (fun y w2 p d=>aG (lL d [.c,.c,.c,.v (nV ((lim n).length))] ?_))));cases e:(decide ((0:Int)<(((lim n).length:Nat):Int)))
 .
  have i:=oF e;exact lB 9 e (lL d [.v qF,.c,.v (.agg #[qF,qS A ((lim n).length) a])] (lP 0 0 ([qF,qS A ((lim n).length) a]) d (fun u d=>ae d [(0,0,2)] (.agg #[qF,qS A ((lim n).length) a]) (uD (by simp only[NX];first|(symm;exact decide_eq_true oM)|(symm;exact decide_eq_false oM)) j d.f.1))))
 have i:=oT e;exact lB 9 e (lL d [.v qT,.c,.v (.agg #[qT,qS A ((lim n).length) a])] (lP 0 0 ([qT,qS A ((lim n).length) a]) d (fun x d=>ae d [(0,0,2)] (.agg #[qT,qS A ((lim n).length) a]) (uD (by simp only[NX];first|(symm;exact decide_eq_true oM)|(symm;exact decide_eq_false oM)) j d.f.1))))
theorem rI (p:Bool)(n A a)(c:(lim n).length<=a)(w h)(g:G w h)(d:S3 A (lim n) h):CR 82 #[.bool p,.slice A (lim n).length a] w h (fun v h=>RI h v (bD p n)):=by
 cases p;·exact LN n A a c w h g d
 ·exact LS n A a c w h g d
theorem t7 (z)(h0:z<0)(h1 : -(2^63)<=z)(w h)(g:G w h):CR 38 #[iV z] w h (fun v h=>RI h v (bD true (ab z))):=by
 have a:=sS g;have hi:ab z<=(2^63):=by unfold ab;omega
 refine go Tryz.func38 [(0,iV z)] rfl (aA (lA 2 26 ([qF,sZ]) a (fun D w2 C a=>ag (aa a ac ?_))));have ⟨d,l⟩:=dT (p:=(z:Int)<(0:Int)) oM;refine lB 4 d (ak (aa a ac (lV 6 (mV ((2^64)-ab z)) ?_ (hr:=rU (z) kR (by rw[IntKind.wrap_u64];unfold ab;omega)))));refine lV 7 (mV (ab z)) ?_ (hr:=rU ((0-(((2^64)-ab z:Nat):Int))) kR (by rw[IntKind.wrap_u64];omega));refine lC 8 a (qE (ab z) oM _ _ a.g) ?_;rintro _ B _ a ⟨x,y,rfl,e,c⟩;replace a:=a.aS c;refine lC 9 a (rI true (ab z) x y e _ _ a.g a.f.1) ?_;rintro _ _ _ a ⟨i,j,rfl,o,u⟩;replace a:=a.aS u;exact lP 0 0 ([.bool (af (bD true (ab z))),qS i ((lim (ab (bD true (ab z)))).length) j]) a (fun _ a=>ae a [(0,0,2)] (.agg #[.bool (af (bD true (ab z))),qS i ((lim (ab (bD true (ab z)))).length) j]) (⟨_,_,rfl,o,a.f.1⟩))
theorem tQ (z)(h1:z<(2^63))(w h)(g:G w h):CR 38 #[nV z] w h (fun v h=>RI h v (bD false z)):=by
 have a:=sS g;refine go Tryz.func38 [(0,nV z)] rfl (aA (lA 2 26 ([qF,sZ]) a (fun D w2 C a=>ag (aa a ac ?_))));have ⟨d,l⟩:=dF (p:=(z:Int)<(0:Int)) oM;refine lB 4 d (ah (cK (aa a ac (lV 11 (mV z) ?_ (hr:=rU ((z:Int)) kR (bh oM oM))))));refine lC 12 a (qE z oM _ _ a.g) ?_;rintro _ B _ a ⟨x,y,rfl,e,c⟩;replace a:=a.aS c;refine lC 13 a (rI false z x y e _ _ a.g a.f.1) ?_;rintro _ _ _ a ⟨i,j,rfl,o,u⟩;replace a:=a.aS u;exact lP 0 0 ([.bool (af (bD false z)),qS i ((lim (ab (bD false z))).length) j]) a (fun _ a=>ae a [(0,0,2)] (.agg #[.bool (af (bD false z)),qS i ((lim (ab (bD false z))).length) j]) (⟨_,_,rfl,o,a.f.1⟩))
theorem s7 (z)(h0 : -(2^63)<=z)(h1:z<(2^63))(w h)(g:G w h):CR 38 #[iV z] w h (fun v h=>RI h v z):=by
 rcases Int.lt_or_le z 0 with hz|hz
 ·have e:bD true (ab z)=z:=by unfold bD ab;simp;omega
  have:=t7 z hz h0 w h g;rw[e] at this
  exact this
 ·obtain ⟨n,rfl⟩:=Int.eq_ofNat_of_zero_le hz
  exact tQ n oM w h g
theorem iG (a A c)(V:(lim a).length<=c)(b D d)(Y:(lim b).length<=d)(I:(lim a).length<=4000000000)(K:(lim b).length<=4000000000)(w h)(g:G w h)(O:S3 A (lim a) h)(Q:S3 D (lim b) h):CV 137 #[.slice A ((lim a).length) c,.slice D ((lim b).length) d] w h (iV (bY a b)):=by
 have e:=(((sS g).aS O).aS Q);refine go Tryz.func137 [(0,qS A ((lim a).length) c),(1,qS D ((lim b).length) d)] rfl (aa e ac (ag (aa e [.c,.v (nV ((lim a).length)),.c,.v (nV ((lim b).length))] ?_)));cases o:((((lim a).length:Nat):Int) != (((lim b).length:Nat):Int))
 .
  have x:=aU o;refine lB 10 o (ah (cK (cQ (aa e [.c,.v (nV ((lim a).length))] (lV 18 (iV ((((lim a).length:Nat):Int)-1)) ?_ (hr:=rS ((((lim a).length:Nat)-1)) kR ((g5 oM oM).trans oM)))))));refine lL e ac (aZ ?_);refine bH _ (CG.loop (fun C Γ M=>∃ (m:Nat)(h_:Hp),C=m/\Γ=[(0,qS A ((lim a).length) c),(1,qS D ((lim b).length) d),(5,iV ((m:Int)-1))]/\SS w h M h_ [] [] [S3 D (lim b),S3 A (lim a)]/\m<=(lim a).length/\(lim a).length=(lim b).length/\(lim a).drop m=(lim b).drop m) _ ⟨(lim a).length,h,rfl,rfl,e.to _ _,nR _,oM,(by rw[NR oM,NR oM])⟩ ?_);rintro _ _ w2 ⟨m,X,S,rfl,e,Z,p,i⟩;refine cQ (aa e ac ?_);cases l:(decide ((0:Int)<=((m:Int)-1:Int)))
  .
   have y:=oF l;refine lB 20 l (ah (CG.exit ?_))
   show CG _ _ _ _ _ _ _ _
   exact aa e ac (ae e [] (iV 0) (by rw[jv (FU (by obtain rfl:m=0:=oM;simpa using i))]))
  have y:=oT l;refine lB 20 l (ak (cK (cQ (kZ (cQ (cR 9 [] mixed e ao ?_))))));refine eV 0 23 (qS A ((lim a).length) c) (eV 1 24 (iV ((m:Int)-1)) (eX 2 25 A ((lim a).length) c 1 ((m:Int)-1) (m-1) ((e.f.2.1).ok oM) (eH 3 26 (mW ((lim a).getD (m-1) 0)) e ((e.f.2.1).el (m-1) oM) (eV 4 27 (qS D ((lim b).length) d) (eV 5 28 (iV ((m:Int)-1)) (eX 6 29 D ((lim b).length) d 1 ((m:Int)-1) (m-1) ((e.f.1).ok oM) (eH 7 30 (mW ((lim b).getD (m-1) 0)) e ((e.f.1).el (m-1) oM) ?_)))))));cases j:((((lim a).getD (m-1) 0:Nat):Int) != (((lim b).getD (m-1) 0:Nat):Int))
  .
   have u:=aU j;refine eB 8 31 j (bM e (fun W H e=>tN (dE (cK (kQ (lL e ac (lV 22 (iV (((m-1:Nat):Int)-1)) ?_ (hr:=rS ((((m:Int)-1)-1)) kR ((g5 oM oM).trans oM)))))))));refine lL e ac (lD ?_);intro U L;refine ⟨_,_,?_,⟨m-1,H,rfl,rfl,e.to _ _,oM,p,(f4 (k:=m-1) p oM (by rw[show m-1+1=m by omega];exact i) oM)⟩,L.to _ kR⟩
   omega
  have u:=aJ j;refine eB 8 31 j (bM e (fun _ _ e=>tN (ck (cQ (cQ (cR 9 [] mixed e ao ?_))))));refine eV 0 32 (qS A ((lim a).length) c) (eV 1 33 (iV ((m:Int)-1)) (eX 2 34 A ((lim a).length) c 1 ((m:Int)-1) (m-1) ((e.f.2.1).ok oM) (eH 3 35 (mW ((lim a).getD (m-1) 0)) e ((e.f.2.1).el (m-1) oM) (eV 4 36 (qS D ((lim b).length) d) (eV 5 37 (iV ((m:Int)-1)) (eX 6 38 D ((lim b).length) d 1 ((m:Int)-1) (m-1) ((e.f.1).ok oM) (eH 7 39 (mW ((lim b).getD (m-1) 0)) e ((e.f.1).el (m-1) oM) ?_)))))));cases z:(decide ((((lim a).getD (m-1) 0:Nat):Int)<(((lim b).getD (m-1) 0:Nat):Int)))
  .
   have F:=oF z;exact eB 8 40 z (bM e (fun _ _ e=>tN (dE (cK (aa e ac (ae e [] (iV 1) (by rw[f5 (by first|exact gW oM|exact il (k:=m-1) oM oM (by rw[show m-1+1=m by omega];exact i.symm) oM)])))))))
  have F:=oT z;exact eB 8 40 z (bM e (fun _ _ e=>tN (ck (aa e ac (ae e [] (iV (-1)) (by rw[ei (by first|exact gW oM|exact il (k:=m-1) oM oM (by rw[show m-1+1=m by omega];exact i) oM)]))))))
 have x:=aJ o;refine lB 10 o (ak (cQ (aa e [.c,.v (nV ((lim a).length)),.c,.v (nV ((lim b).length))] ?_)));cases B:(decide ((((lim a).length:Nat):Int)<(((lim b).length:Nat):Int)))
 .
  have J:=oF B;exact lB 15 B (ah (cK (aa e ac (ae e [] (iV 1) (by rw[f5 (by first|exact gW oM|exact il (k:=m-1) oM oM (by rw[show m-1+1=m by omega];exact i.symm) oM)])))))
 have J:=oT B;exact lB 15 B (ak (aa e ac (ae e [] (iV (-1)) (by rw[ei (by first|exact gW oM|exact il (k:=m-1) oM oM (by rw[show m-1+1=m by omega];exact i) oM)]))))
theorem Ja (A c l m)(u:l.length=m)(i)(hi:i<=(2^40))(j:Ld l)(w h)(g:G w h)(p:S3 A l h):CV 200 #[.slice A m c,nV i] w h (mV (l.getD i 0)):=by
 have a:=((sS g).aS p);have o:=j.get i;refine go Tryz.func200 [(0,qS A m c),(1,nV i)] rfl (aa a ac (ag (aa a [.c,.c,.v (nV m)] ?_)));cases d:(decide ((i:Int)<(m:Int)))
 .
  have e:=oF d;exact lB 8 d (ah (cK (aa a ac (ae a [] (uV 0) (by rw[cB oM];rfl)))))
 have e:=oT d;refine lB 8 d (ak (aa a ax (lX 11 A m c 1 (i:Nat) i ((a.f.1).ok oM) ?_)));refine lH 12 (mW (l.getD i 0)) a ((a.f.1).el i oM) (lV 13 (mV (l.getD i 0)) ?_ (hr:=rU (((l.getD i 0:Nat):Int)) kR (bh oM oM)));exact lL a ac (ae a [] (mV (l.getD i 0)) rfl)
theorem vr (a A c)(hc:(lim a).length<=c)(b D d)(hd:(lim b).length<=d)(L:(lim a).length<=4000000000)(M:(lim b).length<=4000000000)(w h)(g:G w h)(V:S3 A (lim a) h)(hD:S3 D (lim b) h):CR 173 #[.slice A ((lim a).length) c,.slice D ((lim b).length) d] w h (fun v h1=>RN h1 v (a+b)):=by
 have e:=(((sS g).aS V).aS hD);refine go Tryz.func173 [(0,qS A ((lim a).length) c),(1,qS D ((lim b).length) d)] rfl (aa e ac (aG (lL e [.c,.v (nV ((lim a).length)),.c,.v (nV ((lim b).length))] (lV 13 (nV (max (lim a).length (lim b).length)) ?_ (hr:=aK (n:=if (((lim b).length:Nat):Int)>(((lim a).length:Nat):Int) then (((lim b).length:Nat):Int) else (((lim a).length:Nat):Int)) kR (by split<;>omega))))));refine lL e ac (aG (lL e ac (bw 15 (((max (lim a).length (lim b).length):Nat)+1) (((max (lim a).length (lim b).length):Nat)+1) ?_)));refine lK 16 153 (((max (lim a).length (lim b).length):Nat)+1:Nat) 1 4 (uW 0) a8 0 e (fun x w2 U e=>?_);have C:(Af (((max (lim a).length (lim b).length):Nat)+1:Nat) 0).length=(((max (lim a).length (lim b).length):Nat)+1:Nat):=by simp
 refine lL e ac (aG (lL e ac (ag (aa e ac (aZ ?_)))));refine bH _ (CG.loop (fun F Γ Q=>∃ (i:Nat)(z:List Nat)(j:Nat)(h_:Hp),F=(max (lim a).length (lim b).length)+1-i/\Γ=[(0,qS A ((lim a).length) c),(1,qS D ((lim b).length) d),(4,sZ),(5,nV (max (lim a).length (lim b).length)),(6,qS (sB x) (((max (lim a).length (lim b).length):Nat)+1:Nat) (((max (lim a).length (lim b).length):Nat)+1:Nat)),(8,nV i),(7,mV j)]/\SS w h Q h_ [⟨x,153,(z).flatMap a8⟩] [] [S3 D (lim b),S3 A (lim a)]/\i<=(max (lim a).length (lim b).length)+1/\z.length=(max (lim a).length (lim b).length)+1/\Ld z/\j<=1/\ai (2^32) z+(2^32)^i*j=ai (2^32) ((lim a).take i)+ai (2^32) ((lim b).take i)/\(∀ k,i<=k->z.getD k 0=0)) _ ⟨0,Af (((max (lim a).length (lim b).length):Nat)+1:Nat) 0,0,U,rfl,rfl,e.to _ _,NY _,C,Ld.rep _,oM,(by rw[dQ];simp[ai]),fun k _=>eJ⟩ ?_);rintro _ _ w5 ⟨i,z,j,h6,W,rfl,e,hi,p,J,hcy,inv,hz⟩;have hai:=(Ld.lim a).get i;have Z:=(Ld.lim b).get i;refine cQ (aa e ax ?_);cases u:(decide ((i:Int)<=(((max (lim a).length (lim b).length):Nat):Int)))
 .
  have B:=oF u;refine lB 19 u (ah (CG.exit ?_))
  show CG _ _ _ _ _ _ _ _
  refine aa e ac ?_;have H:i=(max (lim a).length (lim b).length)+1:=by omega
  rw[Nj (show (lim a).length<=i by omega),Nj (show (lim b).length<=i by omega),dk,dk,H,<-p] at inv
  have S:ai (2^32) z=a+b:=wn inv (by rw[p];exact er (cO _) (M1 kD (ji oM oM)));obtain ⟨h9,e,y,I,K⟩:=e.pub 0;replace e:=(e.to [] []).aS (SlO.of_flat (sz:=1) (f:=a8) (d:=0) (b:=x) (o:=0) (l:=z) (fun _=>rfl) y);exact ar 39 e (jM (sB x) (((max (lim a).length (lim b).length):Nat)+1:Nat) z (((max (lim a).length (lim b).length):Nat)+1:Nat) p oM oM _ _ e.g e.f.1) (fun _ _ e=>lL e ac (ae e [] (qS (sB x) (tl z (((max (lim a).length (lim b).length):Nat)+1:Nat)) (((max (lim a).length (lim b).length):Nat)+1:Nat)) (RN.trim J S p (nR _) e.f.1)))
 have B:=oT u;refine lB 19 u (ak (cK (cQ (kZ (aa e cG (ar 25 e (Ja A c (lim a) ((lim a).length) rfl i oM (Ld.lim _) _ _ e.g e.f.2.1) (fun _ _ e=>lV 26 (mV (j+((lim a).getD i 0))) ?_ (hr:=rU (((j:Int)+(((lim a).getD i 0:Nat):Int))) kR (fb j ((lim a).getD i 0) oM)))))))));refine lL e ax (ar 29 e (Ja D d (lim b) ((lim b).length) rfl i oM (Ld.lim _) _ _ e.g e.f.1) (fun _ Y e=>lV 30 (mV ((j+((lim a).getD i 0):Nat)+((lim b).getD i 0))) ?_ (hr:=rU ((((j+((lim a).getD i 0):Nat):Int)+(((lim b).getD i 0:Nat):Int))) kR (fb (j+((lim a).getD i 0):Nat) ((lim b).getD i 0) oM))));refine lL e ac (aG (lL e cG (lV 34 (mW (((j+((lim a).getD i 0):Nat)+((lim b).getD i 0):Nat)%(2^32))) ?_ (hr:=rT ((((j+((lim a).getD i 0):Nat)+((lim b).getD i 0):Nat):Int)) kR (g8 _)))));refine lX 35 (sB x) (((max (lim a).length (lim b).length):Nat)+1:Nat) (((max (lim a).length (lim b).length):Nat)+1:Nat) 1 (i:Nat) i rfl (lW 0 z a8 1 i (((j+((lim a).getD i 0):Nat)+((lim b).getD i 0):Nat)%(2^32):Nat) e oM (fun _ e=>?_));have X:((z).set i (((j+((lim a).getD i 0):Nat)+((lim b).getD i 0):Nat)%(2^32):Nat)).length=(((max (lim a).length (lim b).length):Nat)+1:Nat):=by rw[NI];exact p
 replace e:=e.to [⟨x,153,((z).set i (((j+((lim a).getD i 0):Nat)+((lim b).getD i 0):Nat)%(2^32):Nat)).flatMap a8⟩] [];refine lN (kQ (lL e ac (lV 37 (mV (((j+((lim a).getD i 0):Nat)+((lim b).getD i 0):Nat)/(2^32))) ?_ (hr:=aK (n:=NW (((j+((lim a).getD i 0):Nat)+((lim b).getD i 0):Nat):Int) (2^32)) kR (eN _ (2^32))))));refine lL e ac (lN (kQ (lL e ac (bw 21 ((i:Nat)+1) (i+1) ?_))));refine lL e ac (lD ?_);intro a_ O;refine ⟨_,_,?_,⟨i+1,(z).set i (((j+((lim a).getD i 0):Nat)+((lim b).getD i 0):Nat)%(2^32):Nat),(((j+((lim a).getD i 0):Nat)+((lim b).getD i 0):Nat)/(2^32):Nat),Y,rfl,rfl,e.to _ _,oM,X,(J.set _ oM),oM,(by rw[CQ (t:=(lim a).getD i 0+(lim b).getD i 0) oM (hz i (nR _)) inv oM,aI,aI,MS];omega),(sv oM hz)⟩,O.to _ kR⟩
 omega
theorem mB (a A c)(hc:(lim a).length<=c)(b D d)(hd:(lim b).length<=d)(V:(lim a).length<=4000000000)(W:(lim b).length<=4000000000)(F:b<=a)(w h)(g:G w h)(hA:S3 A (lim a) h)(hD:S3 D (lim b) h):CR 174 #[.slice A ((lim a).length) c,.slice D ((lim b).length) d] w h (fun v h1=>RN h1 v (a-b)):=by
 have e:=(((sS g).aS hA).aS hD);have hlm:=dP F;refine go Tryz.func174 [(0,qS A ((lim a).length) c),(1,qS D ((lim b).length) d)] rfl (aa e ac (aG (lL e [.c,.v (nV ((lim a).length))] (lK 11 153 ((lim a).length) 1 4 (uW 0) a8 0 e (fun x w2 h3 e=>?_)))));have I:(Af ((lim a).length) 0).length=((lim a).length):=by simp
 refine lL e ac (aG (lL e ac (ag (aa e ac (aZ ?_)))));refine bH _ (CG.loop (fun L Γ Y=>∃ (i:Nat)(z:List Nat)(j:Nat)(h_:Hp),L=(lim a).length-i/\Γ=[(0,qS A ((lim a).length) c),(1,qS D ((lim b).length) d),(4,sZ),(5,qS (sB x) ((lim a).length) ((lim a).length)),(7,nV i),(6,mV j)]/\SS w h Y h_ [⟨x,153,(z).flatMap a8⟩] [] [S3 D (lim b),S3 A (lim a)]/\i<=(lim a).length/\z.length=(lim a).length/\Ld z/\j<=1/\ai (2^32) z+ai (2^32) ((lim b).take i)=ai (2^32) ((lim a).take i)+(2^32)^i*j/\(∀ k,i<=k->z.getD k 0=0)) _ ⟨0,Af ((lim a).length) 0,0,h3,rfl,rfl,e.to _ _,NY _,I,Ld.rep _,oM,(by rw[dQ];simp[ai]),fun k _=>eJ⟩ ?_);rintro _ _ w5 ⟨i,z,j,h6,hm7,rfl,e,hi,u,K,J,inv,hz⟩;have O:=(Ld.lim a).get i;have M:=(Ld.lim b).get i;refine cQ (aa e [.c,.c,.v (nV ((lim a).length))] ?_);cases p:(decide ((i:Int)<(((lim a).length:Nat):Int)))
 .
  have H:=oF p;refine lB 15 p (ah (CG.exit ?_))
  show CG _ _ _ _ _ _ _ _
  refine aa e ac ?_;have Q:i=(lim a).length:=by omega
  rw[Nj (show (lim a).length<=i by omega),Nj (show (lim b).length<=i by omega),dk,dk,Q,<-u] at inv
  have Z:ai (2^32) z=a-b:=BB K inv F;obtain ⟨h9,e,B,S,U⟩:=e.pub 0;replace e:=(e.to [] []).aS (SlO.of_flat (sz:=1) (f:=a8) (d:=0) (b:=x) (o:=0) (l:=z) (fun _=>rfl) B);exact ar 37 e (jM (sB x) ((lim a).length) z ((lim a).length) u oM oM _ _ e.g e.f.1) (fun _ _ e=>lL e ac (ae e [] (qS (sB x) (tl z ((lim a).length)) ((lim a).length)) (RN.trim K Z u (nR _) e.f.1)))
 have H:=oT p;refine lB 15 p (ak (cK (cQ (kZ (cQ (cR 11 [] mixed e ao ?_))))));refine eV 0 18 (qS A ((lim a).length) c) (eV 1 19 (nV i) (eX 2 20 A ((lim a).length) c 1 (i:Nat) i ((e.f.2.1).ok oM) (eH 3 21 (mW ((lim a).getD i 0)) e ((e.f.2.1).el i oM) (eV 4 22 (mV ((lim a).getD i 0)) ?_ (hv:=fun _=>rU ((((lim a).getD i 0:Nat):Int)) kR (bh oM oM))))));refine eV 5 23 (qS D ((lim b).length) d) (eV 6 24 (nV i) (eV 9 27 (mV j) (au 7 25 e (fun _ _ e=>Ja D d (lim b) ((lim b).length) rfl i oM (Ld.lim _) _ _ e.g e.f.1) (fun _ _ e=>eV 8 26 (mV ((((lim a).getD i 0)+((2^64)-((lim b).getD i 0)))%(2^64))) ?_ (hv:=fun _=>rU (((((lim a).getD i 0:Nat):Int)-(((lim b).getD i 0:Nat):Int))) kR (lM ((lim a).getD i 0) ((lim b).getD i 0) oM))))));refine eV 10 28 (mV ((((((lim a).getD i 0)+((2^64)-((lim b).getD i 0)))%(2^64):Nat)+((2^64)-j))%(2^64))) ?_ (hv:=fun _=>rU (((((((lim a).getD i 0)+((2^64)-((lim b).getD i 0)))%(2^64):Nat):Int)-(j:Int))) kR (lM ((((lim a).getD i 0)+((2^64)-((lim b).getD i 0)))%(2^64):Nat) j oM));refine bM e (fun _ zb e=>tV 11 8 (mV ((((((lim a).getD i 0)+((2^64)-((lim b).getD i 0)))%(2^64):Nat)+((2^64)-j))%(2^64))) (rm ?_));obtain ⟨t,ht⟩:∃ t,t=((((((lim a).getD i 0)+((2^64)-((lim b).getD i 0)))%(2^64):Nat)+((2^64)-j))%(2^64):Nat):=⟨_,rfl⟩;obtain ⟨y,C⟩:=Cd O M J ht;rw[ht] at y C
 refine lL e cG (lV 32 (mW (((((((lim a).getD i 0)+((2^64)-((lim b).getD i 0)))%(2^64):Nat)+((2^64)-j))%(2^64):Nat)%(2^32))) ?_ (hr:=rT ((((((((lim a).getD i 0)+((2^64)-((lim b).getD i 0)))%(2^64):Nat)+((2^64)-j))%(2^64):Nat):Int)) kR (g8 _)));refine lX 33 (sB x) ((lim a).length) ((lim a).length) 1 (i:Nat) i rfl (lW 0 z a8 1 i (((((((lim a).getD i 0)+((2^64)-((lim b).getD i 0)))%(2^64):Nat)+((2^64)-j))%(2^64):Nat)%(2^32):Nat) e oM (fun _ e=>?_));have za:((z).set i (((((((lim a).getD i 0)+((2^64)-((lim b).getD i 0)))%(2^64):Nat)+((2^64)-j))%(2^64):Nat)%(2^32):Nat)).length=((lim a).length):=by rw[NI];exact u
 replace e:=e.to [⟨x,153,((z).set i (((((((lim a).getD i 0)+((2^64)-((lim b).getD i 0)))%(2^64):Nat)+((2^64)-j))%(2^64):Nat)%(2^32):Nat)).flatMap a8⟩] [];refine lN (kQ (lL e ac (lV 35 (mV (((((((lim a).getD i 0)+((2^64)-((lim b).getD i 0)))%(2^64):Nat)+((2^64)-j))%(2^64):Nat)/(2^63))) ?_ (hr:=aK (n:=NW (((((((lim a).getD i 0)+((2^64)-((lim b).getD i 0)))%(2^64):Nat)+((2^64)-j))%(2^64):Nat):Int) (2^63)) kR (eN _ (2^63))))));refine lL e ac (lN (kQ (lL e ac (bw 17 ((i:Nat)+1) (i+1) ?_))));refine lL e ac (lD ?_);intro a_ X;refine ⟨_,_,?_,⟨i+1,(z).set i (((((((lim a).getD i 0)+((2^64)-((lim b).getD i 0)))%(2^64):Nat)+((2^64)-j))%(2^64):Nat)%(2^32):Nat),(((((((lim a).getD i 0)+((2^64)-((lim b).getD i 0)))%(2^64):Nat)+((2^64)-j))%(2^64):Nat)/(2^63):Nat),zb,rfl,rfl,e.to _ _,oM,za,(K.set _ oM),C,(Es oM (hz i (nR _)) inv y),(sv oM hz)⟩,X.to _ kR⟩
 omega
theorem Hl {x y:Nat}(c:x<(2^32))(a:y<(2^32)):x*y<=18446744065119617025:=NF (show x<=4294967295 by omega) (show y<=4294967295 by omega)
theorem Aa {a b q r:Nat}(h:a=b*q+r)(hr:r<b):q=a/b/\r=a%b:=by
 subst h;rw[NK oM,MN hr,Nat.mul_add_mod,Am hr];simp
theorem oQ {l:List Nat}{k j x:Nat}(hk:k<l.length)(h:∀ i,j<=i->l.getD i 0=0)(a:k<j):∀ i,j<=i->(l.set k x).getD i 0=0:=fun i hi=>by rw[bF hk,if_neg oM];exact h i hi
theorem pN (a A c)(hc:(lim a).length<=c)(b D d)(hd:(lim b).length<=d)(hLa:(lim a).length<=4000000000)(hLb:(lim b).length<=4000000000)(w h)(g:G w h)(hA:S3 A (lim a) h)(hD:S3 D (lim b) h):CR 130 #[.slice A ((lim a).length) c,.slice D ((lim b).length) d] w h (fun v h1=>RN h1 v (a*b)):=by
 have e:=(((sS g).aS hA).aS hD);refine go Tryz.func130 [(0,qS A ((lim a).length) c),(1,qS D ((lim b).length) d)] rfl (aa e ac (aG (lL e [.c,.v (nV ((lim a).length)),.c,.v (nV ((lim b).length))] (bw 13 (((lim a).length:Nat)+((lim b).length:Nat)) (((lim a).length)+((lim b).length)) ?_))));refine lK 14 153 (((lim a).length)+((lim b).length):Nat) 1 4 (uW 0) a8 0 e (fun u w2 h3 e=>?_);have M:(Af (((lim a).length)+((lim b).length):Nat) 0).length=(((lim a).length)+((lim b).length):Nat):=by simp
 refine lL e ac (ag (aa e ac (aZ ?_)));refine bH _ (CG.loop (fun C Γ O=>∃ (i:Nat)(l:List Nat)(h_:Hp),C=(lim a).length-i/\Γ=[(0,qS A ((lim a).length) c),(1,qS D ((lim b).length) d),(4,sZ),(5,qS (sB u) (((lim a).length)+((lim b).length):Nat) (((lim a).length)+((lim b).length):Nat)),(6,nV i)]/\SS w h O h_ [⟨u,153,(l).flatMap a8⟩] [] [S3 D (lim b),S3 A (lim a)]/\i<=(lim a).length/\l.length=(lim a).length+(lim b).length/\Ld l/\ai (2^32) l=ai (2^32) ((lim a).take i)*b/\(∀ k,i+(lim b).length<=k->l.getD k 0=0)) _ ⟨0,Af (((lim a).length)+((lim b).length):Nat) 0,h3,rfl,rfl,e.to _ _,NY _,M,Ld.rep _,(by rw[dQ];simp[ai]),fun k _=>eJ⟩ ?_);rintro _ _ w5 ⟨i,l,h6,hm7,rfl,e,hi,F,Y,hv,hz⟩;have V:=(Ld.lim a).get i;refine cQ (aa e [.c,.c,.v (nV ((lim a).length))] ?_);cases x:(decide ((i:Int)<(((lim a).length:Nat):Int)))
 .
  have J:=oF x;refine lB 18 x (ah (CG.exit ?_))
  show CG _ _ _ _ _ _ _ _
  refine aa e ac ?_;have S:i=(lim a).length:=by omega
  rw[S,y8,dk] at hv;have hE:ai (2^32) l=a*b:=hv;obtain ⟨h9,e,I,X,Z⟩:=e.pub 0;replace e:=(e.to [] []).aS (SlO.of_flat (sz:=1) (f:=a8) (d:=0) (b:=u) (o:=0) (l:=l) (fun _=>rfl) I);exact ar 66 e (jM (sB u) (((lim a).length)+((lim b).length):Nat) l (((lim a).length)+((lim b).length):Nat) F oM oM _ _ e.g e.f.1) (fun _ _ e=>lL e ac (ae e [] (qS (sB u) (tl l (((lim a).length)+((lim b).length):Nat)) (((lim a).length)+((lim b).length):Nat)) (RN.trim Y hE F (nR _) e.f.1)))
 have J:=oT x;refine lB 18 x (ak (cK (cQ (kZ (aa e ac (ag (aa e ac (aZ ?_))))))));refine bH _ (CG.loop (fun C Γ O=>∃ (j:Nat)(l2:List Nat)(p:Nat)(h_:Hp),C=(lim b).length-j/\Γ=[(0,qS A ((lim a).length) c),(1,qS D ((lim b).length) d),(4,sZ),(5,qS (sB u) (((lim a).length)+((lim b).length):Nat) (((lim a).length)+((lim b).length):Nat)),(6,nV i),(8,nV j),(7,mV p)]/\SS w h O h_ [⟨u,153,(l2).flatMap a8⟩] [] [S3 D (lim b),S3 A (lim a)]/\j<=(lim b).length/\l2.length=(lim a).length+(lim b).length/\Ld l2/\p<(2^32)/\ai (2^32) l2+(2^32)^(i+j)*p=ai (2^32) l+(2^32)^i*((lim a).getD i 0*ai (2^32) ((lim b).take j))/\(∀ k,i+(lim b).length<=k->l2.getD k 0=0)) _ ⟨0,l,0,h6,rfl,rfl,e.to _ _,NY _,F,Y,by omega,(by simp[ai]),hz⟩ ?_);rintro _ _ _ ⟨j,l2,p,ze,W,rfl,e,hj,y,z,hcy,inv,B⟩;have U:=(Ld.lim b).get j;have hlk:=z.get (i+j);have hxy:=Hl V U;refine cQ (aa e [.c,.c,.v (nV ((lim b).length))] ?_);cases K:(decide ((j:Int)<(((lim b).length:Nat):Int)))
 .
  have zb:=oF K;refine lB 24 K (ah (CG.exit ?_))
  show CG _ _ _ _ _ _ _ _
  refine kQ (lL e [.c,.c,.c,.v (nV ((lim b).length))] (bw 61 ((i:Nat)+((lim b).length:Nat)) (i+((lim b).length)) ?_));refine lL e ac (lV 63 (mW (p%(2^32))) ?_ (hr:=rT ((p:Int)) kR (g8 _)));refine lX 64 (sB u) (((lim a).length)+((lim b).length):Nat) (((lim a).length)+((lim b).length):Nat) 1 (i+((lim b).length):Nat) (i+((lim b).length):Nat) rfl (lW 0 l2 a8 1 (i+((lim b).length):Nat) (p%(2^32)) e oM (fun _ e=>?_));have zc:((l2).set (i+((lim b).length):Nat) (p%(2^32))).length=(((lim a).length)+((lim b).length):Nat):=by rw[NI];exact y
  replace e:=e.to [⟨u,153,((l2).set (i+((lim b).length):Nat) (p%(2^32))).flatMap a8⟩] [];refine lN (kQ (lL e ac (bw 20 ((i:Nat)+1) (i+1) ?_)));refine lL e ac (lD ?_);intro a_ L;refine ⟨_,_,?_,⟨i+1,(l2).set (i+((lim b).length):Nat) (p%(2^32)),ze,rfl,rfl,e.to _ _,oM,zc,(z.set _ oM),(by have Q:j=(lim b).length:=oM;rw[Q] at inv;have H:=vz oM inv (B _ oM);rw[dk] at H;rw[show p%(2^32)=p by omega];exact H.trans (vg hv)),(oQ oM (fun k hk=>B k oM) oM)⟩,L.to _ kR⟩
  omega
 have zb:=oT K;refine lB 24 K (ak (cK (cQ (kZ (cQ (cR 21 [] mixed e ao ?_))))));refine eV 0 27 (mV p) (eV 1 28 (qS (sB u) (((lim a).length)+((lim b).length):Nat) (((lim a).length)+((lim b).length):Nat)) (eV 2 29 (nV i) (eV 3 30 (nV j) (kL 4 31 ((i:Nat)+(j:Nat)) (i+j) (eX 5 32 (sB u) (((lim a).length)+((lim b).length):Nat) (((lim a).length)+((lim b).length):Nat) 1 (i+j:Nat) (i+j) rfl (eQ 6 33 0 l2 a8 1 0 (i+j) (mW ((l2).getD (i+j) 0)) e oM (eV 7 34 (mV ((l2).getD (i+j) 0)) ?_ (hv:=fun _=>rU ((((l2).getD (i+j) 0:Nat):Int)) kR (bh oM oM)))))))));refine eV 8 35 (mV (p+((l2).getD (i+j) 0))) ?_ (hv:=fun _=>rU (((p:Int)+(((l2).getD (i+j) 0:Nat):Int))) kR (fb p ((l2).getD (i+j) 0) oM));refine eV 9 36 (qS A ((lim a).length) c) (eV 10 37 (nV i) (eX 11 38 A ((lim a).length) c 1 (i:Nat) i ((e.f.2.1).ok oM) (eH 12 39 (mW ((lim a).getD i 0)) e ((e.f.2.1).el i oM) (eV 13 40 (mV ((lim a).getD i 0)) ?_ (hv:=fun _=>rU ((((lim a).getD i 0:Nat):Int)) kR (bh oM oM))))));refine eV 14 41 (qS D ((lim b).length) d) (eV 15 42 (nV j) (eX 16 43 D ((lim b).length) d 1 (j:Nat) j ((e.f.1).ok oM) (eH 17 44 (mW ((lim b).getD j 0)) e ((e.f.1).el j oM) (eV 18 45 (mV ((lim b).getD j 0)) ?_ (hv:=fun _=>rU ((((lim b).getD j 0:Nat):Int)) kR (bh oM oM))))));refine eV 19 46 (mV (((lim a).getD i 0)*((lim b).getD j 0))) ?_ (hv:=fun _=>rU (((((lim a).getD i 0:Nat):Int)*(((lim b).getD j 0:Nat):Int))) kR (jN ((lim a).getD i 0) ((lim b).getD j 0) oM));refine eV 20 47 (mV ((p+((l2).getD (i+j) 0):Nat)+(((lim a).getD i 0)*((lim b).getD j 0):Nat))) ?_ (hv:=fun _=>rU ((((p+((l2).getD (i+j) 0):Nat):Int)+((((lim a).getD i 0)*((lim b).getD j 0):Nat):Int))) kR (fb (p+((l2).getD (i+j) 0):Nat) (((lim a).getD i 0)*((lim b).getD j 0):Nat) oM));refine bM e (fun _ zf e=>tV 21 7 (mV ((p+((l2).getD (i+j) 0):Nat)+(((lim a).getD i 0)*((lim b).getD j 0):Nat))) (rm (lL e cG (bw 51 ((i:Nat)+(j:Nat)) (i+j) ?_))));refine lL e ac (lV 53 (mW (((p+((l2).getD (i+j) 0):Nat)+(((lim a).getD i 0)*((lim b).getD j 0):Nat):Nat)%(2^32))) ?_ (hr:=rT ((((p+((l2).getD (i+j) 0):Nat)+(((lim a).getD i 0)*((lim b).getD j 0):Nat):Nat):Int)) kR (g8 _)));refine lX 54 (sB u) (((lim a).length)+((lim b).length):Nat) (((lim a).length)+((lim b).length):Nat) 1 (i+j:Nat) (i+j) rfl (lW 0 l2 a8 1 (i+j) (((p+((l2).getD (i+j) 0):Nat)+(((lim a).getD i 0)*((lim b).getD j 0):Nat):Nat)%(2^32):Nat) e oM (fun _ e=>?_));have zd:((l2).set (i+j) (((p+((l2).getD (i+j) 0):Nat)+(((lim a).getD i 0)*((lim b).getD j 0):Nat):Nat)%(2^32):Nat)).length=(((lim a).length)+((lim b).length):Nat):=by rw[NI];exact y
 replace e:=e.to [⟨u,153,((l2).set (i+j) (((p+((l2).getD (i+j) 0):Nat)+(((lim a).getD i 0)*((lim b).getD j 0):Nat):Nat)%(2^32):Nat)).flatMap a8⟩] [];refine lN (kQ (lL e ac (lV 56 (mV (((p+((l2).getD (i+j) 0):Nat)+(((lim a).getD i 0)*((lim b).getD j 0):Nat):Nat)/(2^32))) ?_ (hr:=aK (n:=NW (((p+((l2).getD (i+j) 0):Nat)+(((lim a).getD i 0)*((lim b).getD j 0):Nat):Nat):Int) (2^32)) kR (eN _ (2^32))))));refine lL e ac (lN (bH [(0,qS A ((lim a).length) c),(1,qS D ((lim b).length) d),(4,sZ),(5,qS (sB u) (((lim a).length)+((lim b).length):Nat) (((lim a).length)+((lim b).length):Nat)),(6,nV i),(8,nV j),(7,mV (((p+((l2).getD (i+j) 0):Nat)+(((lim a).getD i 0)*((lim b).getD j 0):Nat):Nat)/(2^32)))] ?_));refine kQ (lL e ac (bw 26 ((j:Nat)+1) (j+1) ?_));refine lL e ac (lD ?_);intro a_ L;refine ⟨_,_,?_,⟨j+1,(l2).set (i+j) (((p+((l2).getD (i+j) 0):Nat)+(((lim a).getD i 0)*((lim b).getD j 0):Nat):Nat)%(2^32):Nat),(((p+((l2).getD (i+j) 0):Nat)+(((lim a).getD i 0)*((lim b).getD j 0):Nat):Nat)/(2^32):Nat),zf,rfl,rfl,e.to _ _,oM,zd,(z.set _ oM),oM,(nk oM inv oM),(oQ oM B oM)⟩,L.to _ kR⟩
 omega
theorem LO (a A c)(hc:(lim a).length<=c)(W:(lim a).length<=4000000000)(d)(C:0<d)(hd:d<(2^32))(w h)(g:G w h)(hA:S3 A (lim a) h):CR 198 #[.slice A ((lim a).length) c,mW d] w h (fun v h1=>∃ S,∃ r:Nat,v=.tuple #[S,mW r]/\RN h1 S (a/d)/\r=a%d):=by
 have e:=((sS g).aS hA);refine go Tryz.func198 [(0,qS A ((lim a).length) c),(1,mW d)] rfl (aa e ax (aG (lL e [.c,.v (nV ((lim a).length))] (lK 11 153 ((lim a).length) 1 4 (uW 0) a8 0 e (fun p w2 h3 e=>?_)))));have M:(Af ((lim a).length) 0).length=((lim a).length):=by simp
 refine lL e ac (aG (lL e ac (ag (aa e [.c,.v (nV ((lim a).length))] (lV 14 (iV ((((lim a).length:Nat):Int)-1)) ?_ (hr:=rS ((((lim a).length:Nat)-1)) kR ((g5 oM oM).trans oM)))))));refine lL e ac (aZ ?_);refine bH _ (CG.loop (fun O Γ Y=>∃ (m:Nat)(z:List Nat)(r:Nat)(h_:Hp),O=m/\Γ=[(0,qS A ((lim a).length) c),(1,mW d),(4,sZ),(5,uW 0),(6,qS (sB p) ((lim a).length) ((lim a).length)),(8,iV ((m:Int)-1)),(7,mV r)]/\SS w h Y h_ [⟨p,153,(z).flatMap a8⟩] [] [S3 A (lim a)]/\m<=(lim a).length/\z.length=(lim a).length/\Ld z/\a=d*ai (2^32) z+((2^32)^m*r+ai (2^32) ((lim a).take m))/\r<d/\(∀ k,k<m->z.getD k 0=0)) _ ⟨(lim a).length,Af ((lim a).length) 0,0,h3,rfl,rfl,e.to _ _,nR _,M,Ld.rep _,(by rw[dQ,y8,dk];simp),C,fun k _=>eJ⟩ ?_);rintro _ _ w5 ⟨m,z,r,h6,hm7,rfl,e,hm,B,V,inv,hr,hz⟩;have H:=(Ld.lim a).get (m-1);refine cQ (aa e ac ?_);cases i:(decide ((0:Int)<=((m:Int)-1:Int)))
 .
  have I:=oF i;refine lB 16 i (ah (CG.exit ?_))
  show CG _ _ _ _ _ _ _ _
  refine aa e ac ?_;have L:m=0:=by omega
  rw[L,NZ,Nk,List.take_zero] at inv;have D:a=d*ai (2^32) z+r:=by simpa [ai] using inv
  obtain ⟨J,K⟩:=Aa D hr;have Z:ai (2^32) z=a/d:=J;obtain ⟨h9,e,F,Q,U⟩:=e.pub 0;replace e:=(e.to [] []).aS (SlO.of_flat (sz:=1) (f:=a8) (d:=0) (b:=p) (o:=0) (l:=z) (fun _=>rfl) F);refine ar 40 e (jM (sB p) ((lim a).length) z ((lim a).length) B oM oM _ _ e.g e.f.1) (fun _ _ e=>lL e ac (lV 42 (mW r) ?_ (hr:=aK (aK (n:=IntKind.wrap .u32 (r:Int)) kR (g8 _)) oM)));exact lL e ax (ae e [] (.tuple #[qS (sB p) (tl z ((lim a).length)) ((lim a).length),mW r]) (⟨_,r,rfl,RN.trim V Z B (nR _) e.f.1,K⟩))
 have I:=oT i;refine lB 16 i (ak (cK (cQ (kZ (aa e ac (lV 20 (mV (r*(2^32)%(2^64))) ?_ (hr:=rU (((r:Int)*(2^32))) kR (kf r (2^32)))))))));refine lL e ax (lX 23 A ((lim a).length) c 1 ((m:Int)-1) (m-1) ((e.f.1).ok oM) ?_);refine lH 24 (mW ((lim a).getD (m-1) 0)) e ((e.f.1).el (m-1) oM) (lV 25 (mV ((lim a).getD (m-1) 0)) ?_ (hr:=rU ((((lim a).getD (m-1) 0:Nat):Int)) kR (bh oM oM)));refine lV 26 (mV (r*(2^32)+(lim a).getD (m-1) 0)) ?_ (hr:=aK (iO (t:=42) (u:=42) (x:=.tmp 20) (y:=.tmp 25) (a:=(r*(2^32)%(2^64))) (b:=((lim a).getD (m-1) 0)) kR kR kR oM oM _) (by rw[Am (show r*(2^32)<(2^64) by omega),tg H]));refine lL e ac (aG (lL e m4 (lV 31 (mV d) ?_ (hr:=rU ((d:Int)) kR (bh oM oM)))));have j:=wu (r:=r) (x:=(lim a).getD (m-1) 0) C hr H hd;refine lV 32 (mV ((r*(2^32)+(lim a).getD (m-1) 0)/d)) ?_ (hr:=aK (dU (t:=42) (u:=42) (x:=.tmp 29) (y:=.tmp 31) (k:=.u64) (a:=((r*(2^32)+(lim a).getD (m-1) 0:Nat):Int)) (b:=(d:Int)) kR kR kR oM _) (lk (r*(2^32)+(lim a).getD (m-1) 0) d oM));refine lV 33 (mW (((r*(2^32)+(lim a).getD (m-1) 0)/d:Nat)%(2^32))) ?_ (hr:=rT ((((r*(2^32)+(lim a).getD (m-1) 0)/d:Nat):Int)) kR (g8 _));refine lX 34 (sB p) ((lim a).length) ((lim a).length) 1 ((m:Int)-1) (m-1) rfl (lW 0 z a8 1 (m-1) (((r*(2^32)+(lim a).getD (m-1) 0)/d:Nat)%(2^32):Nat) e oM (fun _ e=>?_));have za:((z).set (m-1) (((r*(2^32)+(lim a).getD (m-1) 0)/d:Nat)%(2^32):Nat)).length=((lim a).length):=by rw[NI];exact B
 replace e:=e.to [⟨p,153,((z).set (m-1) (((r*(2^32)+(lim a).getD (m-1) 0)/d:Nat)%(2^32):Nat)).flatMap a8⟩] [];refine lN (kQ (lL e ax (lV 37 (mV d) ?_ (hr:=rU ((d:Int)) kR (bh oM oM)))));refine lV 38 (mV ((r*(2^32)+(lim a).getD (m-1) 0)%d)) ?_ (hr:=aK (fP (t:=42) (u:=42) (x:=.tmp 35) (y:=.tmp 37) (k:=.u64) (a:=((r*(2^32)+(lim a).getD (m-1) 0:Nat):Int)) (b:=(d:Int)) kR kR kR oM _) (dH (r*(2^32)+(lim a).getD (m-1) 0) d));refine lL e ac (lN (kQ (lL e ac (lV 18 (iV (((m-1:Nat):Int)-1)) ?_ (hr:=rS ((((m:Int)-1)-1)) kR ((g5 oM oM).trans oM))))));refine lL e ac (lD ?_);intro a_ X;refine ⟨_,_,?_,⟨m-1,(z).set (m-1) (((r*(2^32)+(lim a).getD (m-1) 0)/d:Nat)%(2^32):Nat),((r*(2^32)+(lim a).getD (m-1) 0)%d:Nat),h6,rfl,rfl,e.to _ _,oM,za,(V.set _ (As _ kD)),(by rw[j.1];exact Be oM oM (hz _ oM) inv j.2.1),j.2.2,(fun k hk=>by rw[bF oM,if_neg oM];exact hz k oM)⟩,X.to _ kR⟩
 omega
theorem tO {B:List Bx}:∀ (ps:List (Nat × Nat × Nat)) (q:Nat) (a:Addr),(cJ B ps)[q]?=some a->∃ p∈ps,a.block=(aw B p.1).b:=by
  intro ps;induction ps with
  | nil=>intro q a h;simp[cJ] at h
  | cons p ps ih =>
    intro q a h;unfold cJ at h;rcases ea q (mn (aw B p.1).b p.2.1 p.2.2).length with hl|hl
    . rw[wj hl] at h
      exact ⟨p,by simp,by rw[fG _ _ _ _ _ h]⟩
    . rw[yz hl] at h
      obtain ⟨d,c,e⟩:=ih _ _ h;exact ⟨d,by simp[c],e⟩
section
variable {M:Ms}{P:Program}{n:Nat}{N R:Po}{X:Nat->Po}{ops:Array Oper}{k k0:Nat}{L:Array Bool}{Γ:cC}{w:World}{h:Hp}{w0:World}{h0:Hp}{B:List Bx}{Rs:List Rw}{F:List (Hp->Prop)}
theorem Lc {α:Type}(j)(l:List α)(f:α->List Value)(sz e)(x:α)(s:SS w0 h0 w h B Rs F)(hk:e<l.length)(H:∀ w',Put (aw B j).b w w'->SS w0 h0 w' h (iP B j ((l.set e x).flatMap f)) Rs F->LG P n N R X ops (k+1) Γ w')(c:cS ops Γ k=true:=by kernel_rfl)
  (a:decide (j<B.length)=true:=by kernel_rfl)(hB:(aw B j).vs=l.flatMap f:=by kernel_rfl)(hf:∀ x,(f x).length=sz:=by intro _;rfl)
  (i:d8 P (execOp (ev Γ) (am ops k))=some (.skip,od (aw B j).b (0+e*sz) (f x)):=by kernel_rfl):LG P n N R X ops k Γ w :=
 LG.putA j l f sz e x s.st s.g0 (iR c).1 (iR c).2 a hB hf hk i (fun w' p d=>H w' p (s.put0 (oT a) p d (li (oT a))))
theorem Mw {α:Type}(i j)(l:List α)(f:α->List Value)(sz e)(x:α)(s:SS w0 h0 w h B Rs F)(hk:e<l.length)(H:∀ w',Put (aw B j).b w w'->SS w0 h0 w' h (iP B j ((l.set e x).flatMap f)) Rs F->AG M P n N R X ops k0 (L.setIfInBounds i true) Γ w')(c:Jb ops k0 L Γ i=true:=by kernel_rfl)
  (a:decide (j<B.length)=true:=by kernel_rfl)(hB:(aw B j).vs=l.flatMap f:=by kernel_rfl)(hf:∀ x,(f x).length=sz:=by intro _;rfl)
  (o:d8 P (execOp (ev Γ) (am ops i))=some (.skip,od (aw B j).b (0+e*sz) (f x)):=by kernel_rfl)(hz:∀ K bs,M.z=some (K,bs)->K<=(aw B j).b\/(aw B j).b∈bs:=by intro _ _ e;cases e):AG M P n N R X ops k0 L Γ w :=
 T.putA i j l f sz e x s.st s.g0 (lp c).1 (lp c).2 a hB hf hk o (fun w' p d=>H w' p (s.put0 (oT a) p d (li (oT a)))) hz
theorem aQ {α:Type}(i t j)(l:List α)(f:α->List Value)(sz)(d:α)(e v)(s:SS w0 h0 w h B Rs F)(hk:e<l.length)(H:AG M P n N R X ops k0 (L.setIfInBounds i true) ((t,v)::Γ) w)(hM:(aw B j).b ∉ M.l:=by exact List.not_mem_nil)(o:Dr n ops k0 [] L Γ i t=true:=by kernel_rfl)
  (z:decide (j<B.length)=true:=by kernel_rfl)(hB:(aw B j).vs=l.flatMap f:=by kernel_rfl)(hf:∀ x,(f x).length=sz:=by intro _;rfl)
  (C:cc P (execOp (ev Γ) (am ops i)) (f (l.getD e d))=some (.value v,mn (aw B j).b (0+e*sz) (f (l.getD e d)).length):=by kernel_rfl):AG M P n N R X ops k0 L Γ w :=
 aL i t v (fun w' y=>db _ _ _ _ C (fun q a u ha c=>by
  rw[fG _ _ _ _ _ ha,((s.st.own _ (bC (oT z))).mo y hM).cell,hB];rw[<-gj hf d l e hk] at c
  have p:q<sz:=by
   rcases ea q sz with hl|hl
   ·exact hl
   ·rw[ua (by simp;omega)] at c;cases c
  rw[yh p,yy] at c;rw[z6];exact c)) H o
theorem Er (t j){f:FuncId}{args:Array Value}{Φ:Value->Prop}(s:SS w0 h0 w h B Rs F)(c:∀ hp,G w hp->AllF F hp->Seg hp (aw B j).b 0 (aw B j).vs->Calls P f args w (Ret w hp (fun v _=>Φ v)))(H:∀ v w' a,Up w h w' a->SS w0 h0 w' a B Rs F->Φ v->LG P n N R X ops (k+1) ((t,v)::Γ) w')(i:decide (j<B.length)=true:=by kernel_rfl)(e:cL ops Γ k t n=true:=by kernel_rfl)(hr:(execOp (ev Γ) (am ops k)).run P w=.ok (.enter f args) w:=by kernel_rfl):LG P n N R X ops k Γ w :=
 lz t (s.lends (oT i) c) (fun v w' a u d=>H v w' a u (s.step u) d) e hr
theorem SS.lends2 (s:SS w0 h0 w h B Rs F){i j:Nat}(hi:i<B.length)(J:j<B.length)(y:i≠j){f:FuncId}{args:Array Value}{Φ:Value->Prop}(c:∀ a,G w a->AllF F a->Seg a (aw B i).b 0 (aw B i).vs->Seg a (aw B j).b 0 (aw B j).vs->Calls P f args w (Ret w a (fun v _=>Φ v))):Calls P f args w (Ret w h (fun v _=>Φ v)):=by
 have D:=bC hi;have l:=bC J;have M:(aw B j).b≠(aw B i).b:=gU s.st (decide_eq_true J) (decide_eq_true hi) (by simpa using y.symm);obtain ⟨a,g,gw,Q,H⟩:=DG s.g (s.st.jk _ D) (s.st.own _ D);have o:a[(aw B j).b]?=some bp:=by rw[H _ M];exact s.st.jk _ l
 obtain ⟨x,I,d,p,z⟩:=DG g o (s.st.own _ l);refine (c x I ((s.f.gw s.mo gw).gw s.mo d) (Q.gw d) p).mono ?_;rintro e w' ⟨v,S,O,u,C⟩;obtain ⟨h1,u1⟩:=uw o z (g.sz I) u;obtain ⟨K,L⟩:=uw (s.st.jk _ D) H (s.g.sz g) u1;exact ⟨v,K,O,L,C⟩
theorem Lu (t i j){f:FuncId}{args:Array Value}{Φ:Value->Prop}(s:SS w0 h0 w h B Rs F)(c:∀ hp,G w hp->AllF F hp->Seg hp (aw B i).b 0 (aw B i).vs->Seg hp (aw B j).b 0 (aw B j).vs->Calls P f args w (Ret w hp (fun v _=>Φ v)))(H:∀ v w' h',SS w0 h0 w' h' B Rs F->Φ v->LG P n N R X ops (k+1) ((t,v)::Γ) w')(a:(decide (i<B.length) && decide (j<B.length) && (i != j))=true:=by kernel_rfl)(d:cL ops Γ k t n=true:=by kernel_rfl)(hr:(execOp (ev Γ) (am ops k)).run P w=.ok (.enter f args) w:=by kernel_rfl):LG P n N R X ops k Γ w:=by
 simp only[lu,decide_eq_true_eq,bne_iff_ne,ne_eq] at a;exact lC t s (s.lends2 a.1.1 a.1.2 a.2 c) H d hr
theorem ES {w w':World}{h i f:Hp}{b:Nat}{M:List Nat}(o:h[b]?=some bp)(p:∀ c,c≠b->i[c]?=h[c]?)(j:i.size=h.size)(u:UpM M w i w' f):∃ d,UpM M w h w' d/\(∀ c,c≠b->d[c]?=f[c]?):=by
 have x:=aW o;have a:b<f.size:=er oM u.gr.size;refine ⟨f.setIfInBounds b bp,⟨u.mo,⟨by simp;rw[<-j];exact u.gr.size,fun c l=>?_⟩,⟨by simp;exact u.g.size,fun c=>?_⟩⟩,fun c l=>la (Ne.symm l)⟩
 ·by_cases e:b=c
  ·subst e;rw[Bs a,o]
  ·rw[la e,u.gr.blk c oM,p c (Ne.symm e)]
 ·by_cases e:b=c
  ·subst e;right;rw[Bs a]
  ·rw[la e];exact u.g.blk c
theorem JK (t i j){f:FuncId}{args:Array Value}{Φ:Value->World->Prop}(s:SS w0 h0 w h B Rs F)(c:∀ d,G w d->AllF F d->d[(aw B i).b]?=some bp->Seg d (aw B j).b 0 (aw B j).vs->Calls P f args w (fl (aw B i).b w d (fun v w' _=>Φ v w')))(H:∀ v w' o,UpM [(aw B i).b] w h w' o->Φ v w'->LG P n N R X ops (k+1) ((t,v)::Γ) w')(a:(decide (i<B.length) && decide (j<B.length) && (i != j))=true:=by kernel_rfl)(z:cL ops Γ k t n=true:=by kernel_rfl)(hr:(execOp (ev Γ) (am ops k)).run P w=.ok (.enter f args) w:=by kernel_rfl):LG P n N R X ops k Γ w:=by
 simp only[lu,decide_eq_true_eq,bne_iff_ne,ne_eq] at a;have x:=bC a.1.2;have C:(aw B i).b≠(aw B j).b:=gU s.st (decide_eq_true a.1.1) (decide_eq_true a.1.2) (by simpa using a.2);obtain ⟨d,g,gw,J,y⟩:=DG s.g (s.st.jk _ x) (s.st.own _ x);refine gH (rb:=(aw B i).b) (Φ:=fun v w' _=>Φ v w') (h:=h) t ((c d g (s.f.gw s.mo gw) (by rw[y _ C];exact s.st.jk _ (bC a.1.1)) J).mono ?_) (fun v w' o u l=>H v w' o u l) z hr;rintro e w' ⟨v,o,I,u,l⟩;obtain ⟨p,D,_⟩:=ES (s.st.jk _ x) y (s.g.sz g) u;exact ⟨v,p,I,D,l⟩
theorem MJ {α:Type}(t j)(x y:Operand)(D e)(f:α->List Value)(d:α)(A)(l2:List α)(m m2 c U)(s:SS w0 h0 w h B Rs F)(so:SlO 1 f d h A l2)(K:l2.length=m2)(O:m2=m)(V:0<m)(i:(aw B j).vs.length=m)
  (H:∀ w',SS w0 h0 w' h (iP B j (l2.flatMap f)) Rs F->LG P n N R X ops (k+1) ((t,.int .i64 (m:Nat))::Γ) w')(S:m<=(2^40):=by omega)(I:cL ops Γ k t n=true:=by kernel_rfl)(hj:decide (j<B.length)=true:=by kernel_rfl)
  (hf:∀ x,(f x).length=1:=by intro _;rfl)(h1:∀ x,(f x).all (·.oneCell')=true:=by intro _;kernel_rfl)(Z:(am ops k).op=.call { callee:=.builtin .copy,args:=#[x,y],argTypes:=#[D,D] }:=by kernel_rfl)(hx:ev Γ x=.slice (some ⟨(aw B j).b,0,none⟩) m U:=by kernel_rfl)(W:ev Γ y=.slice A m2 c:=by kernel_rfl)
  (L:P.underlying D=some (.slice e):=by kernel_rfl)(hi:(P.info? e).map (·.size)=some 1:=by kernel_rfl):LG P n N R X ops k Γ w:=by
 subst O;have hm:=K;have o:=oT hj;have z:=s.st.own _ (bC o);have C:(l2.flatMap f).length=m2:=by rw[cn hf,hm];omega
 rw[so.ok oM] at W;have l:=run_copy_row (P:=P) w D D (am ops k).type e (aw B j).b 0 m2 U ⟨aB A,aO A,none⟩ m2 c (aw B j).vs.toArray (aw B j).t (l2.flatMap f) L hi z (by rw[C];exact (Nat.min_self m2).symm) (g7 s.g (so.flat hf)) (by rw[C];simp[i]) (fun u L=>by
  obtain ⟨a,_,ha⟩:=NO.1 L;exact (o0.1 (h1 a)) u ha)
 have e1:((aw B j).vs.toArray.toList.take 0++l2.flatMap f++(aw B j).vs.toArray.toList.drop (0+(l2.flatMap f).length)).toArray=(l2.flatMap f).toArray:=by
  rw[C];simp[NR,i]
 rw[e1,C] at l;have p:Put (aw B j).b w (w.setRow (aw B j).b (l2.flatMap f).toArray):=⟨rfl,rfl,rfl,by simp,fun c I=>setRow_other _ _ _ _ I⟩
 have M:Own (w.setRow (aw B j).b (l2.flatMap f).toArray) (aw B j).b (aw B j).t (bZ (aw B j).vs 0 (l2.flatMap f)):=by
  have J:bZ (aw B j).vs 0 (l2.flatMap f)=l2.flatMap f:=by
   have:=kz (l2.flatMap f) (aw B j).vs [] (by rw[i,C])
   simpa using this
  rw[J];exact setRow_heap _ _ _ _ _ _ z
 have Q:=s.st.put s.g0 o p M;have J:bZ (aw B j).vs 0 (l2.flatMap f)=l2.flatMap f:=by
  have:=kz (l2.flatMap f) (aw B j).vs [] (by rw[i,C])
  simpa using this
 unfold iH at Q;rw[J] at Q;refine LG.val t _ _ (bS I).1 (bS I).2 ?_ (H _ (s.put0 o p Q (li o)))
 unfold execOp;have Y:goInt m2=.int .i64 (m2:Nat):=rfl;rw[Y] at l
 simp only[Z,resolve,invoke,builtin,Sem.run_bind,Sem.run_pure,Result.andThen_ok,NU,A7,NV,hx,W,l]
theorem rQ {Q:Exit->Act->World->Prop}{i:Nat}{u:Oper}{v:Value}{S:World->Prop}(hi:ops[i]?=some u)(l:∀ (j:Nat) (o:Oper) cs b,ops[j]?=some o->o.op≠.select cs b)
    (Z:∀ c a w,Q (.panic c) (a.put u.dst v) w->Q (.panic c) a w)(K:∀ w w',S w->Tl M w w'->S w') :
    ∀ (n:Nat) (L:Array Bool) (a:Act) (w:World),
      (∀ j x,ops[j]?=some x->j≠i->L.getD j true=false->(∀ e∈x.after,Region.binds .any e=true->e.on≠i)->u.apart ops x=true) ->
      i∈Region.ready .any ops L->YieldsIf P ops S u v a->S w->tc M P ops Q 0 n (L.setIfInBounds i true) (a.put u.dst v) w->tc M P ops Q 0 (n+1) L a w:=by
  intro n;induction n with
  | zero =>
    intro L a w _ hr J I H;refine ⟨fun h=>(by rw[h] at hr;cases hr),fun j F=>?_⟩
    by_cases hji:j=i
    . subst hji;exact J.wpOp hi I ⟨Rl.refl _ _ _ _,H⟩
    . have:=ready_mono F hji
      rw[H.1] at this;cases this
  | succ n ih =>
    intro L a w d hr J I H;refine ⟨fun h=>(by rw[h] at hr;cases hr),fun j F=>?_⟩
    by_cases hji:j=i
    . subst hji;exact J.wpOp hi I ⟨Rl.refl _ _ _ _,H⟩
    . have h1:=H.2 j (ready_mono F hji)
      obtain ⟨p,x,y,z⟩:=mem_ready.1 F
      have B:∀ e∈x.after,Region.binds .any e=true->e.on≠i:=fun e he Y W=>by
        have h1:=z e he Y;have h0:=(mem_ready.1 hr).1;rw[W] at h1
        obtain ⟨hl,V⟩:=I9 h0
        simp[Array.getD,hl,V] at h1
      have X:=wpOp_putIf y (d j x y hji p B) (fun cs b=>l i u cs b hi) (fun cs b=>l j x cs b y) Z J h1
      have f:∀ k ok,ops[k]?=some ok->k≠i->(L.setIfInBounds j true).getD k true=false ->
          (∀ e∈ok.after,Region.binds .any e=true->e.on≠i)->u.apart ops ok=true:=fun k ok hk O C U=>by
        refine d k ok hk O ?_ U
        by_cases hjk:j=k
        . subst hjk;exact p
        . rw[getD_set_ne true hjk] at C;exact C
      refine wpOp_mono (fun a' w' D=>⟨D.2.1,ih (L.setIfInBounds j true) a' w' f (ready_mono hr (Ne.symm hji)) D.1 (K _ _ I (D.2.1.2 (NY _))) ?_⟩) X;rw[Array.setIfInBounds_comm _ _ hji];exact D.2.2
def ww (n:Nat)(ops:Array Oper)(L:Array Bool)(Γ:cC)(i t:Nat):Bool :=
  decide (i<ops.size) && Region.noSelect ops && Region.free .any ops L i && (Region.ready .any ops L).contains i && ((am ops i).dst == some t) && decide (t<n) && bc Γ (am ops i) && (bu ops Γ (am ops i) == some true)
theorem Gu (i t v){S:World->Prop}(e:∀ w w',S w->Tl M w w'->S w')(Q:S w)(hv:∀ w',S w'->(execOp (ev Γ) (am ops i)).run P w'=.ok (.value v) w')(H:AG M P n N R X ops 0 (L.setIfInBounds i true) ((t,v)::Γ) w)(d:ww n ops L Γ i t=true):AG M P n N R X ops 0 L Γ w:=by
 unfold ww at d;simp only[lu,decide_eq_true_eq,beq_iff_eq] at d;obtain ⟨⟨⟨⟨⟨⟨⟨h1,u⟩,D⟩,x⟩,K⟩,B⟩,C⟩,y⟩:=d;have hr:i∈Region.ready .any ops L:=by simpa using x
 have p:=bK (ops:=ops) h1;intro a f;have O:=f.exec (Region.noSelect_spec u i _ · · p) C;have z:=H _ (f.put B v)
 unfold A at *;rw[gi hr];refine rQ (S:=S) p (Region.noSelect_spec u) (fun c a w F=>F.elim) e _ _ _ _ (fun j I J h o=>Region.free_spec p D j I J h o) hr (.inl ⟨f.want y,fun w' l=>by rw[O];exact hv w' l⟩) Q ?_;rw[K];exact z
theorem zV (i t v)(H:AG M P n N R X ops 0 (L.setIfInBounds i true) ((t,v)::Γ) w)(a:ww n ops L Γ i t=true:=by kernel_rfl)(hv:∀ w,(execOp (ev Γ) (am ops i)).run P w=.ok (.value v) w:=by intro _;kernel_rfl):AG M P n N R X ops 0 L Γ w :=
 Gu i t v (S:=fun _=>True) (fun _ _ _ _=>trivial) trivial (fun w' _=>hv w') H a
theorem zO {K:Nat}(i t)(ps:List (Nat × Nat × Nat))(v)(hz:M.z=some (K,[]))(y:K<=w.heap.size)(s:SS w0 h0 w h B Rs F)(e:∀ p∈ps,(aw B p.1).b<K)(H:AG M P n N R X ops 0 (L.setIfInBounds i true) ((t,v)::Γ) w)(C:ww n ops L Γ i t=true:=by kernel_rfl)(J:dt B ps=true:=by kernel_rfl)(O:cc P (execOp (ev Γ) (am ops i)) (dY B ps)=some (.value v,cJ B ps):=by kernel_rfl):AG M P n N R X ops 0 L Γ w :=
 Gu i t v (S:=fun w'=>K<=w'.heap.size/\∀ b,b<K->w'.heap[b]?=w.heap[b]?) (fun w1 w2 c o=>by
  obtain ⟨h1,l⟩:=o K [] hz;exact ⟨ep c.1 h1,fun b j=>(l b j List.not_mem_nil).trans (c.2 b j)⟩) ⟨y,fun _ _=>rfl⟩ (fun w' c=>db _ _ _ _ O (fun q a u ha D=>by
  obtain ⟨p,d,f⟩:=tO ps q a ha;have:=fc (fun x I=>s.st.own x I) ps J q a u ha D;rw[<-this]
  unfold World.cell?
  rw[c.2 _ (f▸e p d)])) H C
theorem zC (i t){f:FuncId}{args:Array Value}(c:Calls P f args w fun e w'=>∃ v,e=.returned v/\Tl M w w'/\AG M P n N R X ops 0 (L.setIfInBounds i true) ((t,v)::Γ) w')(j:(iE ops 0 L i && bc Γ (am ops i) && ((am ops i).dst == some t) && decide (t<n))=true:=by kernel_rfl)(u:bu ops Γ (am ops i)=some true:=by kernel_rfl)
  (hr:(execOp (ev Γ) (am ops i)).run P w=.ok (.enter f args) w:=by kernel_rfl):AG M P n N R X ops 0 L Γ w:=by
 simp only[lu,decide_eq_true_eq,beq_iff_eq] at j;obtain ⟨⟨⟨h1,p⟩,x⟩,o⟩:=j;obtain ⟨l,y⟩:=mQ h1;intro a d;refine A.one h1 l (R':=fun v w'=>Tl M w w'/\AG M P n N R X ops 0 (L.setIfInBounds i true) ((t,v)::Γ) w') ⟨d.want u,.inr (.inr ⟨f,args,?_,c⟩)⟩ (fun v w' h=>h.1) (fun v w' h=>?_)
 ·rw[d.exec (Region.noSelect_spec y i _ · · l) p];exact hr
 ·rw[x];exact h.2 _ (d.put o v)
theorem HI {K:Nat}{w':World}(hz:M.z=some (K,[]))(d:K<=w.heap.size)(x:Ext w w'):Tl M w w':=fun c bs e=>by
 rw[hz] at e;injection e with e;injection e with e1 e2;subst e1 e2;exact ⟨x.size,fun b a _=>Below.block x b oM⟩
theorem KA {K b:Nat}{w':World}(hz:M.z=some (K,[]))(f:K<=w.heap.size)(d:K<=b)(x:Mo [b] w w'):Tl M w w':=fun h bs e=>by
 rw[hz] at e;injection e with e;injection e with e1 e2;subst e1 e2;exact ⟨x.size,fun c a _=>x.blk c oM (by simp;omega)⟩
theorem sO {K:Nat}(i t){f:FuncId}{args:Array Value}{Φ:Value->Hp->Prop}(c:Calls P f args w (Ret w h Φ))(hz:M.z=some (K,[]))(j:K<=w.heap.size)(H:∀ v w' a,Up w h w' a->K<=w'.heap.size->Φ v a->AG M P n N R X ops 0 (L.setIfInBounds i true) ((t,v)::Γ) w')(l:(iE ops 0 L i && bc Γ (am ops i) && ((am ops i).dst == some t) && decide (t<n))=true:=by kernel_rfl)(o:bu ops Γ (am ops i)=some true:=by kernel_rfl)
  (hr:(execOp (ev Γ) (am ops i)).run P w=.ok (.enter f args) w:=by kernel_rfl):AG M P n N R X ops 0 L Γ w :=
 zC i t (c.mono fun e w' ⟨v,a,p,u,d⟩=>⟨v,p,HI hz j u.ext,H v w' a u (ep j u.ext.size) d⟩) l o hr
theorem ME {K rb:Nat}(i t){f:FuncId}{args:Array Value}{Φ:Value->World->Hp->Prop}(c:Calls P f args w (fl rb w h Φ))(hz:M.z=some (K,[]))(l:K<=w.heap.size)(j:K<=rb)(H:∀ v w' a,UpM [rb] w h w' a->K<=w'.heap.size->Φ v w' a->AG M P n N R X ops 0 (L.setIfInBounds i true) ((t,v)::Γ) w')(o:(iE ops 0 L i && bc Γ (am ops i) && ((am ops i).dst == some t) && decide (t<n))=true:=by kernel_rfl)(p:bu ops Γ (am ops i)=some true:=by kernel_rfl)
  (hr:(execOp (ev Γ) (am ops i)).run P w=.ok (.enter f args) w:=by kernel_rfl):AG M P n N R X ops 0 L Γ w :=
 zC i t (c.mono fun e w' ⟨v,a,x,u,d⟩=>⟨v,x,KA hz l j u.mo,H v w' a u (ep l u.mo.size) d⟩) o p hr
theorem fE (s:SS w0 h0 w h B Rs F)(j)(a:decide (j<B.length)=true:=by kernel_rfl):(aw B j).b<w.heap.size:=by rw[s.g.size];exact aW (s.jk j a)
theorem Jc (t b o len a sz:Nat)(i:Int)(j e:Nat)(H:LG P n N R X ops (k+1) ((t,.pointer (some ⟨b,0+e*sz,none⟩))::Γ) w)(f:cL ops Γ k t n=true:=by kernel_rfl)(h:EE P (ev Γ) (am ops k)=some (.slice (some ⟨b,o,none⟩) len a,.int .i64 i,sz):=by kernel_rfl)(hk:i=j:=by omega)(c:j<len:=by omega)(d:o+j*sz=0+e*sz:=by omega):LG P n N R X ops k Γ w :=
 LG.val t _ w (bS f).1 (bS f).2 (d▸im h rfl hk c w) H
theorem Mf (i t b o len a sz:Nat)(x:Int)(j e:Nat)(H:AG M P n N R X ops k0 (L.setIfInBounds i true) ((t,.pointer (some ⟨b,0+e*sz,none⟩))::Γ) w)(f:cE n ops k0 [] L Γ i t=true:=by kernel_rfl)(h:EE P (ev Γ) (am ops i)=some (.slice (some ⟨b,o,none⟩) len a,.int .i64 x,sz):=by kernel_rfl)(hk:x=j:=by omega)(c:j<len:=by omega)(d:o+j*sz=0+e*sz:=by omega):AG M P n N R X ops k0 L Γ w :=
 aV i t _ H f (fun w=>d▸im h rfl hk c w)
theorem Ml (i t b o len a sz:Nat)(x:Int)(j e:Nat)(H:AG M P n N R X ops k0 (L.setIfInBounds i true) ((t,.pointer (some ⟨b,0+e*sz,none⟩))::Γ) w)(f:cT n ops k0 L Γ i t=true:=by kernel_rfl)(h:EE P (ev Γ) (am ops i)=some (.slice (some ⟨b,o,none⟩) len a,.int .i64 x,sz):=by kernel_rfl)(hk:x=j:=by omega)(c:j<len:=by omega)(d:o+j*sz=0+e*sz:=by omega):AG M P n N R X ops k0 L Γ w :=
 T.val i t _ w (jG f).1 (jG f).2 (d▸im h rfl hk c w) H
theorem Mm (t b o len a sz i j c)(H:LG P n N R X ops (k+1) ((t,.slice (some ⟨b,c,none⟩) (len-j) (a-j))::Γ) w)(p:cL ops Γ k t n=true:=by kernel_rfl)(u:DA P (ev Γ) (am ops k)=some (.slice (some ⟨b,o,none⟩) len a,some (.int .i64 i),none,sz):=by kernel_rfl)(hk:i=j:=by omega)(f:j<=len:=by omega)(d:a≠j:=by omega)(l:c=o+j*sz:=by omega):LG P n N R X ops k Γ w:=by
 have h:=mG j u hk f w;rw[if_neg d] at h;have e:(some (⟨b,o,none⟩:Addr)).map (·.add (j*sz))=some ⟨b,c,none⟩:=by subst l;simp[Addr.add]
 rw[e] at h;exact LG.val t _ w (bS p).1 (bS p).2 h H
theorem SS.torow {α:Type}(s:SS w0 h0 w h B Rs F)(j)(f:α->List Value)(l:List α)(sz m)(C:l.length=m)(D:m<=(2^40))(hB:(aw B j).vs=l.flatMap f:=by kernel_rfl)(hf:∀ x,(f x).length=sz:=by intro _;rfl)(z:decide (j<B.length)=true:=by kernel_rfl):
    SS w0 h0 w h (B.eraseIdx j) (⟨(aw B j).t,sz,some ⟨(aw B j).b,0,none⟩,m,m,l.flatMap f⟩::Rs) F:=by
  have o:=oT z;have d:=bC o;have H:=s.st.own _ d;have y:∀ x∈B.eraseIdx j,x.b≠(aw B j).b:=by
    intro x a c;obtain ⟨i,hi,u⟩:=vj.1 a;rw[List.getElem_eraseIdx] at u
    rw[List.length_eraseIdx_of_lt o] at hi;split at u
    . rename_i I
      refine gU s.st (i:=i) (j:=j) (decide_eq_true oM) z (by simp;omega) ?_;rw[<-c,<-u];simp[aw,show i<B.length by omega]
    . rename_i I
      refine gU s.st (i:=i+1) (j:=j) (decide_eq_true oM) z (by simp;omega) ?_;rw[<-c,<-u];simp[aw,show i+1<B.length by omega]
  refine ⟨s.g0,⟨s.st.up,fun x a=>s.st.own x (D1 a),fun x a=>s.st.jk x (D1 a),fun x a=>s.st.lo x (D1 a),s.st.nd.sublist ((List.eraseIdx_sublist B j).map (·.b))⟩,?_,?_,s.mo,s.f⟩
  . intro r hr
    rcases hC.1 hr with rfl|hr
    . refine ⟨⟨by rw[cn hf,C],.inr ⟨(aw B j).b,m,(aw B j).vs.toArray,rfl,s.st.lo _ d,H,ek _,by unfold maxLen;omega,by rw[hB];simp[cn hf,C],by rw[hB];simp[Nj,cn hf,C]⟩⟩,?_,?_⟩
      . intro b c
        have:(aw B j).b=b:=by simpa [Rw.v,Value.ownBlock] using c
        rw[<-this];exact s.st.jk _ d
      . intro b c p
        have:(aw B j).b=b:=by simpa [Rw.v,Value.ownBlock] using c
        obtain ⟨x,a,e⟩:=g3.1 p;exact y x a (e.trans this.symm)
    . exact (s.ro r hr).sub _ (fun b c=>by
        obtain ⟨x,a,e⟩:=g3.1 c;exact g3.2 ⟨x,D1 a,e⟩)
  . refine NP.2 ⟨fun r hr b c hv=>?_,s.ap⟩
    have:(aw B j).b=b:=by simpa [Rw.v,Value.ownBlock] using c
    exact (s.ro r hr).ap b hv (this▸g3.2 ⟨_,d,rfl⟩)
theorem K9 {α:Type}(t j m y)(l:List α)(f:α->List Value)(d x:α)(bt z)(s:SS w0 h0 w h B Rs F)(W:Seg h y 0 (f x))(D:l.length=m)(K:m<=(10^9))
  (H:∀ a c' w' i,SS w0 h0 w' i (B.eraseIdx j) Rs ((fun h=>SlO 1 f d h a (l++[x]))::F)->m+1<=c'->LG P n N R X ops (k+1) ((t,.slice a (m+1) c')::Γ) w')(O:cL ops Γ k t n=true:=by kernel_rfl)(U:decide (j<B.length)=true:=by kernel_rfl)(hB:(aw B j).vs=l.flatMap f:=by kernel_rfl)
  (V:sJ P (ev Γ) (am ops k)=some (.slice (some ⟨(aw B j).b,0,none⟩) m m,.slice (some ⟨y,0,none⟩) 1 1,(aw B j).t,z,1,bt):=by kernel_rfl)(p:z.cells.size=1:=by kernel_rfl)(hf:∀ x,(f x).length=1:=by intro _;rfl)(h1:(f x).all (·.oneCell')=true:=by kernel_rfl)(e:bt<=100:=by decide):LG P n N R X ops k Γ w:=by
 have C:=s.torow j f l 1 m D oM hB hf U;refine LF t 0 (f x) C (kO C.g W) (hf x) (fun u S=>(o0.1 h1) u S) (by simp) rfl O V p kD oM (by
  have:(m+1)*bt<=(m+1)*100:=M5 _ e
  omega) (fun a c' w' i J=>?_)
 have I:m+1=(l++[x]).length:=by simp[D]
 have L:l.flatMap f++f x=(l++[x]).flatMap f:=by simp
 rw[L,NS] at J;have Q:SS w0 h0 w' i (B.eraseIdx j) (⟨(aw B j).t,1,a,c',(l++[x]).length,(l++[x]).flatMap f⟩::Rs) F:=by rw[<-I];exact J
 obtain ⟨c,M,o⟩:=Q.pubr 0 d hf rfl (by simp);exact H a c' w' c M (by rw[I];exact o)
theorem SS.perm (s:SS w0 h0 w h B Rs F){B':List Bx}(p:B.Perm B'):SS w0 h0 w h B' Rs F :=
 ⟨s.g0,⟨s.st.up,fun x a=>s.st.own x (p.mem_iff.2 a),fun x a=>s.st.jk x (p.mem_iff.2 a),fun x a=>s.st.lo x (p.mem_iff.2 a),(p.map (·.b)).nodup_iff.1 s.st.nd⟩,
  fun r hr=>(s.ro r hr).sub _ (fun b c=>(p.map (·.b)).mem_iff.2 c),s.ap,s.mo,s.f⟩
end
theorem k7 (a A c)(hc:(lim a).length<=c)(X:(lim a).length<=4000000000)(k)(hk:k<=4000000000)(w h)(g:G w h)(hA:S3 A (lim a) h):CR 199 #[.slice A ((lim a).length) c,nV k] w h (fun v h1=>RN h1 v (a*2^k)):=by
 have d:=((sS g).aS hA);obtain ⟨L,hL⟩:∃ L:List Nat,L=Af (k/32) 0:=⟨_,rfl⟩;have C:L.length=k/32:=by rw[hL,List.length_replicate]
 refine go Tryz.func199 [(0,qS A ((lim a).length) c),(1,nV k)] rfl (aa d ac (ag (aa d ac ?_)));have ⟨M,Q⟩:=dT (p:=(0:Int)<=(k:Int)) oM;refine lB 12 M (ak (aa d ac (lV 14 (nV L.length) ?_ (hr:=aK (aK (dU (t:=3) (u:=3) (x:=.tmp 13) (y:=.const (iV 32)) (k:=.i64) (a:=(k:Int)) (b:=(32:Int)) kR kR kR oM _) (dN k 32 oM)) oM))));refine lK 15 153 L.length 1 4 (uW 0) a8 0 d (fun O w3 V d=>?_);have hl5:(Af L.length 0).length=L.length:=by simp
 refine lL d ac (aG (lL d ac (ag (aA ?_))));rw[show Af L.length 0=L by rw[C];exact hL.symm] at d
 replace d:=d.torow 0 a8 L 1 L.length rfl oM;replace d:=d.to [] [⟨153,1,sB O,L.length,(L).length,(L).flatMap a8⟩];refine lL d ac (aZ ?_);refine bH _ (CG.loop (fun I Γ w_=>∃ (i:Nat)(B:Z9)(z:Nat)(l:List Nat)(e:Nat)(h_:Hp),I=(lim a).length+1-i/\Γ=[(0,qS A ((lim a).length) c),(1,nV k),(4,sZ),(7,nV i),(6,mV e),(5,qS B ((l).length) z)]/\SS w h w_ h_ [] [⟨153,1,B,z,(l).length,(l).flatMap a8⟩] [S3 A (lim a)]/\i<=(lim a).length+1/\l.length=L.length+i/\Ld l/\e<2^(k%32)/\ai (2^32) l+(2^32)^l.length*e=(2^32)^L.length*(2^(k%32)*ai (2^32) ((lim a).take i))) _ ⟨0,sB O,L.length,L,0,V,rfl,rfl,d.to _ _,NY _,rfl,(by rw[hL];exact Ld.rep _),M0 _,(by rw[hL,dQ];simp[ai])⟩ ?_);rintro _ _ w6 ⟨i,B,z,l,e,h7,hm8,rfl,d,hi,j,S,K,inv⟩;have J:=(Ld.lim a).get i;refine cQ (aa d [.c,.c,.v (nV ((lim a).length))] ?_);cases o:(decide ((i:Int)<=(((lim a).length:Nat):Int)))
 .
  have D:=oF o;refine lB 19 o (ah (CG.exit ?_))
  show CG _ _ _ _ _ _ _ _
  refine aa d ac ?_;have hin:i=(lim a).length+1:=by omega
  rw[Nj (show (lim a).length<=i by omega),dk,j] at inv
  have hE:ai (2^32) l=a*2^k:=wn (c:=e) (by rw[j,inv,CD k,C];ac_rfl) (by rw[j,CD k];exact xv (cO a) oM oM);obtain ⟨_,d,U⟩:=d.pubr 0 (A:=B) (c:=z) (l:=l) (f:=a8) (ty:=153) (sz:=1) 0 (fun _=>rfl);exact ar 39 d (jM B z l ((l).length) rfl oM U _ _ d.g d.f.1) (fun _ _ d=>lL d ac (ae d [] (qS B (tl l ((l).length)) z) (RN.trim S hE rfl U d.f.1)))
 have D:=oT o;refine lB 19 o (ak (cK (cQ (kZ (aa d cG (ar 25 d (Ja A c (lim a) ((lim a).length) rfl i oM (Ld.lim _) _ _ d.g d.f.1) (fun _ _ d=>lL d ac (lV 27 (nV (k%32)) ?_ (hr:=aK (fP (t:=3) (u:=3) (x:=.tmp 26) (y:=.const (iV 32)) (k:=.i64) (a:=(k:Int)) (b:=(32:Int)) kR kR kR oM _) (dH k 32))))))))));refine lV 28 (mV (k%32)) ?_ (hr:=rU (((k%32:Nat):Int)) kR (bh oM oM));refine lV 29 (mV (((lim a).getD i 0)*2^(k%32)%(2^64))) ?_ (hr:=iq (t:=42) (u:=154) (x:=.tmp 25) (y:=.tmp 28) (ky:=.u64) (a:=((lim a).getD i 0)) (n:=(k%32)) kR kR kR _);obtain ⟨F,hS2,H⟩:=JM (x:=(lim a).getD i 0) (p:=k%32) (c:=e) oM J K;refine lV 30 (mV (e+(lim a).getD i 0*2^(k%32))) ?_ (hr:=aK (iO (t:=42) (u:=42) (x:=.tmp 22) (y:=.tmp 29) (a:=e) (b:=(((lim a).getD i 0)*2^(k%32)%(2^64):Nat)) kR kR kR oM oM _) (by rw[F]));refine lL d ac (aG (lL d ax (lV 33 (mW ((e+(lim a).getD i 0*2^(k%32))%(2^32))) ?_ (hr:=rT (((e+(lim a).getD i 0*2^(k%32):Nat):Int)) kR (g8 _)))));refine lR 34 153 1 ([mW ((e+(lim a).getD i 0*2^(k%32))%(2^32))]) d (fun zb _ _ d=>lY 35 0 153 1 z B l a8 ((e+(lim a).getD i 0*2^(k%32))%(2^32):Nat) 4 zb (uW 0) d d.f.1 (fun W Z _ Y d=>lL d ac (lN (kQ (lL d ac (lV 37 (mV ((e+(lim a).getD i 0*2^(k%32))/(2^32))) ?_ (hr:=aK (n:=NW ((e+(lim a).getD i 0*2^(k%32):Nat):Int) (2^32)) kR (eN _ (2^32)))))))));refine lL d ac (lN (kQ (lL d ac (bw 21 ((i:Nat)+1) (i+1) ?_))));refine lL d ac (lD ?_);intro a_ ka;replace d:=d.tl;refine ⟨_,_,?_,⟨i+1,W,Z,l++[((e+(lim a).getD i 0*2^(k%32))%(2^32):Nat)],((e+(lim a).getD i 0*2^(k%32))/(2^32):Nat),Y,rfl,rfl,d.to _ _,oM,(by rw[zY,j];rfl),(S.app (As _ kD)),H,(xR kD inv j rfl rfl)⟩,ka.to _ kR⟩
 omega
theorem rZ (a A c)(J:(lim a).length<=c)(u:(lim a).length<=4000000000)(w h)(g:G w h)(C:S3 A (lim a) h):CV 166 #[.slice A ((lim a).length) c] w h (nV (nb a)):=by
 have d:=((sS g).aS C);have D:=@bV a;have o:=(Ld.lim a).get ((lim a).length-1);refine go Tryz.func166 [(0,qS A ((lim a).length) c)] rfl (aa d ac (ag (aa d [.c,.v (nV ((lim a).length))] ?_)));cases i:((((lim a).length:Nat):Int) == (0:Int))
 .
  have j:=aj i;refine lB 7 i (ah (cK (aa d [.c,.v (nV ((lim a).length))] (bw 10 (((lim a).length:Nat)-1) (((lim a).length)-1) ?_))));refine bw 11 (32*(((lim a).length)-1:Nat)) (32*(((lim a).length)-1:Nat)) (lL d ac (ag (aa d [.c,.c,.v (nV ((lim a).length))] (lI 15 (((lim a).length:Nat)-1) ?_))));refine lX 16 A ((lim a).length) c 1 (((lim a).length:Nat)-1) (((lim a).length)-1) ((d.f.1).ok oM) (lH 17 (mW ((lim a).getD (((lim a).length)-1) 0)) d ((d.f.1).el (((lim a).length)-1) oM) (lL d ac (aZ ?_)));refine bH _ (CG.loop (fun p Γ z=>∃ (n:Nat)(x:Nat)(h_:Hp),p=x/\Γ=[(2,iV 0),(3,nV n),(4,mW x)]/\SS w h z h_ [] [] [S3 A (lim a)]/\n+nb x=nb a/\x<(2^32)/\nb a<=128000000000) _ ⟨32*((lim a).length-1),(lim a).getD ((lim a).length-1) 0,h,rfl,rfl,d.to _ _,(AE oM).symm,o,(by have:=ur a;omega)⟩ ?_);rintro _ _ w2 ⟨n,x,B,H,rfl,d,hn,K,F⟩;refine cQ (aa d ac ?_);cases e:(decide ((0:Int)<(x:Int)))
  .
   have l:=oF e;refine lB 19 e (ah (CG.exit ?_))
   show CG _ _ _ _ _ _ _ _
   exact aa d ax (ae d [] (nV n) (by obtain rfl:x=0:=oM;rw[DM] at hn;rw[<-hn];rfl))
  have l:=oT e;refine lB 19 e (ak (cK (cQ (kZ (kQ (lL d ac (bw 23 ((n:Nat)+1) (n+1) ?_)))))));refine lL d ac (lN (kQ (lL d ac (lV 21 (mW (x/2)) ?_ (hr:=aK (n:=NW (x:Nat) 2) kR (eN x 2))))));refine lL d ac (lD ?_);intro I y;refine ⟨_,_,?_,⟨n+1,x/2,B,rfl,rfl,d.to _ _,(by have:=EJ (n:=x) oM;omega),oM,F⟩,y.to _ kR⟩
  omega
 have j:=eq_of_beq i;exact lB 7 i (ak (aa d ac (ae d [] (iV 0) (by obtain rfl:a=0:=oM;rfl))))
theorem sV (a:Nat)(A:Z9)(c:Nat)(hc:(lim a).length<=c)(U:(lim a).length<=4000000000)(k:Nat)(Z:0<k)(hk:k<=4000000000)(w:World)(h:Hp)(g:G w h)(hA:S3 A (lim a) h):CR 199 #[.slice A ((lim a).length) c,iV (-(k:Int))] w h (fun v h1=>RN h1 v (a/2^k)):=by
 have d:=((sS g).aS hA);refine go Tryz.func199 [(0,qS A ((lim a).length) c),(1,iV (-(k:Int)))] rfl (aa d ac (ag (aa d ac ?_)));have ⟨M,O⟩:=dF (p:=(0:Int)<=((-(k:Int)):Int)) oM;refine lB 12 M (ah (cK (aa d ac (lV 41 (nV k) ?_ (hr:=rS ((0-(-(k:Int)))) kR (by rw[IntKind.wrap_i64];omega))))));refine lL d ac (aG (lL d ac (ag (aa d ac (lV 43 (nV (k/32)) ?_ (hr:=aK (dU (t:=3) (u:=3) (x:=.tmp 42) (y:=.const (iV 32)) (k:=.i64) (a:=(k:Int)) (b:=(32:Int)) kR kR kR oM _) (dN k 32 oM)))))));refine lL d ac (aZ ?_);replace d:=d.nil 153 1;refine bH _ (CG.loop (fun J Γ Y=>∃ (j:Nat)(o:Z9)(i:Nat)(l:List Nat)(h_:Hp),J=(lim a).length-(k/32+j)/\Γ=[(0,qS A ((lim a).length) c),(1,nV k),(4,sZ),(9,nV (k/32+j)),(8,qS o ((l).length) i)]/\SS w h Y h_ [] [⟨153,1,o,i,(l).length,(l).flatMap a8⟩] [S3 A (lim a)]/\l.length=j/\Ld l/\2^(k%32)*ai (2^32) l+((lim a).drop (k/32)).getD 0 0%2^(k%32)=ai (2^32) (((lim a).drop (k/32)).take j)+(2^32)^j*(((lim a).drop (k/32)).getD j 0%2^(k%32))/\l.length<=(lim a).length) _ ⟨0,none,0,[],h,rfl,rfl,d.to _ _,rfl,Dg.nil,(by simp[ai]),(by simp)⟩ ?_);rintro _ _ w2 ⟨j,o,i,l,h3,hm4,rfl,d,z,Q,inv,V⟩;have L:=(Ld.lim a).get (k/32+j);have K:=(Ld.lim a).get (k/32+j+1);refine cQ (aa d [.c,.c,.v (nV ((lim a).length))] ?_);cases e:(decide (((k/32+j:Nat):Int)<(((lim a).length:Nat):Int)))
 .
  have B:=oF e;refine lB 47 e (ah (CG.exit ?_))
  show CG _ _ _ _ _ _ _ _
  refine aa d ac ?_;have hE:ai (2^32) l=a/2^k:=Il oM (by rw[z];exact inv);obtain ⟨h6,d,C⟩:=d.pubr 0 (A:=o) (c:=i) (l:=l) (f:=a8) (ty:=153) (sz:=1) 0 (fun _=>rfl);exact ar 69 d (jM o i l ((l).length) rfl oM C _ _ d.g d.f.1) (fun w9 _ d=>lL d ac (ae d [] (qS o (tl l ((l).length)) i) (RN.trim Q hE rfl C d.f.1)))
 have B:=oT e;refine lB 47 e (ak (cK (cQ (kZ (aa d ax (ar 52 d (Ja A c (lim a) ((lim a).length) rfl (k/32+j) oM (Ld.lim _) _ _ d.g d.f.1) (fun _ _ d=>lL d ax (bw 55 ((k/32+j:Nat)+1) ((k/32+j)+1) ?_))))))));refine ar 56 d (Ja A c (lim a) ((lim a).length) rfl ((k/32+j)+1) oM (Ld.lim _) _ _ d.g d.f.1) (fun _ _ d=>?_);obtain ⟨F,hS2,I⟩:=Ky (p:=k%32) oM L K;have H:=bG (l:=lim a) (k:=j) (n:=k/32);have D:=bG (l:=lim a) (k:=j+1) (n:=k/32);refine lV 57 (mV (((lim a).getD ((k/32+j)+1) 0:Nat)*(2^32)%(2^64))) ?_ (hr:=rU (((((lim a).getD ((k/32+j)+1) 0:Nat):Int)*(2^32))) kR (kf ((lim a).getD ((k/32+j)+1) 0:Nat) (2^32)));refine lV 58 (mV ((lim a).getD (k/32+j) 0+(lim a).getD (k/32+j+1) 0*(2^32))) ?_ (hr:=aK (iO (t:=42) (u:=42) (x:=.tmp 52) (y:=.tmp 57) (a:=((lim a).getD (k/32+j) 0)) (b:=(((lim a).getD ((k/32+j)+1) 0:Nat)*(2^32)%(2^64):Nat)) kR kR kR oM oM _) (by rw[F]));refine lL d ac (lN (kQ (lL d cG (lV 62 (nV (k%32)) ?_ (hr:=aK (fP (t:=3) (u:=3) (x:=.tmp 61) (y:=.const (iV 32)) (k:=.i64) (a:=(k:Int)) (b:=(32:Int)) kR kR kR oM _) (dH k 32))))));refine lV 63 (mV (k%32)) ?_ (hr:=rU (((k%32:Nat):Int)) kR (bh oM oM));refine lV 64 (mV (((lim a).getD (k/32+j) 0+(lim a).getD (k/32+j+1) 0*(2^32))/2^(k%32))) ?_ (hr:=gY (t:=42) (u:=154) (x:=.tmp 60) (y:=.tmp 63) (ky:=.u64) (a:=((lim a).getD (k/32+j) 0+(lim a).getD (k/32+j+1) 0*(2^32))) (n:=(k%32)) kR kR kR oM _);refine lV 65 (mW ((((lim a).getD (k/32+j) 0+(lim a).getD (k/32+j+1) 0*(2^32))/2^(k%32):Nat)%(2^32))) ?_ (hr:=rT (((((lim a).getD (k/32+j) 0+(lim a).getD (k/32+j+1) 0*(2^32))/2^(k%32):Nat):Int)) kR (g8 _));refine lR 66 153 1 ([mW ((((lim a).getD (k/32+j) 0+(lim a).getD (k/32+j+1) 0*(2^32))/2^(k%32):Nat)%(2^32))]) d (fun za _ _ d=>lY 67 0 153 1 i o l a8 ((((lim a).getD (k/32+j) 0+(lim a).getD (k/32+j+1) 0*(2^32))/2^(k%32):Nat)%(2^32):Nat) 4 za (uW 0) d d.f.1 (fun zb S _ W d=>lL d ac (lN (kQ (lL d ac (bw 49 ((k/32+j:Nat)+1) ((k/32+j)+1) ?_))))));refine lL d ac (lD ?_);intro a_ X;replace d:=d.tl;refine ⟨_,_,?_,⟨j+1,zb,S,l++[((((lim a).getD (k/32+j) 0+(lim a).getD (k/32+j+1) 0*(2^32))/2^(k%32):Nat)%(2^32):Nat)],W,rfl,rfl,d.to _ _,(by rw[zY,z];rfl),(Q.app (As _ kD)),(Hd z inv (by rw[H,D];exact I)),(by rw[zY];show _+1<=_;omega)⟩,X.to _ kR⟩
 omega
def bv (l:List Nat):Nat:=ai 4294967296 l
theorem CN {a b:Nat}(ha:a<(2^32))(d:b<(2^32)):a*b<=18446744065119617025:=by
 have h1:a<=4294967295:=by omega
 have c:b<=4294967295:=by omega
 exact NF h1 c
def l3 (u2 u1 u0:Nat):Nat:=4294967296*(4294967296*u2+u1)+u0
def l2 (v1 v0:Nat):Nat:=4294967296*v1+v0
structure Hss (u2 u1 u0 v1 v0 g r o:Nat):Prop where
  e:g*v1+(r+4294967296*o)=4294967296*u2+u1
  lt:g+1=4294967296\/l3 u2 u1 u0<(g+1)*l2 v1 v0
  gb:g<4294967296
def E4 (u2 u1 u0 v1 v0 g:Nat):Prop:=g*l2 v1 v0<=l3 u2 u1 u0/\(g+1=4294967296\/l3 u2 u1 u0<(g+1)*l2 v1 v0)/\g<4294967296
theorem LR {g a c:Nat}:g*l2 a c=(2^32)*(g*a)+g*c:=by unfold l2;rw[MS,Nat.mul_left_comm]
theorem Hss.fin {d u1 a f c g r o:Nat}(h:Hss d u1 a f c g r o)(i:g*c<=(2^32)*(r+(2^32)*o)+a):E4 d u1 a f c g:=by
 refine ⟨?_,h.lt,h.gb⟩;rw[LR]
 unfold l3;rw[<-h.e,MS];omega
theorem HH {u:List Nat}{k:Nat}(hk:2<=k):l3 (u.getD k 0) (u.getD (k-1) 0) (u.getD (k-2) 0)=u.getD k 0*(2^32)*(2^32)+u.getD (k-1) 0*(2^32)+u.getD (k-2) 0:=by
 unfold l3;rw[MQ (u.getD k 0) (2^32),MQ ((2^32)*u.getD k 0) (2^32),MQ (u.getD (k-1) 0),MS]
theorem G6 {a c:Nat}:l2 a c=a*(2^32)+c:=by unfold l2;rw[MQ]
section
variable {n j G:Nat}{u v:List Nat}
theorem HJ (hn:2<=n)(z:v.length=n)(a:Ld v)(f:Ld u)(y:j+n<u.length)(hR:bv u<4294967296^(j+1)*bv v):u.getD (j+n) 0<=v.getD (n-1) 0:=by
 rcases ea (v.getD (n-1) 0) (u.getD (j+n) 0) with h|h
 ·exfalso
  have c:=aN 4294967296 (l:=v) (k:=n-1) oM;rw[show n-1+1=v.length by omega,y8] at c
  have h1:=bQ (Dg.take a (n-1));rw[MV,MW oM] at h1
  have d:=aN 4294967296 (l:=u) (k:=j+n) oM;have e:=bU 4294967296 (l:=u) (k:=j+n+1) oM;have p:4294967296^(j+n)*(v.getD (n-1) 0+1)<=4294967296^(j+n)*u.getD (j+n) 0:=M5 _ h
  have i:4294967296^(j+1)*bv v<4294967296^(j+1)*(4294967296^(n-1)*(v.getD (n-1) 0+1)):=by
   refine Nf ?_ (Na kD)
   show ai _ v<_
   rw[c,MS,Nat.mul_one];omega
  rw[<-MT,<-M4,show j+1+(n-1)=j+n by omega] at i
  have o:bv u=ai 4294967296 (u.take (j+n))+4294967296^(j+n)*u.getD (j+n) 0+4294967296^(j+n+1)*ai 4294967296 (u.drop (j+n+1)):=by
   show ai _ u=_
   rw[e,d]
  have x:=NY (4294967296^(j+n+1)*ai 4294967296 (u.drop (j+n+1)))
  omega
 ·exact h
theorem C9 (hn:2<=n)(i:v.length=n)(c:Ld v)(d:Ld u)(h:j+n<u.length)(a:v.getD (n-1) 0≠0)(hR:bv u<(2^32)^(j+1)*bv v)(f:E4 (u.getD (j+n) 0) (u.getD (j+n-1) 0) (u.getD (j+n-2) 0) (v.getD (n-1) 0) (v.getD (n-2) 0) G):
  bv u/((2^32)^j*bv v)<=G/\G<=bv u/((2^32)^j*bv v)+1:=by
 obtain ⟨h1,e,l⟩:=f;rw[HH oM,G6] at h1 e
 exact oO kD hn i c d h a hR h1 e l
theorem De (hn:2<=n)(f:v.length=n)(a:Ld v)(d:v.getD (n-1) 0≠0):4294967296^(n-1)<=bv v/\bv v<4294967296^n:=by
 have c:=bQ a;rw[f] at c;refine ⟨?_,c⟩;have e:=aN 4294967296 (l:=v) (k:=n-1) oM;rw[show n-1+1=v.length by omega,y8] at e
 have h:4294967296^(n-1)*1<=4294967296^(n-1)*v.getD (n-1) 0:=M5 _ oM
 show _<=ai _ v
 omega
theorem Aj (hn:2<=n)(d:v.length=n)(a:Ld v)(hR:bv u<(2^32)^(j+1)*bv v):bv u<(2^32)^(j+n+1):=by
 have c:=bQ a;rw[d] at c;have h1:(2^32)^(j+1)*bv v<(2^32)^(j+1)*(2^32)^n:=Nf c (Na kD);rw[<-M4,show j+1+n=j+n+1 by omega] at h1
 omega
theorem FS {u1:List Nat}(hn:2<=n)(i:v.length=n)(c:Ld v)(h:Ld u)(f:Ld u1)(y:j+n<u.length)(a:v.getD (n-1) 0≠0)(hR:bv u<4294967296^(j+1)*bv v)
  (o:bv u/(4294967296^j*bv v)<=G/\G<=bv u/(4294967296^j*bv v)+1)(d:Above u1 u (j+n+1))(e:bv u1+4294967296^j*(G*bv v)=bv u+4294967296^(j+n+1)*0) :
  bv u1<4294967296^j*bv v/\bv u1+4294967296^j*(G*bv v)=bv u:=by
 obtain ⟨p,x⟩:=De hn i c a;have l:=fI (b:=4294967296) kD d f h (by rw[d.1];omega) (Aj hn i c hR);have:=(gc (b:=4294967296) kD hn p x hR l e (NY 1) o).1 rfl;rw[MX,y5] at e
 exact ⟨this.2.2.1,e⟩
theorem KG {d a W K T c:Nat}(i:a+T*c=d+W)(o:d+W=K+T)(p:a<T)(j:K<W)(l:W<=T):a=K:=by
 have e:c=1:=by
  rcases Nat.lt_trichotomy c 1 with h|h|h
  ·have:c=0:=by omega
   subst this;omega
  ·exact h
  ·have f:T*2<=T*c:=M5 _ h
   omega
 subst e;omega
theorem HT {u1 d:List Nat}{c:Nat}(hn:2<=n)(D:v.length=n)(i:Ld v)(o:Ld u)(y:Ld u1)(z:Ld d)(Q:j+n<u.length)(h:v.getD (n-1) 0≠0)(hR:bv u<4294967296^(j+1)*bv v)
  (J:bv u/(4294967296^j*bv v)<=G/\G<=bv u/(4294967296^j*bv v)+1)(f:Above u1 u (j+n+1))(a:Above d u (j+n+1))(e:bv u1+4294967296^j*(G*bv v)=bv u+4294967296^(j+n+1)*1)
  (H:bv d+4294967296^(j+n+1)*c=bv u1+4294967296^j*bv v) :
  bv d<4294967296^j*bv v/\bv d+4294967296^j*((G-1)*bv v)=bv u/\0<G:=by
 obtain ⟨M,B⟩:=De hn D i h;have l:=Aj hn D i hR;have I:=fI (b:=4294967296) kD f y o (by rw[f.1];omega) l;have x:=fI (b:=4294967296) kD a z o (by rw[a.1];omega) l;obtain ⟨O,L,C,K⟩:=(gc (b:=4294967296) kD hn M B hR I e oM J).2 rfl
 have p:4294967296^j*bv v<=4294967296^(j+n+1):=by
  have h1:4294967296^j*bv v<=4294967296^j*4294967296^n:=M5 _ (Nat.le_of_lt B);rw[<-M4] at h1
  have F:(4294967296:Nat)^(j+n)<=4294967296^(j+n+1):=M1 kD oM;exact ep h1 F
 have hk:bv d=bv u-4294967296^j*((G-1)*bv v):=KG H L x C p;exact ⟨by rw[hk];exact C,by rw[hk];exact Nat.sub_add_cancel K,by rw[O];exact N0 _⟩
theorem Hk {u1:List Nat}(hn:2<=n)(i:v.length=n)(c:Ld v)(h:Ld u)(f:Ld u1)(z:j+n<u.length)(a:v.getD (n-1) 0≠0)(hR:bv u<4294967296^(j+1)*bv v)
  (o:bv u/(4294967296^j*bv v)<=G/\G<=bv u/(4294967296^j*bv v)+1)(d:Above u1 u (j+n+1))(e:bv u1+4294967296^j*(G*bv v)=bv u+4294967296^(j+n+1)*1):0<G:=by
 obtain ⟨p,x⟩:=De hn i c a;have l:=fI (b:=4294967296) kD d f h (by rw[d.1];omega) (Aj hn i c hR);obtain ⟨y,_⟩:=(gc (b:=4294967296) kD hn p x hR l e (ek 1) o).2 rfl;rw[y];exact N0 _
end
theorem HQ {q:List Nat}{j Q X V R R':Nat}(d:j<q.length)(h0:q.getD j 0=0)(inv:X=bv q*V+R)(e:R'+(2^32)^j*(Q*V)=R):X=bv (q.set j Q)*V+R':=by
 have a:=cP (2^32) (l:=q) (k:=j) Q d;rw[h0,MX,y5] at a
 have c:bv (q.set j Q)=bv q+(2^32)^j*Q:=a;rw[c,Ni,inv,<-e,MT];omega
theorem HS {X V R q a b s:Nat}(d:V=b*2^s)(l:X=a*2^s)(inv:X=q*V+R)(hR:R<V):q=a/b/\R/2^s=a%b:=by
 have o:=M0 s;have f:0<V:=by omega
 have i:0<b:=by
  rcases B2 b with h|h
  ·rw[h,zZ] at d;omega
  ·exact h
 have j:a*2^s=V*q+R:=by rw[<-l,inv,MQ]
 obtain ⟨h1,c⟩:=lj (A:=a) (y:=b) (Q:=q) d j hR;have e:a=R/2^s+b*q:=by omega
 constructor
 ·rw[e,M9 _ _ i,MN c,z6]
 ·rw[e,NL,Am c]
structure Gk (u2 u1 u0 v1 v0 g r:Nat):Prop where
  e:g*v1+r=4294967296*u2+u1
  lt:4294967296<=g+1\/l3 u2 u1 u0<(g+1)*l2 v1 v0
theorem Gk.start {c u1 d a f:Nat}(hv:0<a)(h0:d<(2^32)):Gk c u1 d a f ((c*(2^32)+u1)/a) ((c*(2^32)+u1)%a):=by
 have e:=Nl (c*(2^32)+u1) a;have hr:=As (c*(2^32)+u1) hv
 generalize (c*(2^32)+u1)/a=q at *
 generalize (c*(2^32)+u1)%a=r at *
 rw[MQ c] at e;refine ⟨by rw[MQ q];exact e,.inr ?_⟩;rw[LR,Ni q 1 a,Nk,MQ q a]
 unfold l3;rw[<-e];have h1:(2^32)*(a*q+r)+(2^32)<=(2^32)*(a*q+a):=by
  rw[<-Nt];exact M5 _ oM
 have h:0<=(q+1)*f:=NY _
 omega
theorem Gk.step {c u1 d a i g r:Nat}(h:Gk c u1 d a i g r)(j:0<g):(g-1)*a+(r+a)=(2^32)*c+u1:=by
 obtain ⟨p,rfl⟩:∃ p,g=p+1:=⟨g-1,by omega⟩;have f:=h.e;rw[Ni,Nk] at f
 rw[Nz];omega
theorem Gk.decB {d u1 c a e g r:Nat}(h:Gk d u1 c a e g r)(f:(2^32)<=g):Gk d u1 c a e (g-1) (r+a):=⟨h.step oM,.inl oM⟩
theorem Gk.decT {i u1 a c d g r:Nat}(h:Gk i u1 a c d g r)(j:(2^32)*r+a<g*d):0<g/\Gk i u1 a c d (g-1) (r+c):=by
 have f:0<g:=ef j;refine ⟨f,h.step f,.inr ?_⟩;rw[show g-1+1=g by omega,LR]
 unfold l3;rw[<-h.e,MS];omega
theorem Gk.big {c u1 i a j g r:Nat}(h:Gk c u1 i a j g r)(f:(2^32)<=g)(d:c<=a)(h1:u1<(2^32)):r<(2^32):=by
 have e:=h.e;have l:(2^32)*a<=g*a:=z7 _ f;have o:(2^32)*c<=(2^32)*a:=M5 _ d
 omega
theorem Gk.fin {d u1 c f a g r:Nat}(h:Gk d u1 c f a g r)(i:g<(2^32))(h0:a<(2^32))(j:(2^32)<=r\/g*a<=(2^32)*r+c):E4 d u1 c f a g:=by
 have l:Hss d u1 c f a g r 0:=⟨by rw[MX,y5];exact h.e,by rcases h.lt with h1|h1;exact .inl oM;exact .inr h1,i⟩;refine l.fin ?_;rw[MX,y5]
 rcases j with h1|h1
 ·have o:=CN i h0
  have p:(2^32)*(2^32)<=(2^32)*r:=M5 _ h1
  omega
 ·exact h1
theorem nu (n):(lim n).length=(nb n+31)/32:=by
 rcases B2 n with h|h
 ·subst h;rfl
 ·have h1:=AE h
  have a:=ng n h;have c:=(Ld.lim n).get ((lim n).length-1);have d:=bV.2 h
  generalize (lim n).getD ((lim n).length-1) 0=t at *
  have e:=(cI (Nu a)).2.2;have f:nb t<=32:=lU (k:=32) c
  omega
theorem Db {b:Nat}(c:0<b)(s):nb (b*2^s)=nb b+s:=by
 obtain ⟨d,a,e⟩:=cI c;rw[show nb b+s=(nb b-1+s)+1 by omega]
 apply lf
 ·rw[M4];exact z7 _ d
 ·rw[show nb b-1+s+1=nb b+s by omega,M4];exact ND a (M0 s)
section joi
variable {P:Program}{n:Nat}{N R:Po}{X:Nat->Po}{Γ:cC}{w:World}
theorem CG.join {x y:Code}(I:cC->World->Prop)(h1:CG P n (fun a w'=>∃ c,I c w'/\Kn n a c) R X x Γ w)(h:∀ Γ w,I Γ w->CG P n N R X y Γ w):CG P n N R X (.seq x y) Γ w:=by
 intro a i;refine wp_seq (wp_mono (h1 a i) ?_);intro e a w f;cases e with
 | normal=>obtain ⟨c,j,d⟩:=f;exact h c w j a d
 | _=>exact f
end joi
section fin
variable {M:Ms}{P:Program}{n:Nat}{N R:Po}{X:Nat->Po}{ops:Array Oper}{k0:Nat}{hr:Hp}{L:Array Bool}{Γ:cC}{w:World}{h:Hp}{w0:World}{h0:Hp}{B:List Bx}{Rs:List Rw}{F:List (Hp->Prop)}
theorem kb (s:SS w0 h0 w h B Rs F)(H:∀ w' a,Up w h w' a->SS w0 h0 w' a B Rs F->AG M P n N R X ops k0 L Γ w')(c:gX ops [] L=true:=by kernel_rfl):EG M P n N R X ops k0 hr [] L Γ w h:=Rg.fin0 c (fun w' a u=>H w' a u (s.step u))
end fin
section tail
variable {M:Ms}{P:Program}{n:Nat}{N R:Po}{X:Nat->Po}{ops:Array Oper}{k0:Nat}{L:Array Bool}{Γ:cC}{w:World}{h:Hp}{w0:World}{h0:Hp}{B:List Bx}{Rs:List Rw}{F:List (Hp->Prop)}
theorem MB {α:Type}(i j e a o)(l:List α)(f:α->List Value)(sz)(d x:α){ty:TypeId}{c b:Nat}(s:SS w0 h0 w h B Rs F)(hk:e<l.length)(H:∀ w',SS w0 h0 w' h B (Rs.set j ⟨ty,sz,some ⟨b,0,none⟩,c,l.length,(l.set e x).flatMap f⟩) F->AG M P n N R X ops k0 (L.setIfInBounds i true) Γ w')
  (J:bZ (f (l.getD e d)) a o=f x:=by rfl)(hf:∀ x,(f x).length=sz:=by intro _;rfl)(I:NQ (a+o.length) sz=true:=by kernel_rfl)(p:Rs.getD j default=⟨ty,sz,some ⟨b,0,none⟩,c,l.length,l.flatMap f⟩:=by kernel_rfl)(O:decide (j<Rs.length)=true:=by kernel_rfl)
  (C:(iE ops k0 L i && bc Γ (am ops i) && ((am ops i).dst == none))=true:=by kernel_rfl)(D:bu ops Γ (am ops i)=some true:=by kernel_rfl)
  (Q:d8 P (execOp (ev Γ) (am ops i))=some (.skip,od b (0+e*sz+a) o):=by kernel_rfl)(hz:∀ K bs,M.z=some (K,bs)->K<=b\/b∈bs:=by intro _ _ e;cases e):AG M P n N R X ops k0 L Γ w:=by
 have u:=Hi I;refine Mp i j (0+e*sz+a) o s ?_ (fun w' y=>H w' ?_) p O C D Q hz
 ·rw[cn hf,z6]
  have:(e+1)*sz<=l.length*sz:=z7 _ hk;rw[Ni,Nk] at this
  omega
 ·rw[z6,jS hf d l e x hk u J] at y
  exact y
end tail
theorem Fc (x:Nat)(A:Z9)(c m:Nat)(f:(lim x).length=m)(a:m<=c)(e:m<=4000000000)(s:Nat)(i:s<=4000000000)(w:World)(h:Hp)(g:G w h)(d:S3 A (lim x) h):CR 199 #[.slice A m c,iV (-(s:Int))] w h (fun v h1=>RN h1 v (x/2^s)):=by
 subst f;rcases B2 s with h0|h0
 ·subst h0
  have:=k7 x A c a e 0 oM w h g d;rw[NZ,Nat.mul_one] at this
  rw[NZ,Nat.div_one];exact this
 ·exact sV x A c a e s h0 i w h g d
theorem BR {a b s k:Nat}(i:(lim (b*2^s)).length=k)(hk:2<=k)(c:k<=(lim (a*2^s)).length+1)(e:0<b*2^s):bv (lim (a*2^s)++[0,0])<4294967296^((lim (a*2^s)).length+2-(lim (b*2^s)).length)*bv (lim (b*2^s)):=by
 have h:bv (lim (a*2^s)++[0,0])=a*2^s:=by
  unfold bv;rw[da,dk];simp[ai]
 have f:bv (lim (b*2^s))=b*2^s:=dk _;rw[h,f];have h1:=cO (a*2^s);have d:4294967296^((lim (b*2^s)).length-1)<=b*2^s:=by rw[vD];exact tS kD e
 have j:4294967296^((lim (a*2^s)).length+2-(lim (b*2^s)).length)*4294967296^((lim (b*2^s)).length-1)<=4294967296^((lim (a*2^s)).length+2-(lim (b*2^s)).length)*(b*2^s):=M5 _ d;rw[<-M4] at j
 have l:4294967296^(lim (a*2^s)).length<=4294967296^((lim (a*2^s)).length+2-(lim (b*2^s)).length+((lim (b*2^s)).length-1)):=M1 kD oM
 omega
theorem Iy {a s V n:Nat}:a*2^s=bv (Af n 0)*V+bv (lim (a*2^s)++[0,0]):=by
 unfold bv;rw[dQ,zZ,z6,da,dk];simp[ai]
theorem oN (a A c)(l:(lim a).length<=c)(b D d)(F:(lim b).length<=d)(y:(lim a).length<=3000000000)(z:(lim b).length<=3000000000)(i:a<b)(w h)(g:G w h)(C:S3 A (lim a) h)(H:S3 D (lim b) h):CR 172 #[.slice A ((lim a).length) c,.slice D ((lim b).length) d] w h (fun v h1=>∃ x u,v=.tuple #[x,u]/\RN h1 x (a/b)/\RN h1 u (a%b)):=by
 have e:=(((sS g).aS C).aS H);have B:=ei i;refine go Tryz.func172 [(0,qS A ((lim a).length) c),(1,qS D ((lim b).length) d)] rfl (aa e ax (ag (aa e ax (ar 27 e (iG a A c l b D d F oM oM _ _ e.g e.f.2.1 e.f.1) (fun w1 I e=>?_)))));have ⟨j,o⟩:=dT (p:=(bY a b:Int)<(0:Int)) oM;exact lB 28 j (ak (aa e cG (ae e [] (.tuple #[sZ,qS A ((lim a).length) c]) (⟨_,_,rfl,by rw[MN i];exact ⟨none,0,rfl,nR _,SlO.nil⟩,by rw[Am i];exact ⟨A,c,rfl,l,e.f.2.1⟩⟩))))
theorem tB {b:Nat}(h:(lim b).length=1):b<(2^32)/\(lim b).getD 0 0=b/\0<b:=by
 have h1:=cO b;rw[h] at h1;have a:0<b:=bV.1 oM;refine ⟨by omega,?_,a⟩;rw[FH a oM];rfl
theorem mF (a A c)(z:(lim a).length<=c)(b D d)(W:(lim b).length<=d)(K:(lim a).length<=3000000000)(L:(lim b).length<=3000000000)(u:b<=a)(h1:(lim b).length=1)(w h)(g:G w h)(U:S3 A (lim a) h)(X:S3 D (lim b) h):CR 172 #[.slice A ((lim a).length) c,.slice D ((lim b).length) d] w h (fun v h1=>∃ J F,v=.tuple #[J,F]/\RN h1 J (a/b)/\RN h1 F (a%b)):=by
 have e:=(((sS g).aS U).aS X);have M:=f0 u;obtain ⟨Z,l,i⟩:=tB h1;refine go Tryz.func172 [(0,qS A ((lim a).length) c),(1,qS D ((lim b).length) d)] rfl (aa e ax (ag (aa e ax (ar 27 e (iG a A c z b D d W oM oM _ _ e.g e.f.2.1 e.f.1) (fun w1 h2 e=>?_)))));have ⟨i,B⟩:=dF (p:=(bY a b:Int)<(0:Int)) oM;refine lB 28 i (ah (cK (cQ (aa e [.c,.v (nV ((lim b).length))] ?_))));have j:((((lim b).length:Nat):Int) == (1:Int))=true:=sf oM;have H:=eq_of_beq j;refine lB 32 j (ak (aa e ax (lX 36 D ((lim b).length) d 1 0 0 ((e.f.1).ok oM) ?_)));refine lH 37 (mW ((lim b).getD 0 0)) e ((e.f.1).el 0 oM) (lC 38 e (LO a A c z oM ((lim b).getD 0 0) oM oM _ _ e.g e.f.2.1) ?_);rintro _ w5 h6 e ⟨_,r,rfl,⟨C,I,rfl,o,Q⟩,y⟩;replace e:=e.aS Q;refine lL e [.c,.v (qS C ((lim (a/((lim b).getD 0 0))).length) I),.v (mW r),.c,.c] (aG (lL e ax ?_));have Y:=As a (show 0<(lim b).getD 0 0 by omega);refine lV 43 (mV r) ?_ (hr:=rU ((r:Int)) kR (bh oM oM));refine lC 44 e (qE r oM _ _ e.g) ?_;rintro _ _ _ e ⟨S,O,rfl,x,V⟩;replace e:=e.aS V;exact lL e ax (ae e [] (.tuple #[qS C ((lim (a/((lim b).getD 0 0))).length) I,qS S ((lim r).length) O]) (⟨_,_,rfl,by rw[l] at *;exact ⟨_,_,rfl,o,e.f.2.1⟩,by rw[<-l,<-y];exact ⟨_,_,rfl,x,e.f.1⟩⟩))
theorem se (a A c)(hc:(lim a).length<=c)(b D d)(hd:(lim b).length<=d)(hLa:(lim a).length<=3000000000)(hLb:(lim b).length<=3000000000)(hab:b<=a)(hb2:2<=(lim b).length)(s)(hs_:s=32*(lim b).length-nb b)(H e)(hva:lim (a*2^s)=H)(hvb:lim (b*2^s)=e)(w h)(g:G w h)(hA:S3 A (lim a) h)(hD:S3 D (lim b) h):CR 172 #[.slice A ((lim a).length) c,.slice D ((lim b).length) d] w h (fun v h1=>∃ v1 v2,v=.tuple #[v1,v2]/\RN h1 v1 (a/b)/\RN h1 v2 (a%b)):=by
 have z:=(((sS g).aS hA).aS hD);have hcl:=f0 hab;have hbp:0<b:=bV.1 oM;have hln:=nu b;have b2:s<32:=by omega
 have hvn:e.length=(lim b).length:=by rw[<-hvb,nu,Db hbp];omega
 have hlm:=dP hab;have has:=dP (show a<=a*2^s from Nat.le_mul_of_pos_right _ (M0 s));have bq:(lim (a*2^s)).length<=(lim a).length+1:=eU (by rw[MP];exact er (ND (cO a) (M0 s)) (M5 _ (ep (M1 kD (show s<=32 by omega)) (nR (2^32)))));have _:([0,0]:List Nat).length=2:=rfl;rw[hva] at has bq
 have bn:(H++[0,0]).length=(H.length+2):=by simp
 have Z:=Ld.lim (b*2^s);have bb:=ng (b*2^s) (NC hbp (M0 s));rw[hvb] at Z bb
 have hv1:=Z.get (e.length-1);have hv0:=Z.get (e.length-2);refine go Tryz.func172 [(0,qS A ((lim a).length) c),(1,qS D ((lim b).length) d)] rfl (aa z ax (ag (aa z ax (ar 27 z (iG a A c hc b D d hd oM oM _ _ z.g z.f.2.1 z.f.1) (fun w1 h2 z=>?_)))));have ⟨hb3,b1⟩:=dF (p:=(bY a b:Int)<(0:Int)) oM;refine lB 28 hb3 (ah (cK (cQ (aa z [.c,.v (nV ((lim b).length))] ?_))));have hb4:((((lim b).length:Nat):Int) == (1:Int))=false:=fB oM;have cd:=aj hb4;refine lB 32 hb4 (ah (cK (aa z [.c,.v (nV ((lim b).length))] (bw 47 (32*((lim b).length:Nat)) (32*(lim b).length) ?_))));refine lL z ac (ar 49 z (rZ b D d hd oM _ _ z.g z.f.1) (fun w5 h6 z=>bw 50 ((32*(lim b).length:Nat)-(nb b:Nat)) s (lL z ac (aG (lL z ax (lC 53 z (k7 b D d hd oM s oM _ _ z.g z.f.1) ?_))))));rintro _ _ _ z ⟨V,c8,rfl,hc9,zu⟩;rw[hvb] at hc9 zu ⊢
 replace z:=z.aS zu;refine lL z ac (aG (lR 54 153 0 ([]) z (fun zj _ _ z=>lL z ax (lC 57 z (k7 a A c hc oM s oM _ _ z.g z.f.r.2.1) ?_))));rintro _ _ _ z ⟨zk,yf,rfl,zU,zv⟩;rw[hva] at zU zv ⊢
 replace z:=z.aS zv;refine Mx 58 153 1 a8 0 zj zk H yf 4 (uW 0) z z.f.1 oM (fun _ _=>by kernel_rfl) (fun yg yi _ _ z=>lR 59 153 2 ([uW 0,uW 0]) z (fun ze _ _ z=>?_));replace z:=z.aS (SlO.of_flat (sz:=1) (f:=a8) (d:=0) (l:=[0,0]) (fun _=>rfl) z.f.1);refine Mb 60 0 153 1 yi yg H a8 0 (sB ze) ([0,0]) 2 4 (uW 0) z z.f.1 oM (fun zR zS _ _ z=>lL z ac (aG (lL z [.c,.v (nV e.length),.c] (aG (lL z ax (bw 65 ((e.length:Nat)-1) (e.length-1) ?_))))));refine lX 66 V e.length c8 1 (e.length-1:Nat) (e.length-1) ((z.f.q.1).ok oM) (lH 67 (mW (e.getD (e.length-1) 0)) z ((z.f.q.1).el (e.length-1) oM) (lV 68 (mV (e.getD (e.length-1) 0)) ?_ (hr:=rU (((e.getD (e.length-1) 0:Nat):Int)) kR (bh oM oM))));refine lL z ac (aG (lL z ax (bw 71 ((e.length:Nat)-2) (e.length-2) ?_)));refine lX 72 V e.length c8 1 (e.length-2:Nat) (e.length-2) ((z.f.q.1).ok oM) (lH 73 (mW (e.getD (e.length-2) 0)) z ((z.f.q.1).el (e.length-2) oM) (lV 74 (mV (e.getD (e.length-2) 0)) ?_ (hr:=rU (((e.getD (e.length-2) 0:Nat):Int)) kR (bh oM oM))));refine lL z ac (lN (bH [(4,sZ),(5,sZ),(8,nV s),(9,qS V e.length c8),(10,qS zR ((H++([0,0])).length) zS),(11,nV e.length),(12,mV (e.getD (e.length-1) 0)),(13,mV (e.getD (e.length-2) 0))] ?_));refine aa z [.c,.v (nV ((H++([0,0])).length)),.c] (bw 78 (((H++([0,0])).length:Nat)-(e.length:Nat)) ((H.length+2)-e.length) ?_);refine lK 79 153 ((H.length+2)-e.length) 1 4 (uW 0) a8 0 z (fun O _ yj z=>?_);have zW:(Af ((H.length+2)-e.length) 0).length=((H.length+2)-e.length):=by simp
 refine lL z ac (ag (aa z [.c,.v (nV ((H++([0,0])).length)),.c] (bw 83 (((H++([0,0])).length:Nat)-(e.length:Nat)) (((H++([0,0])).length:Nat)-e.length) ?_)));refine lV 84 (iV ((((H.length+2)-e.length:Nat):Int)-1)) ?_ (hr:=rS (((((H++([0,0])).length:Nat)-e.length:Nat)-1)) kR ((g5 oM oM).trans oM));refine lL z ac (aZ ?_);refine bH _ (CG.loop (fun μ_ Γ w_=>∃ (m:Nat)(rA:Z9)(S:Nat)(u:List Nat)(X:List Nat)(M:Hp),μ_=m/\Γ=[(4,sZ),(5,sZ),(8,nV s),(9,qS V e.length c8),(10,qS rA ((u).length) S),(11,nV e.length),(12,mV (e.getD (e.length-1) 0)),(13,mV (e.getD (e.length-2) 0)),(14,qS (sB O) ((H.length+2)-e.length) ((H.length+2)-e.length)),(15,iV ((m:Int)-1))]/\SS w h w_ M [⟨O,153,(X).flatMap a8⟩] [⟨153,1,rA,S,(u).length,(u).flatMap a8⟩] [S3 (sB ze) ([0,0]),fun M=>Seg M ze 0 ([uW 0,uW 0]),S3 zk (H),fun M=>Seg M zj 0 ([]),S3 V (e),S3 D (lim b),S3 A (lim a)]/\m<=(H.length+2)-e.length/\u.length=(H.length+2)/\Ld u/\X.length=(H.length+2)-e.length/\Ld X/\bv u<(2^32)^m*bv e/\a*2^s=bv X*bv e+bv u/\(∀ k,k<m->X.getD k 0=0)) _ ⟨(H.length+2)-e.length,zR,zS,H++[0,0],Af ((H.length+2)-e.length) 0,yj,rfl,rfl,z.to _ _,nR _,bn,(Dg.append (hva▸Ld.lim _) (Dg.cons kD (Dg.one kD))),zW,Ld.rep _,(by rw[<-hva,<-hvb];exact BR (hvb▸hvn) hb2 (by rw[hva];omega) (NC hbp (M0 s))),(by rw[<-hva];exact Iy),fun k _=>eJ⟩ ?_);rintro _ _ _ ⟨m,rA,S,u,X,_,b7,rfl,z,hm,hul,W,hql,hWq,hR,inv,hq0⟩;refine cQ (aa z ac ?_);cases zm:(decide ((0:Int)<=((m:Int)-1:Int)))
 .
  have zE:=oF zm;refine lB 86 zm (ah (CG.exit ?_))
  show CG _ _ _ _ _ _ _ _
  refine aa z ac ?_;have hm0:m=0:=by omega
  rw[hm0,NZ,Nk] at hR;obtain ⟨hQ,hRm⟩:=HS (show bv e=b*2^s by rw[<-hvb];exact dk _) rfl inv hR;obtain ⟨_,z,br,b4,b5⟩:=z.pub 0;replace z:=(z.to [] [⟨153,1,rA,S,(u).length,(u).flatMap a8⟩]).aS (SlO.of_flat (sz:=1) (f:=a8) (d:=0) (b:=O) (o:=0) (l:=X) (fun _=>rfl) br);refine ar 252 z (jM (sB O) ((H.length+2)-e.length) X ((H.length+2)-e.length) hql oM oM _ _ z.g z.f.1) (fun _ _ z=>lL z ac ?_);obtain ⟨_,z,zX⟩:=z.pubr 0 (A:=rA) (c:=S) (l:=u) (f:=a8) (ty:=153) (sz:=1) 0 (fun _=>rfl);refine ar 254 z (jM rA S u ((u).length) rfl oM zX _ _ z.g z.f.1) (fun _ _ z=>lL z ac (lV 256 (iV (-(s:Int))) ?_ (hr:=rS ((0-(s:Int))) kR (by rw[IntKind.wrap_i64];omega))));refine lC 257 z (Fc (bv u) rA S (tl u ((u).length)) (nh W rfl) (by have:=iN u u.length;omega) (by have:=iN u u.length;omega) s oM _ _ z.g (by rw[tM (n:=bv u) W rfl];exact (z.f.1).take _)) ?_;rintro _ _ _ z ⟨yk,yl,rfl,ya,yb⟩;replace z:=z.aS yb;exact lL z ax (ae z [] (.tuple #[qS (sB O) (tl X ((H.length+2)-e.length)) ((H.length+2)-e.length),qS yk ((lim (bv u/2^s)).length) yl]) (⟨_,_,rfl,RN.trim hWq hQ hql (nR _) z.f.r.1,by rw[<-hRm];exact ⟨_,_,rfl,ya,z.f.1⟩⟩))
 have zE:=oT zm;refine lB 86 zm (ak (cK (cQ (kZ (cQ (cR 17 [] mixed z ao ?_))))));have hm1:0<m:=by omega
 have hn2:2<=e.length:=by omega
 have hjn:m-1+e.length<u.length:=by omega
 have hR1:bv u<(2^32)^(m-1+1)*bv e:=by rw[show m-1+1=m by omega];exact hR
 have hle:=HJ hn2 rfl Z W hjn hR1;have hu2:=W.get (m-1+e.length);have hu1:=W.get (m-1+e.length-1);have hu0:=W.get (m-1+e.length-2);refine eV 0 89 (qS rA ((u).length) S) (eV 1 90 (iV ((m:Int)-1)) (eV 2 91 (nV e.length) (kL 3 92 (((m:Int)-1)+(e.length:Nat)) (m-1+e.length) ?_)));obtain ⟨zb,zG⟩:=z.rowA 0 (A:=rA) (c:=S) (m:=(u).length) (ty:=153) (sz:=1) (cs:=(u).flatMap a8) oM;subst zG;refine eX 4 93 (sB zb) ((u).length) S 1 (m-1+e.length:Nat) (m-1+e.length) rfl (Gj (ty:=153) (sz:=1) (c:=S) (m:=(u).length) (b:=zb) (cs:=(u).flatMap a8) 5 94 0 (mW (u.getD (m-1+e.length) 0)) (a8 (u.getD (m-1+e.length) 0)) z (fR (f:=a8) (sz:=1) (fun _=>rfl) 0 u (m-1+e.length) oM) (eV 6 95 (mV (u.getD (m-1+e.length) 0)) ?_ (hv:=fun _=>rU (((u.getD (m-1+e.length) 0:Nat):Int)) kR (bh oM oM))));refine eV 7 96 (mV ((u.getD (m-1+e.length) 0)*(2^32)%(2^64))) ?_ (hv:=fun _=>rU ((((u.getD (m-1+e.length) 0:Nat):Int)*(2^32))) kR (kf (u.getD (m-1+e.length) 0) (2^32)));refine eV 8 97 (qS (sB zb) ((u).length) S) (eV 9 98 (iV ((m:Int)-1)) (eV 10 99 (nV e.length) (kL 11 100 (((m:Int)-1)+(e.length:Nat)) (m-1+e.length) (kL 12 101 ((m-1+e.length:Nat)-1) (m-1+e.length-1) (eX 13 102 (sB zb) ((u).length) S 1 (m-1+e.length-1:Nat) (m-1+e.length-1) rfl (Gj (ty:=153) (sz:=1) (c:=S) (m:=(u).length) (b:=zb) (cs:=(u).flatMap a8) 14 103 0 (mW (u.getD (m-1+e.length-1) 0)) (a8 (u.getD (m-1+e.length-1) 0)) z (fR (f:=a8) (sz:=1) (fun _=>rfl) 0 u (m-1+e.length-1) oM) (eV 15 104 (mV (u.getD (m-1+e.length-1) 0)) ?_ (hv:=fun _=>rU (((u.getD (m-1+e.length-1) 0:Nat):Int)) kR (bh oM oM)))))))));refine eV 16 105 (mV ((u.getD (m-1+e.length) 0)*(2^32)+u.getD (m-1+e.length-1) 0)) ?_ (hv:=fun _=>aK (iO (t:=42) (u:=42) (x:=.tmp 96) (y:=.tmp 104) (a:=((u.getD (m-1+e.length) 0)*(2^32)%(2^64):Nat)) (b:=(u.getD (m-1+e.length-1) 0)) kR kR kR oM oM _) (by rw[Am (show (u.getD (m-1+e.length) 0)*(2^32)<(2^64) by omega),tg hu1]));refine bM z (fun _ ym z=>tV 17 16 (mV ((u.getD (m-1+e.length) 0)*(2^32)+u.getD (m-1+e.length-1) 0)) (rm (lL z ax (lV 108 (mV (((u.getD (m-1+e.length) 0)*(2^32)+u.getD (m-1+e.length-1) 0:Nat)/(e.getD (e.length-1) 0))) ?_ (hr:=aK (dU (t:=42) (u:=42) (x:=.tmp 106) (y:=.tmp 107) (k:=.u64) (a:=(((u.getD (m-1+e.length) 0)*(2^32)+u.getD (m-1+e.length-1) 0:Nat):Int)) (b:=((e.getD (e.length-1) 0:Nat):Int)) kR kR kR oM _) (lk ((u.getD (m-1+e.length) 0)*(2^32)+u.getD (m-1+e.length-1) 0:Nat) (e.getD (e.length-1) 0) oM))))));refine lL z ac (aG (lL z ax (lV 111 (mV (((u.getD (m-1+e.length) 0)*(2^32)+u.getD (m-1+e.length-1) 0:Nat)%(e.getD (e.length-1) 0))) ?_ (hr:=aK (fP (t:=42) (u:=42) (x:=.tmp 109) (y:=.tmp 110) (k:=.u64) (a:=(((u.getD (m-1+e.length) 0)*(2^32)+u.getD (m-1+e.length-1) 0:Nat):Int)) (b:=((e.getD (e.length-1) 0:Nat):Int)) kR kR kR oM _) (dH ((u.getD (m-1+e.length) 0)*(2^32)+u.getD (m-1+e.length-1) 0:Nat) (e.getD (e.length-1) 0))))));refine lL z ac (lN (CG.join (fun Γ w_=>∃ (I:Nat)(M:Hp),Γ=[(4,sZ),(5,sZ),(8,nV s),(9,qS V e.length c8),(10,qS (sB zb) ((u).length) S),(11,nV e.length),(12,mV (e.getD (e.length-1) 0)),(13,mV (e.getD (e.length-2) 0)),(14,qS (sB O) ((H.length+2)-e.length) ((H.length+2)-e.length)),(15,iV ((m:Int)-1)),(17,mV I)]/\SS w h w_ M [⟨O,153,(X).flatMap a8⟩] [⟨153,1,sB zb,S,(u).length,(u).flatMap a8⟩] [S3 (sB ze) ([0,0]),fun M=>Seg M ze 0 ([uW 0,uW 0]),S3 zk (H),fun M=>Seg M zj 0 ([]),S3 V (e),S3 D (lim b),S3 A (lim a)]/\E4 (u.getD (m-1+e.length) 0) (u.getD (m-1+e.length-1) 0) (u.getD (m-1+e.length-2) 0) (e.getD (e.length-1) 0) (e.getD (e.length-2) 0) I) ?_ ?_))
 .
  refine kZ ?_;refine bH _ (CG.loop (fun μ_ Γ w_=>∃ (g:Nat)(Q:Nat)(M:Hp),μ_=g/\Γ=[(4,sZ),(5,sZ),(8,nV s),(9,qS V e.length c8),(10,qS (sB zb) ((u).length) S),(11,nV e.length),(12,mV (e.getD (e.length-1) 0)),(13,mV (e.getD (e.length-2) 0)),(14,qS (sB O) ((H.length+2)-e.length) ((H.length+2)-e.length)),(15,iV ((m:Int)-1)),(17,mV g),(18,mV Q)]/\SS w h w_ M [⟨O,153,(X).flatMap a8⟩] [⟨153,1,sB zb,S,(u).length,(u).flatMap a8⟩] [S3 (sB ze) ([0,0]),fun M=>Seg M ze 0 ([uW 0,uW 0]),S3 zk (H),fun M=>Seg M zj 0 ([]),S3 V (e),S3 D (lim b),S3 A (lim a)]/\Gk (u.getD (m-1+e.length) 0) (u.getD (m-1+e.length-1) 0) (u.getD (m-1+e.length-2) 0) (e.getD (e.length-1) 0) (e.getD (e.length-2) 0) g Q/\Q<(2^32)/\g<(2^64)) _ ⟨(((u.getD (m-1+e.length) 0)*(2^32)+u.getD (m-1+e.length-1) 0:Nat)/(e.getD (e.length-1) 0):Nat),(((u.getD (m-1+e.length) 0)*(2^32)+u.getD (m-1+e.length-1) 0:Nat)%(e.getD (e.length-1) 0):Nat),ym,rfl,rfl,z.to _ _,(Gk.start oM hu0),(by have:=As (u.getD (m-1+e.length) 0*(2^32)+u.getD (m-1+e.length-1) 0) (show 0<e.getD (e.length-1) 0 by omega);omega),(by have:=Nat.div_le_self ((u.getD (m-1+e.length) 0)*(2^32)+u.getD (m-1+e.length-1) 0) (e.getD (e.length-1) 0);omega)⟩ ?_);rintro _ _ _ ⟨g,Q,zl,cj,rfl,z,hG,hrh,hgb⟩;have cm:=fun hg=>hG.big hg hle hu1
  refine cQ (aa z ac ?_);cases zn:(decide (((2^32):Int)<=(g:Int)))
  .
   have zH:=oF zn;refine lB 113 zn (lL z ax ?_);cases zo:(decide ((Q:Int)<((2^32):Int)))
   .
    have zI:=oF zo;refine lB 116 zo (lL z ac (lG 118 ?_));refine lG 119 (lG 120 (lG 121 (lG 122 (lG 123 (lG 124 (lG 125 (lG 126 (lG 127 (lG 128 (lG 129 (lG 130 (lG 131 (lG 132 (lL z [.v qF,.v qF] (ah (CG.exit ?_))))))))))))))));intro a_ Y;exact ⟨_,⟨g,zl,rfl,z.to _ _,(hG.fin oM hv0 (by first|exact .inr oM|exact .inl oM))⟩,Y.to _ kR⟩
   have zI:=oT zo;refine lB 116 zo (lL z cG (lV 120 (mV (g*(e.getD (e.length-2) 0))) ?_ (hr:=rU (((g:Int)*((e.getD (e.length-2) 0:Nat):Int))) kR (jN g (e.getD (e.length-2) 0) (by have:=CN (show g<(2^32) by omega) hv0;omega)))));refine lL z ac (lV 122 (mV (Q*(2^32))) ?_ (hr:=rU (((Q:Int)*(2^32))) kR ((bh oM oM).trans oM)));refine lL z cG (bw 126 (((m:Int)-1)+(e.length:Nat)) (m-1+e.length) ?_);refine bw 127 ((m-1+e.length:Nat)-2) (m-1+e.length-2) (lX 128 (sB zb) ((u).length) S 1 (m-1+e.length-2:Nat) (m-1+e.length-2) rfl (Lb (ty:=153) (sz:=1) (c:=S) (m:=(u).length) (b:=zb) (cs:=(u).flatMap a8) 129 0 (mW (u.getD (m-1+e.length-2) 0)) (a8 (u.getD (m-1+e.length-2) 0)) z (fR (f:=a8) (sz:=1) (fun _=>rfl) 0 u (m-1+e.length-2) oM) (lV 130 (mV (u.getD (m-1+e.length-2) 0)) ?_ (hr:=rU (((u.getD (m-1+e.length-2) 0:Nat):Int)) kR (bh oM oM)))));refine lV 131 (mV (Q*(2^32)+u.getD (m-1+e.length-2) 0)) ?_ (hr:=aK (iO (t:=42) (u:=42) (x:=.tmp 122) (y:=.tmp 130) (a:=(Q*(2^32))) (b:=(u.getD (m-1+e.length-2) 0)) kR kR kR oM oM _) (by rw[tg hu0]));cases zp:(decide (((Q*(2^32)+u.getD (m-1+e.length-2) 0:Nat):Int)<((g*(e.getD (e.length-2) 0):Nat):Int)))
   .
    have zJ:=oF zp;refine lB 132 zp (lL z [.v qF,.v qF] (ah (CG.exit ?_)));intro a_ Y;exact ⟨_,⟨g,zl,rfl,z.to _ _,(hG.fin oM hv0 (by first|exact .inr oM|exact .inl oM))⟩,Y.to _ kR⟩
   have zJ:=oT zp;refine lB 132 zp (lL z [.v qT,.v qT] (ak (cK (kZ (aA ?_)))));have hG2:Gk (u.getD (m-1+e.length) 0) (u.getD (m-1+e.length-1) 0) (u.getD (m-1+e.length-2) 0) (e.getD (e.length-1) 0) (e.getD (e.length-2) 0) (g-1) (Q+e.getD (e.length-1) 0):=by first|exact hG.decB oM|exact (hG.decT oM).2
   have hg0:0<g:=by first|omega|exact (hG.decT oM).1
   refine lL z ac (lV 136 (mV (g-1)) ?_ (hr:=rU (((g:Int)-(1:Int))) kR (fX g 1 oM oM)));refine lL z ac (aG (lL z ax (lV 139 (mV (Q+(e.getD (e.length-1) 0))) ?_ (hr:=rU (((Q:Int)+((e.getD (e.length-1) 0:Nat):Int))) kR (fb Q (e.getD (e.length-1) 0) oM)))));refine lL z ac (aG (lL z ac ?_));cases zq:(decide (((2^32):Int)<=((Q+(e.getD (e.length-1) 0):Nat):Int)))
   .
    have zK:=oF zq;refine lB 141 zq (lN (bH [(4,sZ),(5,sZ),(8,nV s),(9,qS V e.length c8),(10,qS (sB zb) ((u).length) S),(11,nV e.length),(12,mV (e.getD (e.length-1) 0)),(13,mV (e.getD (e.length-2) 0)),(14,qS (sB O) ((H.length+2)-e.length) ((H.length+2)-e.length)),(15,iV ((m:Int)-1)),(17,mV (g-1)),(18,mV (Q+(e.getD (e.length-1) 0))),(141,qF)] ?_));refine dE (CG.skip ?_);intro a_ Y;refine ⟨_,_,?_,⟨g-1,(Q+(e.getD (e.length-1) 0):Nat),zl,rfl,rfl,z.to _ _,hG2,oM,oM⟩,Y.to _ kR⟩
    omega
   have zK:=oT zq;refine lB 141 zq (lN (bH [(4,sZ),(5,sZ),(8,nV s),(9,qS V e.length c8),(10,qS (sB zb) ((u).length) S),(11,nV e.length),(12,mV (e.getD (e.length-1) 0)),(13,mV (e.getD (e.length-2) 0)),(14,qS (sB O) ((H.length+2)-e.length) ((H.length+2)-e.length)),(15,iV ((m:Int)-1)),(17,mV (g-1)),(18,mV (Q+(e.getD (e.length-1) 0))),(141,qT)] ?_));refine ck (CG.exit ?_);have bm:=fun hg=>hG2.big hg hle hu1
   intro a_ Y;exact ⟨_,⟨(g-1),zl,rfl,z.to _ _,(hG2.fin oM hv0 (.inl oM))⟩,Y.to _ kR⟩
  have zH:=oT zn;refine lB 113 zn (lL z ac (lG 115 ?_));refine lG 116 (lG 117 (lG 118 (lG 119 (lG 120 (lG 121 (lG 122 (lG 123 (lG 124 (lG 125 (lG 126 (lG 127 (lG 128 (lG 129 (lG 130 (lG 131 (lG 132 (lG 133 (lL z [.v qT] (ak (cK (kZ (aA ?_))))))))))))))))))))));have hG2:Gk (u.getD (m-1+e.length) 0) (u.getD (m-1+e.length-1) 0) (u.getD (m-1+e.length-2) 0) (e.getD (e.length-1) 0) (e.getD (e.length-2) 0) (g-1) (Q+e.getD (e.length-1) 0):=by first|exact hG.decB oM|exact (hG.decT oM).2
  have hg0:0<g:=by first|omega|exact (hG.decT oM).1
  refine lL z ac (lV 136 (mV (g-1)) ?_ (hr:=rU (((g:Int)-(1:Int))) kR (fX g 1 oM oM)));refine lL z ac (aG (lL z ax (lV 139 (mV (Q+(e.getD (e.length-1) 0))) ?_ (hr:=rU (((Q:Int)+((e.getD (e.length-1) 0:Nat):Int))) kR (fb Q (e.getD (e.length-1) 0) oM)))));refine lL z ac (aG (lL z ac ?_));cases zr:(decide (((2^32):Int)<=((Q+(e.getD (e.length-1) 0):Nat):Int)))
  .
   have zL:=oF zr;refine lB 141 zr (lN (bH [(4,sZ),(5,sZ),(8,nV s),(9,qS V e.length c8),(10,qS (sB zb) ((u).length) S),(11,nV e.length),(12,mV (e.getD (e.length-1) 0)),(13,mV (e.getD (e.length-2) 0)),(14,qS (sB O) ((H.length+2)-e.length) ((H.length+2)-e.length)),(15,iV ((m:Int)-1)),(17,mV (g-1)),(18,mV (Q+(e.getD (e.length-1) 0))),(141,qF)] ?_));refine dE (CG.skip ?_);intro a_ Y;refine ⟨_,_,?_,⟨g-1,(Q+(e.getD (e.length-1) 0):Nat),zl,rfl,rfl,z.to _ _,hG2,oM,oM⟩,Y.to _ kR⟩
   omega
  have zL:=oT zr;refine lB 141 zr (lN (bH [(4,sZ),(5,sZ),(8,nV s),(9,qS V e.length c8),(10,qS (sB zb) ((u).length) S),(11,nV e.length),(12,mV (e.getD (e.length-1) 0)),(13,mV (e.getD (e.length-2) 0)),(14,qS (sB O) ((H.length+2)-e.length) ((H.length+2)-e.length)),(15,iV ((m:Int)-1)),(17,mV (g-1)),(18,mV (Q+(e.getD (e.length-1) 0))),(141,qT)] ?_));refine ck (CG.exit ?_);have bm:=fun hg=>hG2.big hg hle hu1
  intro a_ Y;exact ⟨_,⟨(g-1),zl,rfl,z.to _ _,(hG2.fin oM hv0 (.inl oM))⟩,Y.to _ kR⟩
 rintro _ _ ⟨I,yn,rfl,z,hH⟩;refine aA ?_;have hgl:=hH.2.2;have hGd:=C9 (n:=e.length) (j:=m-1) hn2 rfl Z W hjn bb hR1 hH;refine lL z ac (aG (lL z ac (ag (aa z ac (aZ ?_)))));refine bH _ (CG.loop (fun μ_ Γ w_=>∃ (i:Nat)(raA:Z9)(J:Nat)(C:List Nat)(K:Nat)(U:Nat)(M:Hp),μ_=e.length-i/\Γ=[(4,sZ),(5,sZ),(8,nV s),(9,qS V e.length c8),(10,qS raA ((C).length) J),(11,nV e.length),(12,mV (e.getD (e.length-1) 0)),(13,mV (e.getD (e.length-2) 0)),(14,qS (sB O) ((H.length+2)-e.length) ((H.length+2)-e.length)),(15,iV ((m:Int)-1)),(17,mV I),(21,nV i),(19,mV K),(20,mV U)]/\SS w h w_ M [⟨O,153,(X).flatMap a8⟩] [⟨153,1,raA,J,(C).length,(C).flatMap a8⟩] [S3 (sB ze) ([0,0]),fun M=>Seg M ze 0 ([uW 0,uW 0]),S3 zk (H),fun M=>Seg M zj 0 ([]),S3 V (e),S3 D (lim b),S3 A (lim a)]/\i<=e.length/\C.length=(H.length+2)/\Ld C/\K<(2^32)/\U<=1/\ai (2^32) C+(2^32)^(m-1)*(I*ai (2^32) (e.take i))=bv u+(2^32)^(m-1+i)*(K+U)/\Above C u (m-1+e.length+1)) _ ⟨0,sB zb,S,u,0,0,yn,rfl,rfl,z.to _ _,NY _,hul,W,oM,oM,(by show ai _ u+_=ai _ u+_;simp[ai]),Above.refl _ _⟩ ?_);rintro _ _ _ ⟨i,raA,J,C,K,U,zw,ch,rfl,z,hi,hua,hWa,hcy,hbo,bj,bl⟩;have b6:=hWa.get (m-1+i);have hvi:=Z.get i;refine cQ (aa z ax ?_);cases zs:(decide ((i:Int)<(e.length:Int)))
 .
  have zM:=oF zs;refine lB 144 zs (ah (CG.exit ?_))
  show CG _ _ _ _ _ _ _ _
  refine aA ?_;have b0:=hWa.get (m-1+e.length);refine lL z cG (bw 182 (((m:Int)-1)+(e.length:Nat)) (m-1+e.length) ?_);obtain ⟨zd,zN⟩:=z.rowA 0 (A:=raA) (c:=J) (m:=(C).length) (ty:=153) (sz:=1) (cs:=(C).flatMap a8) oM;subst zN;refine lX 183 (sB zd) ((C).length) J 1 (m-1+e.length:Nat) (m-1+e.length) rfl (Lb (ty:=153) (sz:=1) (c:=J) (m:=(C).length) (b:=zd) (cs:=(C).flatMap a8) 184 0 (mW (C.getD (m-1+e.length) 0)) (a8 (C.getD (m-1+e.length) 0)) z (fR (f:=a8) (sz:=1) (fun _=>rfl) 0 C (m-1+e.length) oM) (lV 185 (mV (C.getD (m-1+e.length) 0)) ?_ (hr:=rU (((C.getD (m-1+e.length) 0:Nat):Int)) kR (bh oM oM))));refine lL z ac (lV 187 (mV (((C.getD (m-1+e.length) 0)+((2^64)-K))%(2^64))) ?_ (hr:=rU ((((C.getD (m-1+e.length) 0:Nat):Int)-(K:Int))) kR (lM (C.getD (m-1+e.length) 0) K oM)));refine lL z ac (lV 189 (mV (((((C.getD (m-1+e.length) 0)+((2^64)-K))%(2^64):Nat)+((2^64)-U))%(2^64))) ?_ (hr:=rU ((((((C.getD (m-1+e.length) 0)+((2^64)-K))%(2^64):Nat):Int)-(U:Int))) kR (lM (((C.getD (m-1+e.length) 0)+((2^64)-K))%(2^64):Nat) U oM)));refine lL z ac (aG ?_);obtain ⟨t3_,ht3_⟩:∃ x:Nat,x=(((((C.getD (m-1+e.length) 0)+((2^64)-K))%(2^64):Nat)+((2^64)-U))%(2^64):Nat):=⟨_,rfl⟩;rw[<-ht3_];rw[show i=e.length by omega] at bj
  obtain ⟨hT1,hT2⟩:=Cd (t:=t3_) (hWa.get (m-1+e.length)) hcy hbo ht3_;have hE:=AF oM bj (s:=(t3_%(2^32))) (bo':=t3_/(2^63)) oM;refine lL z cG (bw 193 (((m:Int)-1)+(e.length:Nat)) (m-1+e.length) ?_);refine lL z ac (lV 195 (mW (t3_%(2^32))) ?_ (hr:=rT ((t3_:Int)) kR (g8 _)));refine lX 196 (sB zd) ((C).length) J 1 (m-1+e.length:Nat) (m-1+e.length) rfl (GM (ty:=153) (c:=J) (b:=zd) 0 (m-1+e.length) 0 ([mW (t3_%(2^32))]) C a8 1 0 (t3_%(2^32)) z oM (fun _ z=>?_));replace z:=z.to [⟨O,153,(X).flatMap a8⟩] [⟨153,1,sB zd,J,(C).length,(C.set (m-1+e.length) (t3_%(2^32))).flatMap a8⟩];refine lN (CG.join (fun Γ w_=>∃ (gz:Nat)(rzA:Z9)(rzc:Nat)(uz:List Nat)(M:Hp),Γ=[(4,sZ),(5,sZ),(8,nV s),(9,qS V e.length c8),(11,nV e.length),(12,mV (e.getD (e.length-1) 0)),(13,mV (e.getD (e.length-2) 0)),(14,qS (sB O) ((H.length+2)-e.length) ((H.length+2)-e.length)),(15,iV ((m:Int)-1)),(17,mV gz),(10,qS rzA ((uz).length) rzc)]/\SS w h w_ M [⟨O,153,(X).flatMap a8⟩] [⟨153,1,rzA,rzc,(uz).length,(uz).flatMap a8⟩] [S3 (sB ze) ([0,0]),fun M=>Seg M ze 0 ([uW 0,uW 0]),S3 zk (H),fun M=>Seg M zj 0 ([]),S3 V (e),S3 D (lim b),S3 A (lim a)]/\uz.length=(H.length+2)/\Ld uz/\gz<(2^32)/\bv uz<(2^32)^(m-1)*bv e/\bv uz+(2^32)^(m-1)*(gz*bv e)=bv u) ?_ ?_)
  .
   refine aA ?_;have hW4:Ld (C.set (m-1+e.length) (t3_%(2^32))):=hWa.set _ (As _ kD);have bd:Above (C.set (m-1+e.length) (t3_%(2^32))) u (m-1+e.length+1):=bl.set oM oM;have hl4:(C.set (m-1+e.length) (t3_%(2^32))).length=(H.length+2):=by rw[NI];exact hua
   refine lL z ac (lV 198 (mV (t3_/(2^63))) ?_ (hr:=aK (n:=NW (t3_:Int) (2^63)) kR (eN _ (2^63))));cases zt:(((t3_/(2^63):Nat):Int) == (1:Int))
   .
    have zP:=aj zt;refine lB 199 zt (ah (CG.skip ?_));have hD_:=FS hn2 rfl Z W hW4 hjn bb hR1 hGd bd (by rw[show t3_/(2^63)=0 by omega] at hE;exact hE);have hDw:=hW4;have hDg:=hgl;have hDu:=hD_.1;have hDe:=hD_.2;have hDl:=hl4;intro a_ Y;replace z:=z.rown [⟨153,1,sB zd,J,(C.set (m-1+e.length) (t3_%(2^32))).length,(C.set (m-1+e.length) (t3_%(2^32))).flatMap a8⟩] (by simp only[NI]);exact ⟨_,⟨I,sB zd,J,C.set (m-1+e.length) (t3_%(2^32)),zw,rfl,z.to _ _,hDl,hDw,hDg,hDu,hDe⟩,Y.to _ (by simp only[NI];kernel_rfl)⟩
   have zP:=eq_of_beq zt;refine lB 199 zt (ak (aa z ac ?_));have hE1:=hE;rw[show t3_/(2^63)=1 by omega] at hE1
   have hgp:=Hk hn2 rfl Z W hW4 hjn bb hR1 hGd bd hE1;refine lV 201 (mV (I-1)) ?_ (hr:=rU (((I:Int)-(1:Int))) kR (fX I 1 oM oM));refine lL z ac (lN (bH [(4,sZ),(5,sZ),(8,nV s),(9,qS V e.length c8),(10,qS (sB zd) ((C).length) J),(11,nV e.length),(12,mV (e.getD (e.length-1) 0)),(13,mV (e.getD (e.length-2) 0)),(14,qS (sB O) ((H.length+2)-e.length) ((H.length+2)-e.length)),(15,iV ((m:Int)-1)),(17,mV (I-1)),(19,mV K)] ?_));refine aa z ac (ag (aa z ac (aZ ?_)));replace z:=z.rown [⟨153,1,sB zd,J,(C.set (m-1+e.length) (t3_%(2^32))).length,(C.set (m-1+e.length) (t3_%(2^32))).flatMap a8⟩] (by simp only[NI]);refine bH _ (CG.loop (fun μ_ Γ w_=>∃ (F:Nat)(rbA:Z9)(L:Nat)(B:List Nat)(c2:Nat)(M:Hp),μ_=e.length-F/\Γ=[(4,sZ),(5,sZ),(8,nV s),(9,qS V e.length c8),(10,qS rbA ((B).length) L),(11,nV e.length),(12,mV (e.getD (e.length-1) 0)),(13,mV (e.getD (e.length-2) 0)),(14,qS (sB O) ((H.length+2)-e.length) ((H.length+2)-e.length)),(15,iV ((m:Int)-1)),(17,mV (I-1)),(24,nV F),(19,mV c2)]/\SS w h w_ M [⟨O,153,(X).flatMap a8⟩] [⟨153,1,rbA,L,(B).length,(B).flatMap a8⟩] [S3 (sB ze) ([0,0]),fun M=>Seg M ze 0 ([uW 0,uW 0]),S3 zk (H),fun M=>Seg M zj 0 ([]),S3 V (e),S3 D (lim b),S3 A (lim a)]/\F<=e.length/\B.length=(H.length+2)/\Ld B/\c2<=1/\ai (2^32) B+(2^32)^(m-1+F)*c2=ai (2^32) (C.set (m-1+e.length) (t3_%(2^32)))+(2^32)^(m-1)*ai (2^32) (e.take F)/\Above B u (m-1+e.length+1)) _ ⟨0,sB zd,J,C.set (m-1+e.length) (t3_%(2^32)),0,zw,rfl,(by simp only[NI]<;>rfl),z.to _ _,NY _,hl4,hW4,oM,(by simp[ai]),bd⟩ ?_);rintro _ _ _ ⟨F,rbA,L,B,c2,yc,bz,rfl,z,hi2,hub,hWb,hc2,qf,bk⟩;refine cQ (aa z ax ?_);cases zi:(decide ((F:Int)<(e.length:Int)))
   .
    have zx:=oF zi;refine lB 204 zi (ah (CG.exit ?_))
    show CG _ _ _ _ _ _ _ _
    refine kQ ?_;have cf:=hWb.get (m-1+e.length);refine lL z cG (bw 234 (((m:Int)-1)+(e.length:Nat)) (m-1+e.length) ?_);refine lL z cG (bw 238 (((m:Int)-1)+(e.length:Nat)) (m-1+e.length) ?_);obtain ⟨zf,zA⟩:=z.rowA 0 (A:=rbA) (c:=L) (m:=(B).length) (ty:=153) (sz:=1) (cs:=(B).flatMap a8) oM;subst zA;refine lX 239 (sB zf) ((B).length) L 1 (m-1+e.length:Nat) (m-1+e.length) rfl (Lb (ty:=153) (sz:=1) (c:=L) (m:=(B).length) (b:=zf) (cs:=(B).flatMap a8) 240 0 (mW (B.getD (m-1+e.length) 0)) (a8 (B.getD (m-1+e.length) 0)) z (fR (f:=a8) (sz:=1) (fun _=>rfl) 0 B (m-1+e.length) oM) (lV 241 (mV (B.getD (m-1+e.length) 0)) ?_ (hr:=rU (((B.getD (m-1+e.length) 0:Nat):Int)) kR (bh oM oM))));refine lL z ac (lV 243 (mV ((B.getD (m-1+e.length) 0)+c2)) ?_ (hr:=rU ((((B.getD (m-1+e.length) 0:Nat):Int)+(c2:Int))) kR (fb (B.getD (m-1+e.length) 0) c2 oM)));refine lV 244 (mW (((B.getD (m-1+e.length) 0)+c2:Nat)%(2^32))) ?_ (hr:=rT ((((B.getD (m-1+e.length) 0)+c2:Nat):Int)) kR (g8 _));refine lX 245 (sB zf) ((B).length) L 1 (m-1+e.length:Nat) (m-1+e.length) rfl (GM (ty:=153) (c:=L) (b:=zf) 0 (m-1+e.length) 0 ([mW (((B.getD (m-1+e.length) 0)+c2:Nat)%(2^32))]) B a8 1 0 (((B.getD (m-1+e.length) 0)+c2:Nat)%(2^32):Nat) z oM (fun _ z=>?_));replace z:=z.to [⟨O,153,(X).flatMap a8⟩] [⟨153,1,sB zf,L,(B).length,(B.set (m-1+e.length) (((B.getD (m-1+e.length) 0)+c2:Nat)%(2^32):Nat)).flatMap a8⟩];refine lD ?_;rw[show F=e.length by omega] at qf
    have hE3:=Cm (s:=(B.getD (m-1+e.length) 0+c2)%(2^32)) (c':=(B.getD (m-1+e.length) 0+c2)/(2^32)) oM qf (NH _ _);have hDw:Ld (B.set (m-1+e.length) (((B.getD (m-1+e.length) 0)+c2:Nat)%(2^32):Nat)):=hWb.set _ (As _ kD);obtain ⟨hDu,hDe,hDp⟩:=HT hn2 rfl Z W hW4 hDw hjn bb hR1 hGd bd (bk.set oM oM) hE1 hE3;have hDg:I-1<(2^32):=by omega
    have hDl:(B.set (m-1+e.length) (((B.getD (m-1+e.length) 0)+c2:Nat)%(2^32):Nat)).length=(H.length+2):=by rw[NI];exact hub
    intro a_ Y;replace z:=z.rown [⟨153,1,sB zf,L,(B.set (m-1+e.length) (((B.getD (m-1+e.length) 0)+c2:Nat)%(2^32):Nat)).length,(B.set (m-1+e.length) (((B.getD (m-1+e.length) 0)+c2:Nat)%(2^32):Nat)).flatMap a8⟩] (by simp only[NI]);exact ⟨_,⟨(I-1),sB zf,L,B.set (m-1+e.length) (((B.getD (m-1+e.length) 0)+c2:Nat)%(2^32):Nat),yc,rfl,z.to _ _,hDl,hDw,hDg,hDu,hDe⟩,Y.to _ (by simp only[NI];kernel_rfl)⟩
   have zx:=oT zi;refine lB 204 zi (ak (cK (cQ (kZ (cQ (cR 15 [] mixed z ao ?_))))));have b3:=Z.get F;have b9:=hWb.get (m-1+F);refine eV 0 207 (mV c2) (eV 1 208 (qS rbA ((B).length) L) (eV 2 209 (iV ((m:Int)-1)) (eV 3 210 (nV F) (kL 4 211 (((m:Int)-1)+(F:Nat)) (m-1+F) ?_))));obtain ⟨zg,zB⟩:=z.rowA 0 (A:=rbA) (c:=L) (m:=(B).length) (ty:=153) (sz:=1) (cs:=(B).flatMap a8) oM;subst zB;refine eX 5 212 (sB zg) ((B).length) L 1 (m-1+F:Nat) (m-1+F) rfl (Gj (ty:=153) (sz:=1) (c:=L) (m:=(B).length) (b:=zg) (cs:=(B).flatMap a8) 6 213 0 (mW (B.getD (m-1+F) 0)) (a8 (B.getD (m-1+F) 0)) z (fR (f:=a8) (sz:=1) (fun _=>rfl) 0 B (m-1+F) oM) (eV 7 214 (mV (B.getD (m-1+F) 0)) ?_ (hv:=fun _=>rU (((B.getD (m-1+F) 0:Nat):Int)) kR (bh oM oM))));refine eV 8 215 (mV (c2+(B.getD (m-1+F) 0))) ?_ (hv:=fun _=>rU (((c2:Int)+((B.getD (m-1+F) 0:Nat):Int))) kR (fb c2 (B.getD (m-1+F) 0) oM));refine eV 9 216 (qS V e.length c8) (eV 10 217 (nV F) (eX 11 218 V e.length c8 1 (F:Nat) F ((z.f.q.1).ok oM) (eH 12 219 (mW (e.getD F 0)) z ((z.f.q.1).el F oM) (eV 13 220 (mV (e.getD F 0)) ?_ (hv:=fun _=>rU (((e.getD F 0:Nat):Int)) kR (bh oM oM))))));refine eV 14 221 (mV ((c2+(B.getD (m-1+F) 0):Nat)+(e.getD F 0))) ?_ (hv:=fun _=>rU ((((c2+(B.getD (m-1+F) 0):Nat):Int)+((e.getD F 0:Nat):Int))) kR (fb (c2+(B.getD (m-1+F) 0):Nat) (e.getD F 0) oM));refine bM z (fun _ yd z=>tV 15 19 (mV ((c2+(B.getD (m-1+F) 0):Nat)+(e.getD F 0))) (rm (lL z cG (bw 225 (((m:Int)-1)+(F:Nat)) (m-1+F) ?_))));refine lL z ac (lV 227 (mW (((c2+(B.getD (m-1+F) 0):Nat)+(e.getD F 0):Nat)%(2^32))) ?_ (hr:=rT ((((c2+(B.getD (m-1+F) 0):Nat)+(e.getD F 0):Nat):Int)) kR (g8 _)));refine lX 228 (sB zg) ((B).length) L 1 (m-1+F:Nat) (m-1+F) rfl (GM (ty:=153) (c:=L) (b:=zg) 0 (m-1+F) 0 ([mW (((c2+(B.getD (m-1+F) 0):Nat)+(e.getD F 0):Nat)%(2^32))]) B a8 1 0 (((c2+(B.getD (m-1+F) 0):Nat)+(e.getD F 0):Nat)%(2^32):Nat) z oM (fun _ z=>?_));replace z:=z.to [⟨O,153,(X).flatMap a8⟩] [⟨153,1,sB zg,L,(B).length,(B.set (m-1+F) (((c2+(B.getD (m-1+F) 0):Nat)+(e.getD F 0):Nat)%(2^32):Nat)).flatMap a8⟩];refine lN (kQ (lL z ac (lV 230 (mV (((c2+(B.getD (m-1+F) 0):Nat)+(e.getD F 0):Nat)/(2^32))) ?_ (hr:=aK (n:=NW (((c2+(B.getD (m-1+F) 0):Nat)+(e.getD F 0):Nat):Int) (2^32)) kR (eN _ (2^32))))));refine lL z ac (lN (kQ (lL z ac (bw 206 ((F:Nat)+1) (F+1) ?_))));refine lL z ac (lD ?_);intro a_ Y;replace z:=z.rown [⟨153,1,sB zg,L,(B.set (m-1+F) (((c2+(B.getD (m-1+F) 0):Nat)+(e.getD F 0):Nat)%(2^32):Nat)).length,(B.set (m-1+F) (((c2+(B.getD (m-1+F) 0):Nat)+(e.getD F 0):Nat)%(2^32):Nat)).flatMap a8⟩] (by simp only[NI]);refine ⟨_,_,?_,⟨F+1,sB zg,L,B.set (m-1+F) (((c2+(B.getD (m-1+F) 0):Nat)+(e.getD F 0):Nat)%(2^32):Nat),(((c2+(B.getD (m-1+F) 0):Nat)+(e.getD F 0):Nat)/(2^32):Nat),yd,rfl,rfl,z.to _ _,oM,(by rw[NI];exact hub),(hWb.set _ (As _ kD)),oM,(uS oM qf (NH _ _ |>.trans oM)),(bk.set oM oM)⟩,Y.to _ (by simp only[NI];kernel_rfl)⟩
   omega
  rintro _ _ ⟨gz,rzA,rzc,uz,ye,rfl,z,hDl,hDw,hDg,hDu,hDe⟩;refine kQ (lL z cG (lV 249 (mW gz) ?_ (hr:=rT ((gz:Int)) kR (qi oM oM))));refine lX 250 (sB O) ((H.length+2)-e.length) ((H.length+2)-e.length) 1 ((m:Int)-1) (m-1) rfl (lW 0 X a8 1 (m-1) gz z oM (fun _ z=>?_));have zQ:((X).set (m-1) gz).length=((H.length+2)-e.length):=by rw[NI];exact hql
  replace z:=z.to [⟨O,153,((X).set (m-1) gz).flatMap a8⟩] [⟨153,1,rzA,rzc,(uz).length,(uz).flatMap a8⟩];refine lN (kQ (lL z ac (lV 88 (iV (((m-1:Nat):Int)-1)) ?_ (hr:=rS ((((m:Int)-1)-1)) kR ((g5 oM oM).trans oM)))));refine lL z ac (lD ?_);intro a_ Y;refine ⟨_,_,?_,⟨m-1,rzA,rzc,uz,(X).set (m-1) gz,ye,rfl,rfl,z.to _ _,oM,hDl,hDw,zQ,(hWq.set _ hDg),hDu,(HQ oM (hq0 _ oM) inv hDe),(fun k hk=>by rw[bF oM,if_neg oM];exact hq0 k oM)⟩,Y.to _ kR⟩
  omega
 have zM:=oT zs;refine lB 144 zs (ak (cK (cQ (kZ (aA ?_)))));have hgv:=CN hgl hvi;refine lL z m4 (lX 151 V e.length c8 1 (i:Nat) i ((z.f.q.1).ok oM) ?_);refine lH 152 (mW (e.getD i 0)) z ((z.f.q.1).el i oM) (lV 153 (mV (e.getD i 0)) ?_ (hr:=rU (((e.getD i 0:Nat):Int)) kR (bh oM oM)));refine lV 154 (mV (I*(e.getD i 0))) ?_ (hr:=rU (((I:Int)*((e.getD i 0:Nat):Int))) kR (jN I (e.getD i 0) oM));refine lV 155 (mV (K+(I*(e.getD i 0)))) ?_ (hr:=rU (((K:Int)+((I*(e.getD i 0):Nat):Int))) kR (fb K (I*(e.getD i 0)) oM));refine lL z ac (aG (lL z cG (bw 159 (((m:Int)-1)+(i:Nat)) (m-1+i) ?_)));obtain ⟨zc,zD⟩:=z.rowA 0 (A:=raA) (c:=J) (m:=(C).length) (ty:=153) (sz:=1) (cs:=(C).flatMap a8) oM;subst zD;refine lX 160 (sB zc) ((C).length) J 1 (m-1+i:Nat) (m-1+i) rfl (Lb (ty:=153) (sz:=1) (c:=J) (m:=(C).length) (b:=zc) (cs:=(C).flatMap a8) 161 0 (mW (C.getD (m-1+i) 0)) (a8 (C.getD (m-1+i) 0)) z (fR (f:=a8) (sz:=1) (fun _=>rfl) 0 C (m-1+i) oM) (lV 162 (mV (C.getD (m-1+i) 0)) ?_ (hr:=rU (((C.getD (m-1+i) 0:Nat):Int)) kR (bh oM oM))));refine lL z ac (lV 164 (mV ((K+(I*(e.getD i 0)):Nat)%(2^32))) ?_ (hr:=sR (t:=42) (u:=42) (x:=.tmp 163) (y:=.const (uV 4294967295)) (a:=(K+(I*(e.getD i 0)):Nat)) (m:=4294967295) 32 kR kR kR oM kD _));refine lV 165 (mV (((C.getD (m-1+i) 0)+((2^64)-((K+(I*(e.getD i 0)):Nat)%(2^32):Nat)))%(2^64))) ?_ (hr:=rU ((((C.getD (m-1+i) 0:Nat):Int)-(((K+(I*(e.getD i 0)):Nat)%(2^32):Nat):Int))) kR (lM (C.getD (m-1+i) 0) ((K+(I*(e.getD i 0)):Nat)%(2^32):Nat) oM));refine lL z ac (lV 167 (mV (((((C.getD (m-1+i) 0)+((2^64)-((K+(I*(e.getD i 0)):Nat)%(2^32):Nat)))%(2^64):Nat)+((2^64)-U))%(2^64))) ?_ (hr:=rU ((((((C.getD (m-1+i) 0)+((2^64)-((K+(I*(e.getD i 0)):Nat)%(2^32):Nat)))%(2^64):Nat):Int)-(U:Int))) kR (lM (((C.getD (m-1+i) 0)+((2^64)-((K+(I*(e.getD i 0)):Nat)%(2^32):Nat)))%(2^64):Nat) U oM)));refine lL z ac (aG ?_);obtain ⟨hS1,hS2⟩:=Cd (t:=(((((C.getD (m-1+i) 0)+((2^64)-((K+(I*(e.getD i 0)):Nat)%(2^32):Nat)))%(2^64):Nat)+((2^64)-U))%(2^64):Nat)) (hWa.get (m-1+i)) (As ((K+(I*(e.getD i 0)):Nat)) (show 0<(2^32) by decide)) hbo rfl;refine lL z cG (bw 171 (((m:Int)-1)+(i:Nat)) (m-1+i) ?_);refine lL z ac (lV 173 (mW ((((((C.getD (m-1+i) 0)+((2^64)-((K+(I*(e.getD i 0)):Nat)%(2^32):Nat)))%(2^64):Nat)+((2^64)-U))%(2^64):Nat)%(2^32))) ?_ (hr:=rT (((((((C.getD (m-1+i) 0)+((2^64)-((K+(I*(e.getD i 0)):Nat)%(2^32):Nat)))%(2^64):Nat)+((2^64)-U))%(2^64):Nat):Int)) kR (g8 _)));refine lX 174 (sB zc) ((C).length) J 1 (m-1+i:Nat) (m-1+i) rfl (GM (ty:=153) (c:=J) (b:=zc) 0 (m-1+i) 0 ([mW ((((((C.getD (m-1+i) 0)+((2^64)-((K+(I*(e.getD i 0)):Nat)%(2^32):Nat)))%(2^64):Nat)+((2^64)-U))%(2^64):Nat)%(2^32))]) C a8 1 0 ((((((C.getD (m-1+i) 0)+((2^64)-((K+(I*(e.getD i 0)):Nat)%(2^32):Nat)))%(2^64):Nat)+((2^64)-U))%(2^64):Nat)%(2^32):Nat) z oM (fun _ z=>?_));replace z:=z.to [⟨O,153,(X).flatMap a8⟩] [⟨153,1,sB zc,J,(C).length,(C.set (m-1+i) ((((((C.getD (m-1+i) 0)+((2^64)-((K+(I*(e.getD i 0)):Nat)%(2^32):Nat)))%(2^64):Nat)+((2^64)-U))%(2^64):Nat)%(2^32):Nat)).flatMap a8⟩];refine lN (bH [(4,sZ),(5,sZ),(8,nV s),(9,qS V e.length c8),(10,qS (sB zc) ((C).length) J),(11,nV e.length),(12,mV (e.getD (e.length-1) 0)),(13,mV (e.getD (e.length-2) 0)),(14,qS (sB O) ((H.length+2)-e.length) ((H.length+2)-e.length)),(15,iV ((m:Int)-1)),(17,mV I),(21,nV i),(19,mV (K+(I*(e.getD i 0)))),(20,mV U),(22,mV (((((C.getD (m-1+i) 0)+((2^64)-((K+(I*(e.getD i 0)):Nat)%(2^32):Nat)))%(2^64):Nat)+((2^64)-U))%(2^64)))] ?_);refine aa z ac (lV 176 (mV ((((((C.getD (m-1+i) 0)+((2^64)-((K+(I*(e.getD i 0)):Nat)%(2^32):Nat)))%(2^64):Nat)+((2^64)-U))%(2^64):Nat)/(2^63))) ?_ (hr:=aK (n:=NW ((((((C.getD (m-1+i) 0)+((2^64)-((K+(I*(e.getD i 0)):Nat)%(2^32):Nat)))%(2^64):Nat)+((2^64)-U))%(2^64):Nat):Int) (2^63)) kR (eN _ (2^63))));refine lL z ac (lN (kQ (lL z ac (lV 178 (mV ((K+(I*(e.getD i 0)):Nat)/(2^32))) ?_ (hr:=aK (n:=NW ((K+(I*(e.getD i 0)):Nat):Int) (2^32)) kR (eN _ (2^32)))))));refine lL z ac (lN (kQ (lL z ac (bw 146 ((i:Nat)+1) (i+1) ?_))));refine lL z ac (lD ?_);intro a_ Y;replace z:=z.rown [⟨153,1,sB zc,J,(C.set (m-1+i) ((((((C.getD (m-1+i) 0)+((2^64)-((K+(I*(e.getD i 0)):Nat)%(2^32):Nat)))%(2^64):Nat)+((2^64)-U))%(2^64):Nat)%(2^32):Nat)).length,(C.set (m-1+i) ((((((C.getD (m-1+i) 0)+((2^64)-((K+(I*(e.getD i 0)):Nat)%(2^32):Nat)))%(2^64):Nat)+((2^64)-U))%(2^64):Nat)%(2^32):Nat)).flatMap a8⟩] (by simp only[NI]);refine ⟨_,_,?_,⟨i+1,sB zc,J,C.set (m-1+i) ((((((C.getD (m-1+i) 0)+((2^64)-((K+(I*(e.getD i 0)):Nat)%(2^32):Nat)))%(2^64):Nat)+((2^64)-U))%(2^64):Nat)%(2^32):Nat),((K+(I*(e.getD i 0)):Nat)/(2^32):Nat),((((((C.getD (m-1+i) 0)+((2^64)-((K+(I*(e.getD i 0)):Nat)%(2^32):Nat)))%(2^64):Nat)+((2^64)-U))%(2^64):Nat)/(2^63):Nat),zw,rfl,rfl,z.to _ _,oM,(by rw[NI];exact hua),(hWa.set _ (As _ kD)),oM,hS2,(vZ (t:=((K+(I*(e.getD i 0)):Nat))%(2^32)) oM bj (NH _ _ |>.trans oM) oM),(bl.set oM oM)⟩,Y.to _ (by simp only[NI];kernel_rfl)⟩
 omega
theorem qu (a A c)(i:(lim a).length<=c)(b D d)(l:(lim b).length<=d)(e:(lim a).length<=3000000000)(f:(lim b).length<=3000000000)(x:0<b)(w h)(g:G w h)(j:S3 A (lim a) h)(o:S3 D (lim b) h):CR 172 #[.slice A (lim a).length c,.slice D (lim b).length d] w h (fun v h1=>∃ u p,v=.tuple #[u,p]/\RN h1 u (a/b)/\RN h1 p (a%b)):=by
 have y:=bV.2 x;rcases ea a b with h1|h1
 ·exact oN a A c i b D d l e f h1 w h g j o
 ·rcases ea (lim b).length 2 with h2|h2
  ·exact mF a A c i b D d l e f h1 oM w h g j o
  ·exact se a A c i b D d l e f h1 h2 _ rfl _ _ rfl rfl w h g j o
theorem jI (x y):N1 y (x%y)=N1 x y:=by rw[N2 y,<-Nat.gcd_rec,N2]
theorem DC (a A c)(U:(lim a).length<=c)(b D d)(hd:(lim b).length<=d)(z:(lim a).length<=3000000000)(B:(lim b).length<=3000000000)(w h)(g:G w h)(hA:S3 A (lim a) h)(hD:S3 D (lim b) h):CR 171 #[.slice A ((lim a).length) c,.slice D ((lim b).length) d] w h (fun v h1=>RN h1 v (N1 a b)):=by
 have e:=(((sS g).aS hA).aS hD);refine go Tryz.func171 [(0,qS A ((lim a).length) c),(1,qS D ((lim b).length) d)] rfl (aa e ac (ag (kZ ?_)));replace e:=e.aS e.f.1;replace e:=e.aS e.f.r.1;refine bH _ (CG.loop (fun H Γ W=>∃ (x:Nat)(j:Z9)(c1:Nat)(y:Nat)(l:Z9)(c2:Nat)(J:Hp),H=y/\Γ=[(4,sZ),(0,qS j ((lim x).length) c1),(1,qS l ((lim y).length) c2)]/\SS w h W J [] [] [S3 j (lim x),S3 l (lim y),S3 D (lim b),S3 A (lim a)]/\(lim x).length<=c1/\(lim y).length<=c2/\(lim x).length<=3000000000/\(lim y).length<=3000000000/\N1 x y=N1 a b) _ ⟨a,A,c,b,D,d,h,rfl,rfl,e.to _ _,U,hd,z,B,rfl⟩ ?_);rintro _ _ w1 ⟨x,j,c1,y,l,c2,h2,O,rfl,e,o,u,X,F,L⟩;refine cQ (aa e [.c,.v (nV ((lim y).length))] ?_);cases i:(decide ((0:Int)<(((lim y).length:Nat):Int)))
 .
  have p:=oF i;refine lB 9 i (ah (CG.exit ?_))
  show CG _ _ _ _ _ _ _ _
  refine aa e ax (lN (kX ?_));have I:y=0:=Nat.eq_zero_of_not_pos (fun J=>by have:=bV.2 J;omega);exact e.ret [] (qS j ((lim x).length) c1) (by rw[<-L,I,Nat.gcd_zero_right];exact ⟨j,c1,rfl,o,e.f.1⟩)
 have p:=oT i;refine lB 9 i (ak (cK (kZ (aa e ax (lC 13 e (qu x j c1 o y l c2 u oM oM (bV.1 oM) _ _ e.g e.f.1 e.f.2.1) ?_)))));rintro _ w5 Z e ⟨_,_,rfl,⟨Y,cq,rfl,S,hq⟩,⟨M,K,rfl,C,hr⟩⟩;replace e:=e.aS hr;have hmd:=As x (bV.1 (show 0<(lim y).length by omega));have Q:=dP (show x%y<=y by omega);refine lL e [.c,.v (qS Y (lim (x/y)).length cq),.v (qS M ((lim (x%y)).length) K),.c,.c] (aG (lL e ax (lN (kQ (lL e ax (lD ?_))))));intro a_ V;replace e:=((e.tl.tl.tl.aS e.f.1).aS e.f.r.1);refine ⟨_,_,?_,⟨y,l,c2,x%y,M,K,Z,rfl,rfl,e.to _ _,u,C,F,oM,(by rw[jI];exact L)⟩,V.to _ kR⟩
 omega
def aq (x:Nat):List Value:=[.int .u64 (x:Nat)]
theorem Bl {l:List Nat}{m:Nat}(h:0<m)(h0:l.getD (m-1) 0=0):tl l m=tl l (m-1):=by
 obtain ⟨k,rfl⟩:∃ k,m=k+1:=⟨m-1,by omega⟩;rw[mC,if_pos (by simpa using h0)];rfl
theorem sw (s)(d:8<=s.size)(w h)(g:G w h):CV 150 #[.string s] w h (mV (wv s)):=by
 have c:=sS g;have o:=cX s 0;have B:=cX s 1;have f:=cX s 2;have p:=cX s 3;have e:=cX s 4;have z:=cX s 5;have D:=cX s 6;have C:=cX s 7;refine go Tryz.func150 [(0,.string s)] rfl (aa c ac (ag (cR 38 [] mixed c ao ?_)));refine eV 0 3 (.string s) (eV 1 4 (.int .u8 (ay s 0:Nat)) ?_ (hv:=fun _=>eh (tx:=9) (x:=.tmp 3) (i:=.const (iV 0)) (k:=.i64) (s:=s) (n:=0) (j:=(0:Int)) kR kR kR kR oM oM _));refine eV 2 5 (mV (ay s 0)) ?_ (hv:=fun _=>rU (((ay s 0:Nat):Int)) kR (bh oM oM));refine eV 3 6 (.string s) (eV 4 7 (.int .u8 (ay s 1:Nat)) ?_ (hv:=fun _=>eh (tx:=9) (x:=.tmp 6) (i:=.const (iV 1)) (k:=.i64) (s:=s) (n:=1) (j:=(1:Int)) kR kR kR kR oM oM _));refine eV 5 8 (mV (ay s 1)) ?_ (hv:=fun _=>rU (((ay s 1:Nat):Int)) kR (bh oM oM));refine eV 6 9 (mV ((ay s 1)*256)) ?_ (hv:=fun _=>rU ((((ay s 1:Nat):Int)*256)) kR ((bh oM oM).trans oM));refine eV 7 10 (mV (ay s 0+ay s 1*256)) ?_ (hv:=fun _=>aK (iO (t:=42) (u:=42) (x:=.tmp 5) (y:=.tmp 9) (a:=(ay s 0)) (b:=((ay s 1)*256)) kR kR kR oM oM _) (by rw[g6 8 oM];first|done|omega));refine eV 8 11 (.string s) (eV 9 12 (.int .u8 (ay s 2:Nat)) ?_ (hv:=fun _=>eh (tx:=9) (x:=.tmp 11) (i:=.const (iV 2)) (k:=.i64) (s:=s) (n:=2) (j:=(2:Int)) kR kR kR kR oM oM _));refine eV 10 13 (mV (ay s 2)) ?_ (hv:=fun _=>rU (((ay s 2:Nat):Int)) kR (bh oM oM));refine eV 11 14 (mV ((ay s 2)*65536)) ?_ (hv:=fun _=>rU ((((ay s 2:Nat):Int)*65536)) kR ((bh oM oM).trans oM));refine eV 12 15 (mV (ay s 0+ay s 1*256+ay s 2*65536)) ?_ (hv:=fun _=>aK (iO (t:=42) (u:=42) (x:=.tmp 10) (y:=.tmp 14) (a:=(ay s 0+ay s 1*256)) (b:=((ay s 2)*65536)) kR kR kR oM oM _) (by rw[g6 16 oM];first|done|omega));refine eV 13 16 (.string s) (eV 14 17 (.int .u8 (ay s 3:Nat)) ?_ (hv:=fun _=>eh (tx:=9) (x:=.tmp 16) (i:=.const (iV 3)) (k:=.i64) (s:=s) (n:=3) (j:=(3:Int)) kR kR kR kR oM oM _));refine eV 15 18 (mV (ay s 3)) ?_ (hv:=fun _=>rU (((ay s 3:Nat):Int)) kR (bh oM oM));refine eV 16 19 (mV ((ay s 3)*16777216)) ?_ (hv:=fun _=>rU ((((ay s 3:Nat):Int)*16777216)) kR ((bh oM oM).trans oM));refine eV 17 20 (mV (ay s 0+ay s 1*256+ay s 2*65536+ay s 3*16777216)) ?_ (hv:=fun _=>aK (iO (t:=42) (u:=42) (x:=.tmp 15) (y:=.tmp 19) (a:=(ay s 0+ay s 1*256+ay s 2*65536)) (b:=((ay s 3)*16777216)) kR kR kR oM oM _) (by rw[g6 24 oM];first|done|omega));refine eV 18 21 (.string s) (eV 19 22 (.int .u8 (ay s 4:Nat)) ?_ (hv:=fun _=>eh (tx:=9) (x:=.tmp 21) (i:=.const (iV 4)) (k:=.i64) (s:=s) (n:=4) (j:=(4:Int)) kR kR kR kR oM oM _));refine eV 20 23 (mV (ay s 4)) ?_ (hv:=fun _=>rU (((ay s 4:Nat):Int)) kR (bh oM oM));refine eV 21 24 (mV ((ay s 4)*(2^32))) ?_ (hv:=fun _=>rU ((((ay s 4:Nat):Int)*(2^32))) kR ((bh oM oM).trans oM));refine eV 22 25 (mV (ay s 0+ay s 1*256+ay s 2*65536+ay s 3*16777216+ay s 4*(2^32))) ?_ (hv:=fun _=>aK (iO (t:=42) (u:=42) (x:=.tmp 20) (y:=.tmp 24) (a:=(ay s 0+ay s 1*256+ay s 2*65536+ay s 3*16777216)) (b:=((ay s 4)*(2^32))) kR kR kR oM oM _) (by rw[g6 32 oM];first|done|omega));refine eV 23 26 (.string s) (eV 24 27 (.int .u8 (ay s 5:Nat)) ?_ (hv:=fun _=>eh (tx:=9) (x:=.tmp 26) (i:=.const (iV 5)) (k:=.i64) (s:=s) (n:=5) (j:=(5:Int)) kR kR kR kR oM oM _));refine eV 25 28 (mV (ay s 5)) ?_ (hv:=fun _=>rU (((ay s 5:Nat):Int)) kR (bh oM oM));refine eV 26 29 (mV ((ay s 5)*(2^40))) ?_ (hv:=fun _=>rU ((((ay s 5:Nat):Int)*(2^40))) kR ((bh oM oM).trans oM));refine eV 27 30 (mV (ay s 0+ay s 1*256+ay s 2*65536+ay s 3*16777216+ay s 4*(2^32)+ay s 5*(2^40))) ?_ (hv:=fun _=>aK (iO (t:=42) (u:=42) (x:=.tmp 25) (y:=.tmp 29) (a:=(ay s 0+ay s 1*256+ay s 2*65536+ay s 3*16777216+ay s 4*(2^32))) (b:=((ay s 5)*(2^40))) kR kR kR oM oM _) (by rw[g6 40 oM];first|done|omega));refine eV 28 31 (.string s) (eV 29 32 (.int .u8 (ay s 6:Nat)) ?_ (hv:=fun _=>eh (tx:=9) (x:=.tmp 31) (i:=.const (iV 6)) (k:=.i64) (s:=s) (n:=6) (j:=(6:Int)) kR kR kR kR oM oM _));refine eV 30 33 (mV (ay s 6)) ?_ (hv:=fun _=>rU (((ay s 6:Nat):Int)) kR (bh oM oM));refine eV 31 34 (mV ((ay s 6)*(2^48))) ?_ (hv:=fun _=>rU ((((ay s 6:Nat):Int)*(2^48))) kR ((bh oM oM).trans oM));refine eV 32 35 (mV (ay s 0+ay s 1*256+ay s 2*65536+ay s 3*16777216+ay s 4*(2^32)+ay s 5*(2^40)+ay s 6*(2^48))) ?_ (hv:=fun _=>aK (iO (t:=42) (u:=42) (x:=.tmp 30) (y:=.tmp 34) (a:=(ay s 0+ay s 1*256+ay s 2*65536+ay s 3*16777216+ay s 4*(2^32)+ay s 5*(2^40))) (b:=((ay s 6)*(2^48))) kR kR kR oM oM _) (by rw[g6 48 oM];first|done|omega));refine eV 33 36 (.string s) (eV 34 37 (.int .u8 (ay s 7:Nat)) ?_ (hv:=fun _=>eh (tx:=9) (x:=.tmp 36) (i:=.const (iV 7)) (k:=.i64) (s:=s) (n:=7) (j:=(7:Int)) kR kR kR kR oM oM _));refine eV 35 38 (mV (ay s 7)) ?_ (hv:=fun _=>rU (((ay s 7:Nat):Int)) kR (bh oM oM));refine eV 36 39 (mV ((ay s 7)*72057594037927936)) ?_ (hv:=fun _=>rU ((((ay s 7:Nat):Int)*72057594037927936)) kR ((bh oM oM).trans oM));refine eV 37 40 (mV (ay s 0+ay s 1*256+ay s 2*65536+ay s 3*16777216+ay s 4*(2^32)+ay s 5*(2^40)+ay s 6*(2^48)+ay s 7*72057594037927936)) ?_ (hv:=fun _=>aK (iO (t:=42) (u:=42) (x:=.tmp 35) (y:=.tmp 39) (a:=(ay s 0+ay s 1*256+ay s 2*65536+ay s 3*16777216+ay s 4*(2^32)+ay s 5*(2^40)+ay s 6*(2^48))) (b:=((ay s 7)*72057594037927936)) kR kR kR oM oM _) (by rw[g6 56 oM];first|done|omega));exact bM c (fun w1 l c=>tV 38 2 (mV (ay s 0+ay s 1*256+ay s 2*65536+ay s 3*16777216+ay s 4*(2^32)+ay s 5*(2^40)+ay s 6*(2^48)+ay s 7*72057594037927936)) (tN (kX (c.ret [] (mV (ay s 0+ay s 1*256+ay s 2*65536+ay s 3*16777216+ay s 4*(2^32)+ay s 5*(2^40)+ay s 6*(2^48)+ay s 7*72057594037927936)) rfl))))
theorem Gn (A c l)(I:l.length<=(2^40))(F:l.length<=c)(w h)(g:G w h)(C:SlO 1 aq 0 h A l):CV 161 #[.slice A l.length c] w h (.slice A (tl l l.length) c):=by
 have a:=((sS g).aS C);refine go Tryz.func161 [(0,qS A l.length c)] rfl (aa a ac (ag (kZ ?_)));refine bH _ (CG.loop (fun p Γ B=>∃ (m:Nat)(u:Hp),p=m/\Γ=[(2,sZ),(0,qS A m c)]/\SS w h B u [] [] [fun u=>SlO 1 aq 0 u A l]/\m<=l.length/\tl l l.length=tl l m) _ ⟨l.length,h,rfl,rfl,a.to _ _,nR _,rfl⟩ ?_);rintro _ _ w1 ⟨m,x,y,rfl,a,H,o⟩;refine cQ (aa a [.c,.v (nV m)] ?_);cases d:(decide ((0:Int)<(m:Int)))
 .
  have j:=oF d;refine lB 5 d (lL a ac (lG 7 ?_));refine lG 8 (lG 9 (lG 10 (lG 11 (lG 12 (lG 13 (lL a [.v qF] (ah (CG.exit ?_))))))))
  show CG _ _ _ _ _ _ _ _
  exact aa a ax (ae a [] (qS A m c) (by rw[o,pf oM]))
 have j:=oT d;refine lB 5 d (lL a [.c,.c,.c,.v (nV m)] (bw 10 ((m:Nat)-1) (m-1) ?_));refine lX 11 A m c 1 (m-1:Nat) (m-1) ((a.f.1).ok oM) (lH 12 (mV (l.getD (m-1) 0)) a ((a.f.1).el (m-1) oM) ?_);cases e:(((l.getD (m-1) 0:Nat):Int) == (0:Int))
 .
  have i:=aj e;refine lB 13 e (lL a [.v qF] (ah (CG.exit ?_)))
  show CG _ _ _ _ _ _ _ _
  exact aa a ax (ae a [] (qS A m c) (by rw[o,pf oM]))
 have i:=eq_of_beq e;refine lB 13 e (lL a [.v qT] (ak (cK (kZ (kQ (lL a [.c,.c,.v (nV m)] (bw 18 ((m:Nat)-1) (m-1) ?_)))))));refine lT 19 A m c 1 (m-1:Nat) (m-1) (lL a ac (lD ?_));intro D z;refine ⟨_,_,?_,⟨m-1,x,rfl,rfl,a.to _ _,oM,(by rw[o];exact Bl oM oM)⟩,z.to _ kR⟩
 omega
theorem rJ {l m:List Nat}(c:l.length=m.length)(h:∀ j,j<l.length->l.getD j 0=m.getD j 0):l=m:=by
 apply List.ext_getElem c
 intro i h1 a;have:=h i h1
 simpa [h1,a] using this
theorem rt {l m:List Nat}{i x:Nat}(hi:i<l.length)(h:∀ j,j<i->l.getD j 0=m.getD j 0)(a:x=m.getD i 0):∀ j,j<i+1->(l.set i x).getD j 0=m.getD j 0:=fun j c=>by
 rw[bF hi];split
 ·rename_i e;rw[<-e];exact a
 ·exact h j oM
def Ei (h h1:Hp)(v:Value)(l:List Nat):Prop:=∃ b,v=.slice (some ⟨b,0,none⟩) l.length l.length/\h.size<=b/\h1[b]?=some (.cells (l.flatMap aq).toArray 42 (0,0))/\SlO 1 aq 0 h1 (some ⟨b,0,none⟩) l
theorem ml  (w h)(g:G w h):CV 109 #[nv 0] w h sZ:=by
 have a:=sS g;exact go Tryz.func109 [(0,nv 0)] rfl (aA (lA 1 44 ([uV 0,eS]) a (fun d w2 e a=>lL a ac (ag (aa a [.v (qP d 1),.o (eS) 0 1 1,.v qT,.c,.v (pB d),.o (uV 0) 0 0 1,.v qT,.v qT] (ak (aa a ac (ae a [] (sZ) rfl))))))))
theorem iX (s:ByteArray)(k):(s.extract k s.size).size=s.size-k:=by
 simp[ByteArray.size_extract]
theorem su {n L:Nat}(a:0<L):∀ j,j<1->((Af L 0).set 0 (n%(2^64))).getD j 0=(wds n).getD j 0:=fun j c=>by
 have:j=0:=by omega
 subst this;rw[bF (by simpa using a),if_pos rfl];have:=uq n
 unfold lo at this;exact Int.ofNat.inj this
theorem Fi (n)(hn:0<n)(hl:(wds n).length<=(10^9))(B:n<(2^64))(w h)(g:G w h):CR 109 #[nv n] w h (fun v h1=>Ei h h1 v (wds n)):=by
 have e:=sS g;have hz:=jx n;have hp:=mi.2 hn;have X:=nK B;have M:=congrArg NT (k9 hn B)
 simp only[List.length_singleton] at M;refine go Tryz.func109 [(0,nv n)] rfl (aA (lA 1 44 (nc n) e (fun p w2 h3 e=>lL e ac (ag (aa e [.v (qP p 1),.o (.string (hi n)) 0 1 1] (lV 7 qT ?_ (hr:=rb kR (kp (fx B)))))))));refine lL e [.c,.v (pB p),.o (mV (n%(2^64))) 0 0 1] ?_;have C:(((n%(2^64):Nat):Int) == (0:Int))=false:=fB oM;have S:=aj C;refine lB 11 C (lL e [.v qF] (ah (cK (aa e [.v (qP p 1),.o (.string (hi n)) 0 1 1,.v (nV ((hi n).size))] (lV 16 (nV (((hi n).size)/8)) ?_ (hr:=aK (dU (t:=3) (u:=3) (x:=.tmp 15) (y:=.const (iV 8)) (k:=.i64) (a:=(((hi n).size:Nat):Int)) (b:=(8:Int)) kR kR kR oM _) (dN ((hi n).size) 8 oM)))))));refine bw 17 (1+(((hi n).size)/8:Nat)) ((wds n).length) (lK 18 42 ((wds n).length) 1 8 (uV 0) aq 0 e (fun z w6 h7 e=>?_));have J:(Af ((wds n).length) 0).length=((wds n).length):=by simp
 refine lL e ac (aG (lL e [.c,.v (pB p),.o (mV (n%(2^64))) 1 0 1] (lX 22 (sB z) ((wds n).length) ((wds n).length) 1 0 0 rfl ?_)));refine lW 0 (Af ((wds n).length) 0) aq 1 0 (n%(2^64)) e oM (fun w9 e=>?_);have V:((Af ((wds n).length) 0).set 0 (n%(2^64))).length=((wds n).length):=by rw[NI];exact J
 replace e:=e.to [⟨z,42,((Af ((wds n).length) 0).set 0 (n%(2^64))).flatMap aq⟩,⟨p,44,nc n⟩] [];refine ag (aa e ac (aZ ?_));refine bH _ (CG.loop (fun K Γ w_=>∃ (i:Nat)(l:List Nat)(h_:Hp),K=(wds n).length-i/\Γ=[(1,pB p),(2,sZ),(3,qS (sB z) ((wds n).length) ((wds n).length)),(4,nV i)]/\SS w h w_ h_ [⟨z,42,(l).flatMap aq⟩,⟨p,44,nc n⟩] [] []/\1<=i/\i<=(wds n).length/\l.length=(wds n).length/\(∀ j,j<i->l.getD j 0=(wds n).getD j 0)) _ ⟨1,(Af ((wds n).length) 0).set 0 (n%(2^64)),h7,rfl,rfl,e.to _ _,nR _,by omega,V,su oM⟩ ?_);rintro _ _ _ ⟨i,l,_,Q,rfl,e,hi1,hi2,L,U⟩;refine cQ (aa e [.c,.c,.v (nV ((wds n).length))] ?_);cases I:(decide ((i:Int)<((((wds n).length):Nat):Int)))
 .
  have zb:=oF I;refine lB 26 I (ah (CG.exit ?_))
  show CG _ _ _ _ _ _ _ _
  refine aa e ax (lN (kX ?_));have Z:i=(wds n).length:=by omega
  have O:l=wds n:=rJ oM (fun j hj=>U j oM);rw[O] at e
  obtain ⟨_,e,D,H,F⟩:=e.pub 0;replace e:=(e.to [⟨p,44,nc n⟩] []).aS (SlO.of_flat (sz:=1) (f:=aq) (d:=0) (b:=z) (o:=0) (l:=wds n) (fun _=>rfl) D);exact e.ret [] (qS (sB z) ((wds n).length) ((wds n).length)) (⟨z,rfl,H,F,e.f.1⟩)
 have zb:=oT I;refine lB 26 I (ak (cK (cQ (kZ (kQ (lL e [.c,.c,.v (qP p 1),.o (.string (hi n)) 1 1 1,.c] (lI 34 ((i:Nat)-1) ?_)))))));refine bw 35 (8*((i:Nat)-1)) (8*(i-1)) (lV 36 (.string ((hi n).extract (8*(i-1)) (hi n).size)) ?_ (hr:=sD (tx:=9) (x:=.tmp 32) (i:=.tmp 35) (k:=.i64) (s:=hi n) (n:=(8*(i-1))) (j:=((8*(i-1):Nat):Int)) kR kR kR kR oM oM _));refine ar 37 e (sw ((hi n).extract (8*(i-1)) (hi n).size) (by rw[iX];omega) _ _ e.g) (fun _ W e=>lX 38 (sB z) ((wds n).length) ((wds n).length) 1 (i:Nat) i rfl (lW 0 l aq 1 i (wv ((hi n).extract (8*(i-1)) (hi n).size):Nat) e oM (fun _ e=>?_)));have Y:((l).set i (wv ((hi n).extract (8*(i-1)) (hi n).size):Nat)).length=((wds n).length):=by rw[NI];exact L
 replace e:=e.to [⟨z,42,((l).set i (wv ((hi n).extract (8*(i-1)) (hi n).size):Nat)).flatMap aq⟩,⟨p,44,nc n⟩] [];refine lN (kQ (lL e ac (bw 28 ((i:Nat)+1) (i+1) ?_)));refine lL e ac (lD ?_);intro a_ ka;refine ⟨_,_,?_,⟨i+1,(l).set i (wv ((hi n).extract (8*(i-1)) (hi n).size):Nat),W,rfl,rfl,e.to _ _,oM,oM,Y,(rt oM U (by rw[j6 n (i-1) oM,show i-1+1=i by omega]))⟩,ka.to _ kR⟩
 omega
end Go.Proofs.YtjljjeiejbhegaaGreatDoor
