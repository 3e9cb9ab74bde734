/- Laws of this claim, part 5. -/
import Derived.Test.YtcbgbcghmndlmaaGreatDoorQi0
import Derived.Test.YtcbgbcghmndlmaaGreatDoorQi1
import Derived.Test.YtcbgbcghmndlmaaGreatDoorQi2
import Derived.Test.YtcbgbcghmndlmaaGreatDoorQi3
set_option maxRecDepth 100000
set_option maxHeartbeats 4000000
namespace Go.Proofs.YtcbgbcghmndlmaaGreatDoor
open _root_.Array renaming getElem?_append_left -> yb, getElem?_eq_some_iff -> hP, getElem?_push_size -> gg, getElem?_setIfInBounds_ne -> i3, getElem?_setIfInBounds_self_of_lt -> yV, size_setIfInBounds -> JV
open List renaming ext_getElem -> J1, getD_eq_getElem?_getD -> D0, getElem?_eq_getElem -> JY, getElem?_eq_some_iff -> Ih, getElem?_map -> HU, getElem?_zipIdx -> J0, getElem_map -> yl, getElem_mem -> gs, length_cons -> yf, length_eq_one_iff -> JW, length_map -> J3, length_nil -> Ju, map_cons -> yT, mem_cons -> g4, mem_iff_getElem? -> JZ, mem_map -> g2, mem_singleton -> vl, mergeSort_perm -> J4, replicate -> yL, size_toArray -> J2, toArray -> IL
open Nat renaming add_zero -> yw, le_mul_of_pos_left -> II, le_of_ble_eq_true -> y7, le_refl -> ey, le_trans -> e4, lt_succ_iff_lt_or_eq -> J5, lt_succ_self -> JD, mul_comm -> z2, mul_le_mul -> H9, mul_le_mul_left -> A5, mul_le_mul_right -> yI, mul_left_comm -> Js, mul_pos -> JU, not_lt_zero -> Jl, pow_le_pow_right -> Ay, pow_succ -> z1, succ_lt_succ -> JX, succ_mul -> yB, succ_ne_zero -> Jt, succ_pos -> Iq, two_pow_pos -> Aw, zero_add -> yH, zero_le -> In
open Rat renaming add_comm -> J6, div_def -> J7, zero_add -> J8
open Go.RowKit
open Go.RowKit Go.Shelf
def fI (m:Nat)(x:List Rat):Nat->List Rat
  | 0=>bx m ((1:Int):Rat)
  | k+1=>de m (fI m x k) x
def dC (m:Nat)(a:List Rat):List Rat:=if (a.getD 0 0).num.sign<0 then cY m a ((-1:Int):Rat) else a
def px (n:Int)(m:Nat)(a:List Rat):List Rat:=if n<0 then bC m a else a
def dO (op n:Int)(a b:Rat):Int:=if op=11/\a=0 then 7 else cc op n a b
def jM (op n:Int)(m:Nat)(a b:List Rat):List Rat :=
  if op=3 then cV m a b else if op=4 then cV m a (cY m b ((-1:Int):Rat)) else if op=5 then de m a b else if op=6 then de m a (bC m b) else if op=7 then cY m a ((-1:Int):Rat)
  else if op=8 then fI m (px n m a) n.natAbs else if op=9 then dC m a else if op=10 then (if 0<(a.getD 0 0).num.sign then a else bx m 0)
  else if op=11 then de m a (bC m (cV m (dC m a) (bx m ((1:Int):Rat)))) else if op=12 then (if b.getD 0 0<a.getD 0 0 then a else b) else (if b.getD 0 0<a.getD 0 0 then b else a)
def k8 (m:Nat)(op n:Int)(x y:Int × List Rat):Int × List Rat :=
  if x.1≠0 then (x.1,[]) else if y.1≠0 then (y.1,[]) else if dO op n (x.2.getD 0 0) (y.2.getD 0 0)≠0 then (dO op n (x.2.getD 0 0) (y.2.getD 0 0),[]) else (0,jM op n m x.2 y.2)
def bg (ix:ByteArray->Nat)(at_ way:List Rat)(m:Nat):Nat->Tm->Int × List Rat
  | 0,_=>(0,[])
  | d+1,t =>
    if t.op=1 then (0,bx m t.q)
    else if t.op=2 then (0,gk m (at_.getD (ix t.s) 0) (way.getD (ix t.s) 0))
    else k8 m t.op t.n (if 0<t.ks.length then bg ix at_ way m d (t.ks.getD 0 dD) else (0,[])) (if 1<t.ks.length then bg ix at_ way m d (t.ks.getD 1 dD) else (0,[]))
section
variable {m:Nat}{op n:Int}{x y:Int × List Rat}
theorem iQ (h:x.1≠0):k8 m op n x y=(x.1,[]):=if_pos h
theorem mH (h:x.1=0)(a:y.1≠0):k8 m op n x y=(y.1,[]):=by unfold k8;rw[if_neg (fun k=>k h),if_pos a]
theorem ja (h:x.1=0)(b:y.1=0)(a:dO op n (x.2.getD 0 0) (y.2.getD 0 0)≠0):k8 m op n x y=(dO op n (x.2.getD 0 0) (y.2.getD 0 0),[]):=by unfold k8;rw[if_neg (fun k=>k h),if_neg (fun k=>k b),if_pos a]
theorem iN (h:x.1=0)(b:y.1=0)(a:dO op n (x.2.getD 0 0) (y.2.getD 0 0)=0):k8 m op n x y=(0,jM op n m x.2 y.2):=by unfold k8;rw[if_neg (fun k=>k h),if_neg (fun k=>k b),if_neg (fun k=>k a)]
end
theorem km (m:Nat)(x:List Rat):∀ k,(fI m x k).length=m
 | 0=>dt _ _
 | _+1=>gu _ _ _
theorem vD {m:Nat}{a:List Rat}(h:a.length=m):(dC m a).length=m:=by unfold dC;split;exact gm _ _ _;exact h
section
variable {n:Int}{m:Nat}{a b:List Rat}
theorem vr:jM 3 n m a b=cV m a b:=rfl
theorem wW:jM 4 n m a b=cV m a (cY m b ((-1:Int):Rat)):=rfl
theorem uJ:jM 5 n m a b=de m a b:=rfl
theorem wF:jM 6 n m a b=de m a (bC m b):=rfl
theorem vE:jM 7 n m a b=cY m a ((-1:Int):Rat):=rfl
theorem lz:jM 8 n m a b=fI m (px n m a) n.natAbs:=rfl
theorem mg:jM 9 n m a b=dC m a:=rfl
theorem jv:jM 10 n m a b=if 0<(a.getD 0 0).num.sign then a else bx m 0:=rfl
theorem jo:jM 11 n m a b=de m a (bC m (cV m (dC m a) (bx m ((1:Int):Rat)))):=rfl
theorem jr:jM 12 n m a b=if b.getD 0 0<a.getD 0 0 then a else b:=rfl
theorem ji:jM 13 n m a b=if b.getD 0 0<a.getD 0 0 then b else a:=rfl
end
theorem dR {op n:Int}{a b:Rat}(h:op≠11):dO op n a b=cc op n a b:=if_neg (fun k=>h k.1)
theorem FO {n:Int}{a b:Rat}(h:a=0):dO 11 n a b=7:=if_pos ⟨rfl,h⟩
theorem ve {n:Int}{a b:Rat}(h:a≠0):dO 11 n a b=0:=by
 unfold dO;rw[if_neg (fun k=>h k.2)]
 exact bE (fun c=>absurd c kD) (fun c=>absurd c kD) (fun c=>absurd c kD) (fun c=>absurd c kD)
theorem ni {op:Int}(h:3<=op/\op<=13):op=3\/op=4\/op=5\/op=6\/op=7\/op=8\/op=9\/op=10\/op=11\/op=12\/op=13:=by omega
theorem sv {op n:Int}{m:Nat}{a b:List Rat}(ha:a.length=m)(c:op=12\/op=13->b.length=m)(d:op<=13)(e:3<=op):(jM op n m a b).length=m:=by
 rcases ni ⟨e,d⟩ with rfl|rfl|rfl|rfl|rfl|rfl|rfl|rfl|rfl|rfl|rfl
 ·rw[vr];exact gB _ _ _
 ·rw[wW];exact gB _ _ _
 ·rw[uJ];exact gu _ _ _
 ·rw[wF];exact gu _ _ _
 ·rw[vE];exact gm _ _ _
 ·rw[lz];exact km _ _ _
 ·rw[mg];exact vD ha
 ·rw[jv];split;exact ha;exact dt _ _
 ·rw[jo];exact gu _ _ _
 ·rw[jr];split;exact ha;exact c (.inl rfl)
 ·rw[ji];split;exact c (.inr rfl);exact ha
section
variable {ix:ByteArray->Nat}{at_ way:List Rat}{m:Nat}{ok:ByteArray->Prop}
theorem kI {d:Nat}{op n:Int}{q:Rat}{s:ByteArray}{a:Tm}(h1:op≠1)(b:op≠2):bg ix at_ way m (d+1) (.mk op n q s [a])=k8 m op n (bg ix at_ way m d a) (0,[]):=by
 show (if op=1 then _ else if op=2 then _ else _)=_
 rw[if_neg h1,if_neg b];rfl
theorem jN {d:Nat}{op n:Int}{q:Rat}{s:ByteArray}{a b:Tm}(h1:op≠1)(c:op≠2):bg ix at_ way m (d+1) (.mk op n q s [a,b])=k8 m op n (bg ix at_ way m d a) (bg ix at_ way m d b):=by
 show (if op=1 then _ else if op=2 then _ else _)=_
 rw[if_neg h1,if_neg c];rfl
theorem eM:∀ {d:Nat} {t:Tm},WfT1 ok d t->(bg ix at_ way m d t).1=0->(bg ix at_ way m d t).2.length=m
  | d + 1,.mk op n q s ks,⟨h1,h2,h3,h4,h5,h6,h7,h8,h9⟩,h=>by
    have hc:=aN op;replace h1:fF op=(ks.length:Nat):=h1
    rcases e7 h1 with rfl|⟨t,rfl⟩|⟨t,u,rfl⟩
    . simp only[Ju] at h1
      by_cases o1:op=1
      . have e:bg ix at_ way m (d+1) (.mk op n q s [])=(0,bx m q):=if_pos o1
        rw[e];exact dt _ _
      . have e:bg ix at_ way m (d+1) (.mk op n q s [])=(0,gk m (at_.getD (ix s) 0) (way.getD (ix s) 0)):=(if_neg o1).trans (if_pos (show op=2 by omega))
        rw[e];exact kg _ _ _
    . simp only[yf,Ju] at h1
      rw[kI oM oM] at h ⊢
      have b:=eM (h9 0 (Iq _));replace b:(bg ix at_ way m d t).1=0->(bg ix at_ way m d t).2.length=m:=b
      generalize bg ix at_ way m d t=x at *
      by_cases c1:x.1=0
      . by_cases c3:dO op n (x.2.getD 0 0) 0=0
        . rw[iN c1 rfl c3];exact sv (b c1) oM oM oM
        . rw[ja c1 rfl c3] at h;exact absurd h c3
      . rw[iQ c1] at h;exact absurd h c1
    . simp only[yf,Ju] at h1
      rw[jN oM oM] at h ⊢
      have b:=eM (h9 0 (Iq _));replace b:(bg ix at_ way m d t).1=0->(bg ix at_ way m d t).2.length=m:=b;have a:=eM (h9 1 (by show 1<2;decide));replace a:(bg ix at_ way m d u).1=0->(bg ix at_ way m d u).2.length=m:=a
      generalize bg ix at_ way m d t=x at *
      generalize bg ix at_ way m d u=y at *
      by_cases c1:x.1=0
      . by_cases c2:y.1=0
        . by_cases c3:dO op n (x.2.getD 0 0) (y.2.getD 0 0)=0
          . rw[iN c1 c2 c3];exact sv (b c1) (fun _=>a c2) oM oM
          . rw[ja c1 c2 c3] at h;exact absurd h c3
        . rw[mH c1 c2] at h;exact absurd h c2
      . rw[iQ c1] at h;exact absurd h c1
end
theorem SzR.pow {W:Nat}{x:List Rat}(h:SzR W x){m:Nat}(a:0<m):∀ k,SzR (1+k*(W+1)) (fI m x k)
 | 0=>(SzR.num (LQ.int kD kD) m a).mono oM
 | k+1=>(((SzR.pow h a k).mul h m)).mono (by rw[yB];omega)
theorem SzR.abs {W:Nat}{a:List Rat}(h:SzR W a)(m:Nat):SzR W (dC m a):=by
 unfold dC;split;exact h.neg m;exact h
theorem vq {m:Nat}(b:0<m)(a:List Rat):(cV m (dC m a) (bx m ((1:Int):Rat))).getD 0 0≠0:=by
 rw[rz _ _ b,qj b]
 have e:(dC m a).getD 0 0=cv (a.getD 0 0):=by
  unfold dC;split
  ·rename_i h;rw[rk _ _ b];exact lj h
  ·rename_i h;exact lc h
 exact qw e
theorem AH {op n:Int}{a b:Rat}(h:dO op n a b=0):xr op n a b:=by
 unfold dO at h
 split at h
 ·exact absurd h kD
 ·exact sl h
theorem SzR.bend {W:Nat}{a:List Rat}(h:SzR W a){m:Nat}(b:0<m):SzR (3*W+6) (de m a (bC m (cV m (dC m a) (bx m ((1:Int):Rat))))) :=
 (h.mul (((h.abs m).add (SzR.num (LQ.int kD kD) m b) m).inv (vq b a) m) m).mono oM
theorem vd {op n:Int}{x y m:Nat}{a b:List Rat}(i:0<m)(j:1<=x)(ha:SzR (4*x-3) a)(d:1<=y->SzR (4*y-3) b)(c:fF op=2->1<=y)(h1:fF op=1->y=0)(l:3<=op/\op<=13)(z : -12<=n/\n<=12)(o:dO op n (a.getD 0 0) (b.getD 0 0)=0):SzR (8*(cO op n*(x+y))-3) (jM op n m a b):=by
  have w1:=cF op n;have u:x+y<=cO op n*(x+y):=II _ w1;obtain ⟨p,k2⟩:=AH o
  rcases ni l with rfl|rfl|rfl|rfl|rfl|rfl|rfl|rfl|rfl|rfl|rfl
  . have:=c rfl;rw[vr];exact (ha.add (d this) m).mono oM
  . have:=c rfl;rw[wW];exact (ha.add ((d this).neg m) m).mono oM
  . have:=c rfl;rw[uJ];exact (ha.mul (d this) m).mono oM
  . have:=c rfl;rw[wF];exact (ha.mul ((d this).inv (p rfl) m) m).mono oM
  . rw[vE];exact (ha.neg m).mono oM
  . have e:cO 8 n=aZ n:=rfl
    have y0:y=0:=h1 rfl;rw[lz,e,y0,yw]
    unfold px
    split
    . rename_i h
      refine ((ha.inv (k2 rfl h) m).pow i n.natAbs).mono ?_;have f:aZ n=n.natAbs:=by unfold aZ;split<;>omega
      have hk:1<=n.natAbs:=by omega
      rw[f]
      generalize n.natAbs=k at *
      have e1:2*(4*x-3)+1+1=8*x-4:=by omega
      have e2:k*(8*x)=8*(k*x):=Js k 8 x;rw[e1,Nat.mul_sub,e2];have:k*1<=k*x:=A5 k j
      omega
    . refine (ha.pow i n.natAbs).mono ?_
      have e1:4*x-3+1=4*x-2:=by omega
      by_cases hk:n.natAbs=0
      . have f:aZ n=1:=by unfold aZ;split<;>omega
        rw[hk,f];omega
      . have f:aZ n=n.natAbs:=by unfold aZ;split<;>omega
        rw[f]
        generalize n.natAbs=k at *
        have e2:k*(4*x)=4*(k*x):=Js k 4 x;rw[e1,Nat.mul_sub,e2];have:k*1<=k*x:=A5 k j
        omega
  . rw[mg];exact (ha.abs m).mono oM
  . rw[jv];split
    . exact ha.mono oM
    . exact (SzR.num (jf kD) m i).mono oM
  . have e:cO 11 n=2:=rfl
    have y0:y=0:=h1 rfl;rw[jo,e,y0];exact (ha.bend i).mono oM
  . have:=c rfl;rw[jr];split
    . exact ha.mono oM
    . exact (d this).mono oM
  . have:=c rfl;rw[ji];split
    . exact (d this).mono oM
    . exact ha.mono oM
theorem B0 (d w:Nat)(u:Nat):4*(2^(d+1)*(w*u))=8*(w*(2^d*u)):=by
 rw[z1,Js w];generalize 2^d=p;generalize w*u=z;rw[z2 p 2,Nat.mul_assoc];omega
section
variable {ix:ByteArray->Nat}{at_ way:List Rat}{m:Nat}{ok:ByteArray->Prop}
theorem n3 (c:0<m)(o:∀ i,LQ 1 (at_.getD i 0))(l:∀ i,LQ 1 (way.getD i 0)):∀ {d:Nat} {t:Tm},WfT1 ok d t->1<=bD d t/\SzR (4*(2^d*bD d t)-3) (bg ix at_ way m d t).2
  | d + 1,.mk op n q s ks,⟨h1,h2,B,h4,h5,h6,j,f,h9⟩=>by
    have D:=aN op;have z:1<=2^d:=Nat.one_le_two_pow;replace h1:fF op=(ks.length:Nat):=h1;replace B:LQ 1 q:=B;replace j : -12<=n:=j;replace f:n<=12:=f
    rcases e7 h1 with rfl|⟨t,rfl⟩|⟨t,u,rfl⟩
    . have e:bD (d+1) (.mk op n q s [])=1:=vp rfl
      rw[e];refine ⟨ey _,?_⟩;have C:2<=2^(d+1):=by rw[z1];omega
      simp only[Ju] at h1
      by_cases o1:op=1
      . have e2:bg ix at_ way m (d+1) (.mk op n q s [])=(0,bx m q):=if_pos o1
        rw[e2];exact (SzR.num B m c).mono oM
      . have e2:bg ix at_ way m (d+1) (.mk op n q s [])=(0,gk m (at_.getD (ix s) 0) (way.getD (ix s) 0)):=(if_neg o1).trans (if_pos (show op=2 by omega))
        rw[e2];exact (SzR.inp (o _) (l _) m c).mono oM
    . obtain ⟨i1,a⟩:=n3 c o l (h9 0 (Iq _))
      replace i1:1<=bD d t:=i1;replace a:SzR (4*(2^d*bD d t)-3) (bg ix at_ way m d t).2:=a
      simp only[yf,Ju] at h1
      have e:bD (d+1) (.mk op n q s [t])=cO op n*(bD d t+0):=by rw[jc (show [t].length≠0 from Jt _)];show _*(0+bD d t)=_;rw[yH,yw]
      have w1:=cF op n;rw[e,kI oM oM];refine ⟨e4 i1 (II _ w1),?_⟩
      generalize bg ix at_ way m d t=x at *
      by_cases c1:x.1=0
      . by_cases c3:dO op n (x.2.getD 0 0) 0=0
        . rw[iN c1 rfl c3,B0,yw]
          have:=vd (op:=op) (n:=n) (y:=0) (b:=[]) c (JU z i1) a (fun h=>absurd h kD) oM (fun _=>rfl) oM ⟨j,f⟩ c3
          rwa [yw] at this
        . rw[ja c1 rfl c3];exact SzR.nil _
      . rw[iQ c1];exact SzR.nil _
    . obtain ⟨i1,a⟩:=n3 c o l (h9 0 (Iq _))
      obtain ⟨p,j2⟩:=n3 c o l (h9 1 (by show 1<2;decide));replace i1:1<=bD d t:=i1;replace a:SzR (4*(2^d*bD d t)-3) (bg ix at_ way m d t).2:=a;replace p:1<=bD d u:=p;replace j2:SzR (4*(2^d*bD d u)-3) (bg ix at_ way m d u).2:=j2
      simp only[yf,Ju] at h1
      have e:bD (d+1) (.mk op n q s [t,u])=cO op n*(bD d t+bD d u):=by rw[jc (show [t,u].length≠0 from Jt _)];show _*(0+bD d t+bD d u)=_;rw[yH]
      have w1:=cF op n;rw[e,jN oM oM];refine ⟨e4 oM (II _ w1),?_⟩
      generalize bg ix at_ way m d t=x at *
      generalize bg ix at_ way m d u=y at *
      by_cases c1:x.1=0
      . by_cases c2:y.1=0
        . by_cases c3:dO op n (x.2.getD 0 0) (y.2.getD 0 0)=0
          . rw[iN c1 c2 c3,B0,Nat.mul_add]
            exact vd (op:=op) (n:=n) c (JU z i1) a (fun _=>j2) (fun _=>JU z p) oM oM ⟨j,f⟩ c3
          . rw[ja c1 c2 c3];exact SzR.nil _
        . rw[mH c1 c2];exact SzR.nil _
      . rw[iQ c1];exact SzR.nil _
end
theorem vm {n:Nat}{a:List Rat}(h:¬(a.getD 0 0).num.sign<0):(cV (n+1) a (bx (n+1) ((1:Int):Rat))).getD 0 0≠0:=by
 have:=vq (Iq n) a
 unfold dC at this
 rwa [if_neg h] at this
theorem ub {n:Nat}{a:List Rat}(h:(a.getD 0 0).num.sign<0):(cV (n+1) (cY (n+1) a ((-1:Int):Rat)) (bx (n+1) ((1:Int):Rat))).getD 0 0≠0:=by
 have:=vq (Iq n) a
 unfold dC at this
 rwa [if_pos h] at this
theorem DD {op z:Int}{m:Nat}{a b:List Rat}(c:op=9\/op=10)(h:0<(a.getD 0 0).num.sign):a=jM op z m a b:=by
 rcases c with rfl|rfl
 ·rw[mg];unfold dC;rw[if_neg oM]
 ·rw[jv,if_pos h]
theorem sh {op z:Int}{m:Nat}{a b:List Rat}(h:op=12/\b.getD 0 0<a.getD 0 0\/op=13/\a.getD 0 0<b.getD 0 0):a=jM op z m a b:=by
 rcases h with ⟨rfl,h⟩|⟨rfl,h⟩
 ·rw[jr,if_pos h]
 ·rw[ji,if_neg (by grind)]
theorem qV {op z:Int}{m:Nat}{a b:List Rat}(h:op=12/\a.getD 0 0<b.getD 0 0\/op=13/\b.getD 0 0<a.getD 0 0):b=jM op z m a b:=by
 rcases h with ⟨rfl,h⟩|⟨rfl,h⟩
 ·rw[jr,if_neg (by grind)]
 ·rw[ji,if_pos h]
theorem jz (i:Z9)(j c:Nat)(e:Z9)(l d:Nat)(n:Nat)(M:n<=12)(y:Nat)(b:List Rat)(o:Z9)(x:Nat)(C:b.length=n+1)(B:Nat)(D:SzR B b)(J:B<=1500000)(w:World)(h:Hp)(g:G w h)(z:Sq o b h)(H:Tab h):CR 131 #[.agg #[.iface 112 (.agg #[.slice i j c,.slice e l d,nV n]),.map (some y),.bool true],.slice o b.length x] w h (fun v h1=>∃ F,v=.slice (sB F) (cY (n+1) b ((-1:Int):Rat)).length (n+1)/\Sq (sB F) (cY (n+1) b ((-1:Int):Rat)) h1):=by
 have a:=(((sS g).aS z).add (K:=fun I=>Tab I) H);refine go Tryz.func131 [(0,.agg #[.iface 112 (.agg #[qS i j c,qS e l d,nV n]),.map (some y),qT]),(1,qS o b.length x)] rfl (aD (lA 2 116 ([.iface 112 (.agg #[qS i j c,qS e l d,nV n]),.map (some y),qT]) a (fun L w2 Q a=>lL a ae (ag (cR 7 [] mixed a ai ?_)))));refine eV 0 5 (pB L) (eO 1 6 [(0,0,1)] (.iface 112 (.agg #[qS i j c,qS e l d,nV n])) a (eV 2 7 (qS o b.length x) (eV 4 9 (.iface 112 (.agg #[qS i j c,qS e l d,nV n])) (eV 5 10 (.iface 112 (.agg #[qS i j c,qS e l d,nV n])) (af 3 8 a (fun _ _ a=>mC (-1) kD kD _ _ a.g) (fun W V a=>eC 6 11 a (fun _ _ a=>xP i j c e l d n M b o x C B D oM ((-1:Int):Rat) (LQ.int kD kD) _ _ a.g a.f.2.1 a.f.1) ?_))))));rintro _ _ _ S O a ⟨u,rfl,p⟩;replace a:=a.aS p;exact bA a (fun U _ a=>tV 7 4 (qS (sB u) ((cY (n+1) b ((-1:Int):Rat)).length) (n+1)) (tN (kX (a.ret [] (qS (sB u) ((cY (n+1) b ((-1:Int):Rat)).length) (n+1)) (⟨_,rfl,a.f.1⟩)))))
theorem xd (u:Z9)(i e:Nat)(l:Z9)(x j:Nat)(n:Nat)(L:n<=12)(X:Nat)(op z:Int)(q:Rat)(s:ByteArray)(A:Z9)(kn c:Nat)(d:List Rat)(D:Z9)(I:Nat)(J:d.length=n+1)(C:Nat)(B:SzR C d)(hwa:C<=1500000)(hop:7<=op/\op<=11)(ds:op=8 -> -12<=z/\z<=12)(hw4:C<=400000)(hwz:op=8->z.natAbs*(2*C+2)+1<=1400000)(w:World)(h:Hp)(g:G w h)(hSa:Sq D d h)(tb:Tab h):CR 96 #[.agg #[.iface 112 (.agg #[.slice u i e,.slice l x j,nV n]),.map (some X),.bool true],bu ⟨op,z,q,s,A,kn,c⟩,.slice D d.length I] w h (fun v h1=>∃ (L_:List Rat)(A_:Z9)(c_:Nat),v=.tuple #[.slice A_ L_.length c_,iV (dO op z (d.getD 0 0) 0)]/\Sq A_ L_ h1/\(dO op z (d.getD 0 0) 0=0->L_=jM op z (n+1) d [])):=by
 have b:=(((sS g).aS hSa).add (K:=fun y=>Tab y) tb);refine go Tryz.func96 [(0,.agg #[.iface 112 (.agg #[qS u i e,qS l x j,nV n]),.map (some X),qT]),(1,bu ⟨op,z,q,s,A,kn,c⟩),(2,qS D d.length I)] rfl (aD (lA 3 116 ([.iface 112 (.agg #[qS u i e,qS l x j,nV n]),.map (some X),qT]) b (fun F w2 h3 b=>lA 4 32 (bH ⟨op,z,q,s,A,kn,c⟩) b (fun M w5 h6 b=>lL b aE (aK (lL b [.v (pB F),.o (.iface 112 (.agg #[qS u i e,qS l x j,nV n])) 1 0 1,.c] (au 14 b (xQ u i e l x j n L d D I J _ _ b.g b.f.2.1) (fun w7 h8 b=>au 15 b (gj (d.getD 0 0) (LQ.mono (B.lq oM 0) oM) _ _ b.g) (fun w9 _ b=>?_)))))))));have dx:=gy (d.getD 0 0).num;refine lL b ae (ag (ab b [.v (pB M),.o (iV op) 0 0 1] (a7 (aD ?_))));cases za:((op:Int) == (7:Int))
 .
  have zn:=aq za;refine lB 19 za (lL b ae (am (aD ?_)));cases zb:((op:Int) == (8:Int))
  .
   have zo:=aq zb;refine lB 24 zb (lL b ae (am (aD ?_)));cases zc:((op:Int) == (11:Int))
   .
    have zp:=aq zc;refine lB 62 zc (lL b ae (am (cK (cQ (ab b ae ?_)))));cases zd:(((d.getD 0 0).num.sign:Int) == (0:Int))
    .
     have zq:=aq zd;refine lB 100 zd (am (cK (cQ (ab b ae ?_))));cases ze:(decide ((0:Int)<((d.getD 0 0).num.sign:Int)))
     .
      have zr:=oF ze;refine lB 103 ze (am (cK (cQ (ab b [.v (pB M),.o (iV op) 0 0 1] ?_))));cases zf:((op:Int) == (9:Int))
      .
       have zs:=aq zf;refine lB 107 zf (am (cK (ab b [.v (pB F),.o (.iface 112 (.agg #[qS u i e,qS l x j,nV n])) 1 0 1,.v (qv (0:Rat))] (lC 114 b (eP u i e l x j n L (0:Rat) _ _ b.g ) ?_))));rintro _ _ _ b ⟨cx,rfl,bn⟩;replace b:=b.aS bn;refine lL b aE (lN (kX ?_));obtain rfl:op=10:=by omega
       have H:dO 10 z (d.getD 0 0) 0=0:=((dR kD).trans (bE (fun y=>absurd y kD) (fun y=>absurd y kD) (fun _=>dI oM) (fun y=>absurd y kD)));exact b.ret [] (.tuple #[qS (sB cx) ((bx (n+1) (0:Rat)).length) (n+1),iV 0]) (⟨(bx (n+1) (0:Rat)),_,_,by rw[H],b.f.1,fun _=>(by rw[jv,if_neg oM])⟩)
      have zs:=eq_of_beq zf;refine lB 107 zf (ar (ab b [.o (.agg #[.iface 112 (.agg #[qS u i e,qS l x j,nV n]),.map (some X),qT]) 1 0 3,.c] (lC 110 b (jz u i e l x j n L X d D I J C B oM _ _ b.g b.f.2.1 b.f.1) ?_)));rintro _ _ _ b ⟨c9,rfl,b6⟩;replace b:=b.aS b6;refine lL b aE (lN (kX ?_));obtain rfl:op=9:=by omega
      have H:dO 9 z (d.getD 0 0) 0=0:=((dR kD).trans (bE (fun y=>absurd y kD) (fun y=>absurd y kD) (fun _=>dI oM) (fun y=>absurd y kD)));exact b.ret [] (.tuple #[qS (sB c9) ((cY (n+1) d ((-1:Int):Rat)).length) (n+1),iV 0]) (⟨(cY (n+1) d ((-1:Int):Rat)),_,_,by rw[H],b.f.1,fun _=>(by rw[mg];unfold dC;rw[if_pos oM])⟩)
     have zr:=oT ze;refine lB 103 ze (ar (ab b dG (lN (kX ?_))));have H:dO op z (d.getD 0 0) 0=0:=((dR oM).trans (bE (fun y=>absurd y oM) (fun y=>absurd y oM) (fun _=>dI oM) (fun y=>absurd y oM)));exact b.ret [] (.tuple #[qS D d.length I,iV 0]) (⟨d,_,_,by rw[H],b.f.2.1,fun _=>(DD oM oM)⟩)
    have zq:=eq_of_beq zd;refine lB 100 zd (ar (ab b dG (lN (kX ?_))));have H:dO op z (d.getD 0 0) 0=7:=((dR oM).trans (r6 (.inl ⟨by omega,oz oM⟩)));exact b.ret [] (.tuple #[qS D d.length I,iV 7]) (⟨d,_,_,by rw[H],b.f.2.1,fun y=>absurd y (by rw[H];decide)⟩)
   have zp:=eq_of_beq zc;refine lB 62 zc (lL b ae (ar (cQ (ab b [.v (qP F 2),.o qT 1 2 1,.c,.c] ?_))));cases zg:(((d.getD 0 0).num.sign:Int) == (0:Int))
   .
    have zt:=aq zg;refine lB 67 zg (lL b [.v qF] (am (cK (ab b aE (ag (ab b ae ?_))))));cases zi:(decide (((d.getD 0 0).num.sign:Int)<(0:Int)))
    .
     have zu:=oF zi;refine lB 72 zi (am (cK (cQ (cR 23 [] mixed b ai ?_))));refine eV 0 76 (pB F) (eO 1 77 [(1,0,1)] (.iface 112 (.agg #[qS u i e,qS l x j,nV n])) b (eV 2 78 (qS D d.length I) (eV 3 79 (pB F) (eO 4 80 [(1,0,1)] (.iface 112 (.agg #[qS u i e,qS l x j,nV n])) b (eV 5 81 (pB F) (eO 6 82 [(1,0,1)] (.iface 112 (.agg #[qS u i e,qS l x j,nV n])) b (eV 7 83 (qS D d.length I) (eV 8 84 (pB F) (eO 9 85 [(1,0,1)] (.iface 112 (.agg #[qS u i e,qS l x j,nV n])) b (eV 11 87 (.iface 112 (.agg #[qS u i e,qS l x j,nV n])) (eV 12 88 (.iface 112 (.agg #[qS u i e,qS l x j,nV n])) (eV 14 90 (.iface 112 (.agg #[qS u i e,qS l x j,nV n])) (eV 15 91 (.iface 112 (.agg #[qS u i e,qS l x j,nV n])) (eV 17 93 (.iface 112 (.agg #[qS u i e,qS l x j,nV n])) (eV 18 94 (.iface 112 (.agg #[qS u i e,qS l x j,nV n])) (eV 20 96 (.iface 112 (.agg #[qS u i e,qS l x j,nV n])) (eV 21 97 (.iface 112 (.agg #[qS u i e,qS l x j,nV n])) (af 10 86 b (fun _ _ b=>mC (1) kD kD _ _ b.g) (fun _ _ b=>eC 13 89 b (fun _ _ b=>eP u i e l x j n L ((1:Int):Rat) _ _ b.g ) ?_)))))))))))))))))));rintro _ _ _ _ _ b ⟨c6,rfl,bl⟩;replace b:=b.aS bl;refine eC 16 92 b (fun _ _ b=>rq u i e l x j n L d D I J C B oM (bx (n+1) ((1:Int):Rat)) (sB c6) (n+1) (dt _ _) 1 (SzR.num (LQ.int kD kD) (n+1) (Iq n)) oM _ _ b.g b.f.r.1 b.f.1 b.f.2.1) ?_;rintro _ _ _ _ _ b ⟨cz,rfl,cb⟩;replace b:=b.aS cb;refine eC 19 95 b (fun _ _ b=>iG u i e l x j n L (cV (n+1) d (bx (n+1) ((1:Int):Rat))) (sB cz) (n+1) (gB _ _ _) (C+1+1) (B.add (SzR.num (LQ.int kD kD) (n+1) (Iq n)) (n+1)) oM (vm (n:=n) (a:=d) oM) oM _ _ b.g b.f.1 b.f.r.1) ?_;rintro _ _ _ _ _ b ⟨c3,rfl,b3⟩;replace b:=b.aS b3;refine eC 22 98 b (fun _ _ b=>mm u i e l x j n L d D I J C B oM (bC (n+1) (cV (n+1) d (bx (n+1) ((1:Int):Rat)))) (sB c3) (n+1) (fk _ _) (2*(C+1+1)+1) ((B.add (SzR.num (LQ.int kD kD) (n+1) (Iq n)) (n+1)).inv (vm (n:=n) (a:=d) oM) (n+1)) oM oM _ _ b.g b.f.q.1 b.f.1 b.f.r.2.1) ?_;rintro _ _ _ _ _ b ⟨V,rfl,bf⟩;replace b:=b.aS bf;refine bA b (fun _ _ b=>tV 23 6 (qS (sB V) ((de (n+1) d (bC (n+1) (cV (n+1) d (bx (n+1) ((1:Int):Rat))))).length) (n+1)) (tV 24 7 (iV 0) (tN (bY [(2,qS D d.length I),(3,pB F),(4,pB M),(6,qS (sB V) ((de (n+1) d (bC (n+1) (cV (n+1) d (bx (n+1) ((1:Int):Rat))))).length) (n+1)),(7,iV 0),(8,iV ((d.getD 0 0).num.sign))] ?_))));refine kX ?_;obtain rfl:op=11:=by omega
     have H:dO 11 z (d.getD 0 0) 0=0:=(ve (dI oM));exact b.ret [] (.tuple #[qS (sB V) ((de (n+1) d (bC (n+1) (cV (n+1) d (bx (n+1) ((1:Int):Rat))))).length) (n+1),iV 0]) (⟨(de (n+1) d (bC (n+1) (cV (n+1) d (bx (n+1) ((1:Int):Rat))))),_,_,by rw[H],b.f.1,fun _=>(by rw[jo];unfold dC;rw[if_neg oM])⟩)
    have zu:=oT zi;refine lB 72 zi (ar (kQ (lL b [.o (.agg #[.iface 112 (.agg #[qS u i e,qS l x j,nV n]),.map (some X),qT]) 1 0 3,.c] (lC 75 b (jz u i e l x j n L X d D I J C B oM _ _ b.g b.f.2.1 b.f.1) ?_))));rintro _ _ _ b ⟨bb,rfl,bd⟩;replace b:=b.aS bd;refine lL b ae (ag (cR 23 [] mixed b ai ?_));refine eV 0 76 (pB F) (eO 1 77 [(1,0,1)] (.iface 112 (.agg #[qS u i e,qS l x j,nV n])) b (eV 2 78 (qS D d.length I) (eV 3 79 (pB F) (eO 4 80 [(1,0,1)] (.iface 112 (.agg #[qS u i e,qS l x j,nV n])) b (eV 5 81 (pB F) (eO 6 82 [(1,0,1)] (.iface 112 (.agg #[qS u i e,qS l x j,nV n])) b (eV 7 83 (qS (sB bb) ((cY (n+1) d ((-1:Int):Rat)).length) (n+1)) (eV 8 84 (pB F) (eO 9 85 [(1,0,1)] (.iface 112 (.agg #[qS u i e,qS l x j,nV n])) b (eV 11 87 (.iface 112 (.agg #[qS u i e,qS l x j,nV n])) (eV 12 88 (.iface 112 (.agg #[qS u i e,qS l x j,nV n])) (eV 14 90 (.iface 112 (.agg #[qS u i e,qS l x j,nV n])) (eV 15 91 (.iface 112 (.agg #[qS u i e,qS l x j,nV n])) (eV 17 93 (.iface 112 (.agg #[qS u i e,qS l x j,nV n])) (eV 18 94 (.iface 112 (.agg #[qS u i e,qS l x j,nV n])) (eV 20 96 (.iface 112 (.agg #[qS u i e,qS l x j,nV n])) (eV 21 97 (.iface 112 (.agg #[qS u i e,qS l x j,nV n])) (af 10 86 b (fun _ _ b=>mC (1) kD kD _ _ b.g) (fun _ _ b=>eC 13 89 b (fun _ _ b=>eP u i e l x j n L ((1:Int):Rat) _ _ b.g ) ?_)))))))))))))))))));rintro _ _ _ _ _ b ⟨cm,rfl,b2⟩;replace b:=b.aS b2;refine eC 16 92 b (fun _ _ b=>rq u i e l x j n L (cY (n+1) d ((-1:Int):Rat)) (sB bb) (n+1) (gm _ _ _) C (B.neg (n+1)) oM (bx (n+1) ((1:Int):Rat)) (sB cm) (n+1) (dt _ _) 1 (SzR.num (LQ.int kD kD) (n+1) (Iq n)) oM _ _ b.g b.f.2.1 b.f.1 b.f.r.1) ?_;rintro _ _ _ _ _ b ⟨c5,rfl,ch⟩;replace b:=b.aS ch;refine eC 19 95 b (fun _ _ b=>iG u i e l x j n L (cV (n+1) (cY (n+1) d ((-1:Int):Rat)) (bx (n+1) ((1:Int):Rat))) (sB c5) (n+1) (gB _ _ _) (C+1+1) ((B.neg (n+1)).add (SzR.num (LQ.int kD kD) (n+1) (Iq n)) (n+1)) oM (ub (n:=n) (a:=d) oM) oM _ _ b.g b.f.1 b.f.r.2.1) ?_;rintro _ _ _ _ _ b ⟨cr,rfl,b0⟩;replace b:=b.aS b0;refine eC 22 98 b (fun _ _ b=>mm u i e l x j n L d D I J C B oM (bC (n+1) (cV (n+1) (cY (n+1) d ((-1:Int):Rat)) (bx (n+1) ((1:Int):Rat)))) (sB cr) (n+1) (fk _ _) (2*(C+1+1)+1) (((B.neg (n+1)).add (SzR.num (LQ.int kD kD) (n+1) (Iq n)) (n+1)).inv (ub (n:=n) (a:=d) oM) (n+1)) oM oM _ _ b.g b.f.q.2.1 b.f.1 b.f.q.1) ?_;rintro _ _ _ _ _ b ⟨Y,rfl,bk⟩;replace b:=b.aS bk;refine bA b (fun _ _ b=>tV 23 6 (qS (sB Y) ((de (n+1) d (bC (n+1) (cV (n+1) (cY (n+1) d ((-1:Int):Rat)) (bx (n+1) ((1:Int):Rat))))).length) (n+1)) (tV 24 7 (iV 0) (tN (bY [(2,qS D d.length I),(3,pB F),(4,pB M),(6,qS (sB Y) ((de (n+1) d (bC (n+1) (cV (n+1) (cY (n+1) d ((-1:Int):Rat)) (bx (n+1) ((1:Int):Rat))))).length) (n+1)),(7,iV 0),(8,iV ((d.getD 0 0).num.sign))] ?_))));refine kX ?_;obtain rfl:op=11:=by omega
    have H:dO 11 z (d.getD 0 0) 0=0:=(ve (dI oM));exact b.ret [] (.tuple #[qS (sB Y) ((de (n+1) d (bC (n+1) (cV (n+1) (cY (n+1) d ((-1:Int):Rat)) (bx (n+1) ((1:Int):Rat))))).length) (n+1),iV 0]) (⟨(de (n+1) d (bC (n+1) (cV (n+1) (cY (n+1) d ((-1:Int):Rat)) (bx (n+1) ((1:Int):Rat))))),_,_,by rw[H],b.f.1,fun _=>(by rw[jo];unfold dC;rw[if_pos oM])⟩)
   have zt:=eq_of_beq zg;refine lB 67 zg (lL b [.v qT] (ar (ab b dG (lN (kX ?_)))));obtain rfl:op=11:=by omega
   have H:dO 11 z (d.getD 0 0) 0=7:=(FO (oz oM));exact b.ret [] (.tuple #[qS D d.length I,iV 7]) (⟨d,_,_,by rw[H],b.f.2.1,fun y=>absurd y (by rw[H];decide)⟩)
  have zo:=eq_of_beq zb;refine lB 24 zb (lL b ae (ar (cQ (ab b [.v (qP M 1),.o (iV z) 0 1 1] ?_))));cases zj:(decide ((z:Int)<(0:Int)))
  .
   have zv:=oF zj;refine lB 27 zj (lL b ae (lG 29 ?_));refine lG 30 (lL b [.v qF] (am (cK (cQ (ab b [.v (qP M 1),.o (iV z) 0 1 1] ?_)))));have ⟨zB,df⟩:=dF (p:=(z:Int)<(0:Int)) oM;refine lB 35 zB (am (cK (cQ (cR 6 [] mixed b ai ?_))));refine eV 0 40 (pB F) (eO 1 41 [(1,0,1)] (.iface 112 (.agg #[qS u i e,qS l x j,nV n])) b (eV 3 43 (.iface 112 (.agg #[qS u i e,qS l x j,nV n])) (eV 4 44 (.iface 112 (.agg #[qS u i e,qS l x j,nV n])) (af 2 42 b (fun _ _ b=>mC (1) kD kD _ _ b.g) (fun _ _ b=>eC 5 45 b (fun _ _ b=>eP u i e l x j n L ((1:Int):Rat) _ _ b.g ) ?_)))));rintro _ _ _ _ _ b ⟨S,rfl,bq⟩;replace b:=b.aS bq;refine bA b (fun _ zE b=>tV 6 9 (qS (sB S) ((bx (n+1) ((1:Int):Rat)).length) (n+1)) (tN (cQ (ab b [.v (qP M 1),.o (iV z) 0 1 1,.v (qP M 1),.o (iV z) 0 1 1] (lI 50 (0-z) ?_)))));refine lV 51 (iV (max (z:Int) (0-z:Int))) ?_ (hr:=ay (n:=(if (0-z:Int)>(z:Int) then (0-z:Int) else (z:Int))) kR (by simp only[qz]));refine lL b ae (lN (bY [(2,qS D d.length I),(3,pB F),(4,pB M),(6,sZ),(7,iV 0),(8,iV ((d.getD 0 0).num.sign)),(9,qS (sB S) ((bx (n+1) ((1:Int):Rat)).length) (n+1)),(51,iV (max (z:Int) (0-z:Int))),(52,iV 0)] ?_));refine kZ ?_;replace b:=b.aS b.f.1;refine bY _ (CG.loop (fun μ_ Γ w_=>∃ (k:Nat)(W:Z9)(Z:Nat)(y:Hp),μ_=z.natAbs-k/\Γ=[(2,qS D d.length I),(3,pB F),(4,pB M),(6,sZ),(7,iV 0),(8,iV ((d.getD 0 0).num.sign)),(51,iV (max (z:Int) (0-z:Int))),(52,nV k),(9,qS W ((fI (n+1) d k).length) Z)]/\SS w h w_ y [⟨M,32,bH ⟨op,z,q,s,A,kn,c⟩⟩,⟨F,116,[.iface 112 (.agg #[qS u i e,qS l x j,nV n]),.map (some X),qT]⟩] [] [Sq W (fI (n+1) d k),Sq (sB S) (bx (n+1) ((1:Int):Rat)),fun y=>Tab y,Sq D d]/\k<=z.natAbs) _ ⟨0,sB S,(n+1),zE,rfl,rfl,b.to _ _,In _⟩ ?_);rintro _ _ _ ⟨k,W,Z,_,dp,rfl,b,hk⟩;refine aD ?_;cases zk:(decide ((k:Int)<(max (z:Int) (0-z:Int):Int)))
   .
    have zw:=oF zk;refine lB 53 zk (ag (cD (CG.exit ?_)))
    show CG _ _ _ _ _ _ _ _
    refine ab b dG (lN (kX ?_));obtain rfl:op=8:=by omega
    have H:dO 8 z (d.getD 0 0) 0=0:=((dR kD).trans (bE (fun y=>absurd y kD) (fun _ y=>absurd y oM) (fun y=>absurd y kD) (fun y=>absurd y kD)));exact b.ret [] (.tuple #[qS W ((fI (n+1) d k).length) Z,iV 0]) (⟨(fI (n+1) d k),_,_,by rw[H],b.f.1,fun _=>(by rw[lz,show z.natAbs=k by omega];unfold px;rw[if_neg oM])⟩)
   have zw:=oT zk;refine lB 53 zk (ag (bZ (cK (cQ (kZ (kQ ?_))))));have cy:=hwz oM;have U:=yI (C+1) (show k+1<=z.natAbs by omega);rw[yB] at U
   have c4:z.natAbs*(C+1)<=z.natAbs*(2*C+2):=A5 _ oM;refine lL b [.v (pB F),.o (.iface 112 (.agg #[qS u i e,qS l x j,nV n])) 1 0 1,.c,.c] (lC 58 b (mm u i e l x j n L (fI (n+1) d k) W Z (km _ _ _) (1+k*(C+1)) (B.pow (Iq n) k) oM d D I J C B oM oM _ _ b.g b.f.1 b.f.r.2.1 b.f.r.1) ?_);rintro _ _ zG b ⟨c7,rfl,bz⟩;replace b:=b.aS bz;refine lL b ae (lN (kQ (bB 59 ((k:Nat)+1) (k+1) ?_)));refine lL b ae (lD ?_);intro a_ ka;replace b:=(b.tl.tl.aS b.f.1);refine ⟨_,_,?_,⟨k+1,sB c7,(n+1),zG,rfl,rfl,b.to _ _,oM⟩,ka.to _ kR⟩
   omega
  have zv:=oT zj;refine lB 27 zj (lL b aE ?_);cases zl:(((d.getD 0 0).num.sign:Int) == (0:Int))
  .
   have zx:=aq zl;refine lB 30 zl (lL b [.v qF] (am (cK (cQ (ab b [.v (qP M 1),.o (iV z) 0 1 1] ?_)))));have ⟨zD,dc⟩:=dT (p:=(z:Int)<(0:Int)) oM;refine lB 35 zD (ar (kQ (lL b [.v (pB F),.o (.iface 112 (.agg #[qS u i e,qS l x j,nV n])) 1 0 1,.c] (lC 39 b (iG u i e l x j n L d D I J C B oM (dI oM) oM _ _ b.g b.f.2.1 b.f.1) ?_))));rintro _ _ _ b ⟨Q,rfl,cd⟩;replace b:=b.aS cd;refine lL b ae (ag (cR 6 [] mixed b ai ?_));refine eV 0 40 (pB F) (eO 1 41 [(1,0,1)] (.iface 112 (.agg #[qS u i e,qS l x j,nV n])) b (eV 3 43 (.iface 112 (.agg #[qS u i e,qS l x j,nV n])) (eV 4 44 (.iface 112 (.agg #[qS u i e,qS l x j,nV n])) (af 2 42 b (fun _ _ b=>mC (1) kD kD _ _ b.g) (fun _ _ b=>eC 5 45 b (fun _ _ b=>eP u i e l x j n L ((1:Int):Rat) _ _ b.g ) ?_)))));rintro _ _ _ _ _ b ⟨O,rfl,b7⟩;replace b:=b.aS b7;refine bA b (fun _ zH b=>tV 6 9 (qS (sB O) ((bx (n+1) ((1:Int):Rat)).length) (n+1)) (tN (cQ (ab b [.v (qP M 1),.o (iV z) 0 1 1,.v (qP M 1),.o (iV z) 0 1 1] (lI 50 (0-z) ?_)))));refine lV 51 (iV (max (z:Int) (0-z:Int))) ?_ (hr:=ay (n:=(if (0-z:Int)>(z:Int) then (0-z:Int) else (z:Int))) kR (by simp only[qz]));refine lL b ae (lN (bY [(2,qS (sB Q) ((bC (n+1) d).length) (n+1)),(3,pB F),(4,pB M),(6,sZ),(7,iV 0),(8,iV ((d.getD 0 0).num.sign)),(9,qS (sB O) ((bx (n+1) ((1:Int):Rat)).length) (n+1)),(51,iV (max (z:Int) (0-z:Int))),(52,iV 0)] ?_));refine kZ ?_;replace b:=b.aS b.f.1;refine bY _ (CG.loop (fun μ_ Γ w_=>∃ (k:Nat)(W:Z9)(Z:Nat)(y:Hp),μ_=z.natAbs-k/\Γ=[(2,qS (sB Q) ((bC (n+1) d).length) (n+1)),(3,pB F),(4,pB M),(6,sZ),(7,iV 0),(8,iV ((d.getD 0 0).num.sign)),(51,iV (max (z:Int) (0-z:Int))),(52,nV k),(9,qS W ((fI (n+1) (bC (n+1) d) k).length) Z)]/\SS w h w_ y [⟨M,32,bH ⟨op,z,q,s,A,kn,c⟩⟩,⟨F,116,[.iface 112 (.agg #[qS u i e,qS l x j,nV n]),.map (some X),qT]⟩] [] [Sq W (fI (n+1) (bC (n+1) d) k),Sq (sB O) (bx (n+1) ((1:Int):Rat)),Sq (sB Q) (bC (n+1) d),fun y=>Tab y,Sq D d]/\k<=z.natAbs) _ ⟨0,sB O,(n+1),zH,rfl,rfl,b.to _ _,In _⟩ ?_);rintro _ _ _ ⟨k,W,Z,_,dn,rfl,b,hk⟩;refine aD ?_;cases zm:(decide ((k:Int)<(max (z:Int) (0-z:Int):Int)))
   .
    have zA:=oF zm;refine lB 53 zm (ag (cD (CG.exit ?_)))
    show CG _ _ _ _ _ _ _ _
    refine ab b dG (lN (kX ?_));obtain rfl:op=8:=by omega
    have H:dO 8 z (d.getD 0 0) 0=0:=((dR kD).trans (bE (fun y=>absurd y kD) (fun _ _=>dI oM) (fun y=>absurd y kD) (fun y=>absurd y kD)));exact b.ret [] (.tuple #[qS W ((fI (n+1) (bC (n+1) d) k).length) Z,iV 0]) (⟨(fI (n+1) (bC (n+1) d) k),_,_,by rw[H],b.f.1,fun _=>(by rw[lz,show z.natAbs=k by omega];unfold px;rw[if_pos oM])⟩)
   have zA:=oT zm;refine lB 53 zm (ag (bZ (cK (cQ (kZ (kQ ?_))))));have cy:=hwz oM;have U:=yI (2*C+1+1) (show k+1<=z.natAbs by omega);rw[yB] at U
   have c4:z.natAbs*(2*C+1+1)<=z.natAbs*(2*C+2):=A5 _ oM;refine lL b [.v (pB F),.o (.iface 112 (.agg #[qS u i e,qS l x j,nV n])) 1 0 1,.c,.c] (lC 58 b (mm u i e l x j n L (fI (n+1) (bC (n+1) d) k) W Z (km _ _ _) (1+k*(2*C+1+1)) ((B.inv (dI oM) (n+1)).pow (Iq n) k) oM (bC (n+1) d) (sB Q) (n+1) (fk _ _) (2*C+1) (B.inv (dI oM) (n+1)) oM oM _ _ b.g b.f.1 b.f.r.1 b.f.r.2.1) ?_);rintro _ _ zI b ⟨c8,rfl,b5⟩;replace b:=b.aS b5;refine lL b ae (lN (kQ (bB 59 ((k:Nat)+1) (k+1) ?_)));refine lL b ae (lD ?_);intro a_ ka;replace b:=(b.tl.tl.aS b.f.1);refine ⟨_,_,?_,⟨k+1,sB c8,(n+1),zI,rfl,rfl,b.to _ _,oM⟩,ka.to _ kR⟩
   omega
  have zx:=eq_of_beq zl;refine lB 30 zl (lL b [.v qT] (ar (ab b dG (lN (kX ?_)))));obtain rfl:op=8:=by omega
  have H:dO 8 z (d.getD 0 0) 0=6:=((dR kD).trans (re (.inr ⟨rfl,by omega,oz oM⟩)));exact b.ret [] (.tuple #[qS D d.length I,iV 6]) (⟨d,_,_,by rw[H],b.f.2.1,fun y=>absurd y (by rw[H];decide)⟩)
 have zn:=eq_of_beq za;refine lB 19 za (lL b ae (ar (ab b [.o (.agg #[.iface 112 (.agg #[qS u i e,qS l x j,nV n]),.map (some X),qT]) 1 0 3,.c] (lC 22 b (jz u i e l x j n L X d D I J C B oM _ _ b.g b.f.2.1 b.f.1) ?_))));rintro _ _ _ b ⟨cq,rfl,b9⟩;replace b:=b.aS b9;refine lL b aE (lN (kX ?_));obtain rfl:op=7:=by omega
 have H:dO 7 z (d.getD 0 0) 0=0:=((dR kD).trans (bE (fun y=>absurd y kD) (fun y=>absurd y kD) (fun y=>absurd y kD) (fun y=>absurd y kD)));exact b.ret [] (.tuple #[qS (sB cq) ((cY (n+1) d ((-1:Int):Rat)).length) (n+1),iV 0]) (⟨(cY (n+1) d ((-1:Int):Rat)),_,_,by rw[H],b.f.1,fun _=>rfl⟩)
theorem t8 (u:Z9)(j i:Nat)(p:Z9)(x l:Nat)(n:Nat)(S:n<=12)(bm:Nat)(op z:Int)(q:Rat)(s:ByteArray)(A:Z9)(kn c:Nat)(e:List Rat)(C:Z9)(F:Nat)(J:e.length=n+1)(Wa:Nat)(L:SzR Wa e)(hwa:Wa<=1500000)(d:List Rat)(D:Z9)(I:Nat)(H:d.length=n+1)(Q:Nat)(B:SzR Q d)(hwb:Q<=1500000)(hop:3<=op/\op<=6\/12<=op/\op<=13)(hw4:Wa<=400000)(hw5:Q<=400000)(w:World)(h:Hp)(g:G w h)(hSa:Sq C e h)(hSb:Sq D d h)(tb:Tab h):CR 97 #[.agg #[.iface 112 (.agg #[.slice u j i,.slice p x l,nV n]),.map (some bm),.bool true],bu ⟨op,z,q,s,A,kn,c⟩,.slice C e.length F,.slice D d.length I] w h (fun v h1=>∃ (L_:List Rat)(A_:Z9)(c_:Nat),v=.tuple #[.slice A_ L_.length c_,iV (dO op z (e.getD 0 0) (d.getD 0 0))]/\Sq A_ L_ h1/\(dO op z (e.getD 0 0) (d.getD 0 0)=0->L_=jM op z (n+1) e d)):=by
 have a:=((((sS g).aS hSa).aS hSb).add (K:=fun b=>Tab b) tb);refine go Tryz.func97 [(0,.agg #[.iface 112 (.agg #[qS u j i,qS p x l,nV n]),.map (some bm),qT]),(1,bu ⟨op,z,q,s,A,kn,c⟩),(2,qS C e.length F),(3,qS D d.length I)] rfl (aD (lA 4 116 ([.iface 112 (.agg #[qS u j i,qS p x l,nV n]),.map (some bm),qT]) a (fun W w2 h3 a=>lA 5 32 (bH ⟨op,z,q,s,A,kn,c⟩) a (fun b4 w5 h6 a=>lL a aE (ag (ab a [.v (pB b4),.o (iV op) 0 0 1] (a7 (aD ?_))))))));cases M:((op:Int) == (3:Int))
 .
  have b0:=aq M;refine lB 14 M (lL a ae (am (aD ?_)));cases U:((op:Int) == (4:Int))
  .
   have bq:=aq U;refine lB 21 U (lL a ae (am (aD ?_)));cases O:((op:Int) == (5:Int))
   .
    have b3:=aq O;refine lB 32 O (lL a ae (am (aD ?_)));cases za:((op:Int) == (6:Int))
    .
     have zg:=aq za;refine lB 39 za (lL a ae (am (cK (cQ (cR 9 [] mixed a ai ?_)))));refine eV 0 57 (pB W) (eO 1 58 [(1,0,1)] (.iface 112 (.agg #[qS u j i,qS p x l,nV n])) a (eV 2 59 (qS C e.length F) (eV 4 61 (pB W) (eO 5 62 [(1,0,1)] (.iface 112 (.agg #[qS u j i,qS p x l,nV n])) a (eV 6 63 (qS D d.length I) (af 3 60 a (fun _ _ a=>xQ u j i p x l n S e C F J _ _ a.g a.f.r.1) (fun _ _ a=>af 7 64 a (fun _ _ a=>xQ u j i p x l n S d D I H _ _ a.g a.f.2.1) (fun _ _ a=>af 8 65 a (fun _ _ a=>iF (e.getD 0 0) (d.getD 0 0) (LQ.mono (L.lq oM 0) oM) (LQ.mono (B.lq oM 0) oM) _ _ a.g) (fun _ _ a=>bA a (fun _ _ a=>tV 9 10 (iV (dJ (e.getD 0 0) (d.getD 0 0))) (tN (cQ (ab a ae ?_)))))))))))));cases zb:((dJ (e.getD 0 0) (d.getD 0 0):Int) == (0:Int))
     .
      have zi:=aq zb;refine lB 67 zb (am (cK (cQ (ab a ae ?_))));cases zc:(decide ((0:Int)<(dJ (e.getD 0 0) (d.getD 0 0):Int)))
      .
       have zj:=oF zc;refine lB 70 zc (lL a [.v (pB b4),.o (iV op) 0 0 1] ?_);cases zd:((op:Int) == (12:Int))
       .
        have zk:=aq zd;refine lB 73 zd (lL a [.v qT] (ar (ab a dG (lN (kX ?_)))));have y:dO op z (e.getD 0 0) (d.getD 0 0)=0:=((dR oM).trans (bE (fun b=>absurd b oM) (fun b=>absurd b oM) (fun b=>absurd b oM) (fun _=>fun e_=>absurd (d8.2 e_) oM)));exact a.ret [] (.tuple #[qS C e.length F,iV 0]) (⟨e,_,_,by rw[y],a.f.r.1,fun _=>(sh (nN oM))⟩)
       have zk:=eq_of_beq zd;refine lB 73 zd (lL a [.v qF] (am (cK (ab a dG (lN (kX ?_))))));have y:dO op z (e.getD 0 0) (d.getD 0 0)=0:=((dR oM).trans (bE (fun b=>absurd b oM) (fun b=>absurd b oM) (fun b=>absurd b oM) (fun _=>fun e_=>absurd (d8.2 e_) oM)));exact a.ret [] (.tuple #[qS D d.length I,iV 0]) (⟨d,_,_,by rw[y],a.f.2.1,fun _=>(qV (nI oM))⟩)
      have zj:=oT zc;refine lB 70 zc (lL a [.v (pB b4),.o (iV op) 0 0 1] ?_);cases ze:((op:Int) == (12:Int))
      .
       have zl:=aq ze;refine lB 73 ze (lL a [.v qF] (am (cK (ab a dG (lN (kX ?_))))));have y:dO op z (e.getD 0 0) (d.getD 0 0)=0:=((dR oM).trans (bE (fun b=>absurd b oM) (fun b=>absurd b oM) (fun b=>absurd b oM) (fun _=>fun e_=>absurd (d8.2 e_) oM)));exact a.ret [] (.tuple #[qS D d.length I,iV 0]) (⟨d,_,_,by rw[y],a.f.2.1,fun _=>(qV (nI oM))⟩)
      have zl:=eq_of_beq ze;refine lB 73 ze (lL a [.v qT] (ar (ab a dG (lN (kX ?_)))));have y:dO op z (e.getD 0 0) (d.getD 0 0)=0:=((dR oM).trans (bE (fun b=>absurd b oM) (fun b=>absurd b oM) (fun b=>absurd b oM) (fun _=>fun e_=>absurd (d8.2 e_) oM)));exact a.ret [] (.tuple #[qS C e.length F,iV 0]) (⟨e,_,_,by rw[y],a.f.r.1,fun _=>(sh (nN oM))⟩)
     have zi:=eq_of_beq zb;refine lB 67 zb (ar (ab a dG (lN (kX ?_))));have y:dO op z (e.getD 0 0) (d.getD 0 0)=7:=((dR oM).trans (r6 (.inr ⟨by omega,d8.1 oM⟩)));exact a.ret [] (.tuple #[qS C e.length F,iV 7]) (⟨e,_,_,by rw[y],a.f.r.1,fun b=>absurd b (by rw[y];decide)⟩)
    have zg:=eq_of_beq za;refine lB 39 za (lL a ae (ar (cQ (ab a [.v (pB W),.o (.iface 112 (.agg #[qS u j i,qS p x l,nV n])) 1 0 1,.c] (au 43 a (xQ u j i p x l n S d D I H _ _ a.g a.f.2.1) (fun _ _ a=>au 44 a (gj (d.getD 0 0) (LQ.mono (B.lq oM 0) oM) _ _ a.g) (fun _ _ a=>?_)))))));have b5:=gy (d.getD 0 0).num;cases zf:(((d.getD 0 0).num.sign:Int) == (0:Int))
    .
     have zm:=aq zf;refine lB 45 zf (am (cK (cQ (cR 10 [] mixed a ai ?_))));refine eV 0 47 (pB W) (eO 1 48 [(1,0,1)] (.iface 112 (.agg #[qS u j i,qS p x l,nV n])) a (eV 2 49 (qS C e.length F) (eV 3 50 (pB W) (eO 4 51 [(1,0,1)] (.iface 112 (.agg #[qS u j i,qS p x l,nV n])) a (eV 5 52 (qS D d.length I) (eV 7 54 (.iface 112 (.agg #[qS u j i,qS p x l,nV n])) (eV 8 55 (.iface 112 (.agg #[qS u j i,qS p x l,nV n])) (eC 6 53 a (fun _ _ a=>iG u j i p x l n S d D I H Q B oM (dI oM) oM _ _ a.g a.f.2.1 a.f.1) ?_))))))));rintro _ _ _ _ _ a ⟨bn,rfl,Y⟩;replace a:=a.aS Y;refine eC 9 56 a (fun _ _ a=>mm u j i p x l n S e C F J Wa L oM (bC (n+1) d) (sB bn) (n+1) (fk _ _) (2*Q+1) (B.inv (dI oM) (n+1)) oM oM _ _ a.g a.f.r.2.1 a.f.1 a.f.2.1) ?_;rintro _ _ _ _ _ a ⟨V,rfl,bb⟩;replace a:=a.aS bb;refine bA a (fun _ _ a=>tV 10 8 (qS (sB V) ((de (n+1) e (bC (n+1) d)).length) (n+1)) (tV 11 9 (iV 0) (tN (kX ?_))));obtain rfl:op=6:=by omega
     have y:dO 6 z (e.getD 0 0) (d.getD 0 0)=0:=((dR kD).trans (bE (fun _=>dI oM) (fun b=>absurd b kD) (fun b=>absurd b kD) (fun b=>absurd b kD)));exact a.ret [] (.tuple #[qS (sB V) ((de (n+1) e (bC (n+1) d)).length) (n+1),iV 0]) (⟨(de (n+1) e (bC (n+1) d)),_,_,by rw[y],a.f.1,fun _=>rfl⟩)
    have zm:=eq_of_beq zf;refine lB 45 zf (ar (ab a dG (lN (kX ?_))));obtain rfl:op=6:=by omega
    have y:dO 6 z (e.getD 0 0) (d.getD 0 0)=6:=((dR kD).trans (re (.inl ⟨rfl,oz oM⟩)));exact a.ret [] (.tuple #[qS C e.length F,iV 6]) (⟨e,_,_,by rw[y],a.f.r.1,fun b=>absurd b (by rw[y];decide)⟩)
   have b3:=eq_of_beq O;refine lB 32 O (lL a ae (ar (ab a [.v (pB W),.o (.iface 112 (.agg #[qS u j i,qS p x l,nV n])) 1 0 1,.c,.c] (lC 37 a (mm u j i p x l n S e C F J Wa L oM d D I H Q B oM oM _ _ a.g a.f.r.1 a.f.2.1 a.f.1) ?_))));rintro _ _ _ a ⟨bz,rfl,Z⟩;replace a:=a.aS Z;refine lL a aE (lN (kX ?_));obtain rfl:op=5:=by omega
   have y:dO 5 z (e.getD 0 0) (d.getD 0 0)=0:=((dR kD).trans (bE (fun b=>absurd b kD) (fun b=>absurd b kD) (fun b=>absurd b kD) (fun b=>absurd b kD)));exact a.ret [] (.tuple #[qS (sB bz) ((de (n+1) e d).length) (n+1),iV 0]) (⟨(de (n+1) e d),_,_,by rw[y],a.f.1,fun _=>rfl⟩)
  have bq:=eq_of_beq U;refine lB 21 U (lL a ae (ar (cQ (cR 9 [] mixed a ai ?_))));refine eV 0 22 (pB W) (eO 1 23 [(1,0,1)] (.iface 112 (.agg #[qS u j i,qS p x l,nV n])) a (eV 2 24 (qS C e.length F) (eO 3 25 [(1,0,3)] (.agg #[.iface 112 (.agg #[qS u j i,qS p x l,nV n]),.map (some bm),qT]) a (eV 4 26 (qS D d.length I) (eV 6 28 (.iface 112 (.agg #[qS u j i,qS p x l,nV n])) (eV 7 29 (.iface 112 (.agg #[qS u j i,qS p x l,nV n])) (eC 5 27 a (fun _ _ a=>jz u j i p x l n S bm d D I H Q B oM _ _ a.g a.f.2.1 a.f.1) ?_)))))));rintro _ _ _ _ _ a ⟨b2,rfl,bf⟩;replace a:=a.aS bf;refine eC 8 30 a (fun _ _ a=>rq u j i p x l n S e C F J Wa L oM (cY (n+1) d ((-1:Int):Rat)) (sB b2) (n+1) (gm _ _ _) Q (B.neg (n+1)) oM _ _ a.g a.f.r.2.1 a.f.1 a.f.2.1) ?_;rintro _ _ _ _ _ a ⟨X,rfl,bd⟩;replace a:=a.aS bd;refine bA a (fun _ _ a=>tV 9 8 (qS (sB X) ((cV (n+1) e (cY (n+1) d ((-1:Int):Rat))).length) (n+1)) (tV 10 9 (iV 0) (tN (kX ?_))));obtain rfl:op=4:=by omega
  have y:dO 4 z (e.getD 0 0) (d.getD 0 0)=0:=((dR kD).trans (bE (fun b=>absurd b kD) (fun b=>absurd b kD) (fun b=>absurd b kD) (fun b=>absurd b kD)));exact a.ret [] (.tuple #[qS (sB X) ((cV (n+1) e (cY (n+1) d ((-1:Int):Rat))).length) (n+1),iV 0]) (⟨(cV (n+1) e (cY (n+1) d ((-1:Int):Rat))),_,_,by rw[y],a.f.1,fun _=>rfl⟩)
 have b0:=eq_of_beq M;refine lB 14 M (lL a ae (ar (ab a [.v (pB W),.o (.iface 112 (.agg #[qS u j i,qS p x l,nV n])) 1 0 1,.c,.c] (lC 19 a (rq u j i p x l n S e C F J Wa L oM d D I H Q B oM _ _ a.g a.f.r.1 a.f.2.1 a.f.1) ?_))));rintro _ _ _ a ⟨bl,rfl,bk⟩;replace a:=a.aS bk;refine lL a aE (lN (kX ?_));obtain rfl:op=3:=by omega
 have y:dO 3 z (e.getD 0 0) (d.getD 0 0)=0:=((dR kD).trans (bE (fun b=>absurd b kD) (fun b=>absurd b kD) (fun b=>absurd b kD) (fun b=>absurd b kD)));exact a.ret [] (.tuple #[qS (sB bl) ((cV (n+1) e d).length) (n+1),iV 0]) (⟨(cV (n+1) e d),_,_,by rw[y],a.f.1,fun _=>rfl⟩)
open Go.RowKit Go.WideMaps
structure MapI (P:Program) (kt:TypeId) (Q:Value->Prop) (w1:World) (h1:Hp) (b:Nat):Prop where
  jk:h1[b]?=some aY
  ex:∃ es clk,w1.heap[b]?=some (.map es clk)/\∀ e∈es.toList,(∃ l,keyOf P kt e.key=some l)/\Q e.val
section laws
variable {P:Program}{n:Nat}{N R:Po}{X:Nat->Po}{ops:Array Oper}{k:Nat}{Γ:bW}{w:World}{h:Hp}{w0 w1:World}{h0 h1:Hp}{B:List Bx}{Rs:List Rw}{F:List (Hp->Prop)}
theorem SS.base (s:SS w1 h1 w h B Rs F){b:Nat}{o:Obj}(u:h1[b]?=some aY)(H:b<w1.heap.size) :
  SS { w1 with heap:=w1.heap.setIfInBounds b o } h1 { w with heap:=w.heap.setIfInBounds b o } h B Rs F/\G { w1 with heap:=w1.heap.setIfInBounds b o } h1:=by
 have y:b<h1.size:=aF u;have l:h[b]?=some aY:=(s.st.up.gr.blk b y).trans u;have p:b<w.heap.size:=by rw[s.g.size];exact aF l
 have set:∀ (w:World) c,c≠b->({ w with heap:=w.heap.setIfInBounds b o }:World).heap[c]?=w.heap[c]?:=fun w c d=>by show (w.heap.setIfInBounds b o)[c]?=_;rw[i3 (Ne.symm d)]
 have a:∀ (w:World),b<w.heap.size->({ w with heap:=w.heap.setIfInBounds b o }:World).heap[b]?=some o:=fun w D=>by show (w.heap.setIfInBounds b o)[b]?=_;rw[yV D]
 have z:∀ (w:World) (h:Hp),G w h->h[b]?=some aY->G { w with heap:=w.heap.setIfInBounds b o } h:=fun w h g j=>⟨by show (w.heap.setIfInBounds b o).size=_;rw[JV];exact g.size,fun c=>by
  by_cases e:c=b
  ·subst e;exact .inr j
  ·rw[set w c e];exact g.blk c⟩
 have i:=z w1 h1 s.g0 u;refine ⟨⟨i,⟨⟨?_,s.st.up.gr,z w h s.g l⟩,fun x C=>?_,s.st.jk,s.st.lo,s.st.nd⟩,fun r hr=>?_,s.ap,s.mo,s.f⟩,i⟩
 ·have e:=s.st.up.ext
  refine ⟨e.os,e.tape,e.output,?_,fun c d=>?_⟩
  ·show (w1.heap.setIfInBounds b o).size<=(w.heap.setIfInBounds b o).size
   rw[JV,JV];exact e.size
  ·by_cases q:c=b
   ·subst q;rw[a w p,a w1 H]
   ·rw[set w c q,set w1 c q];exact e.block c (by have:c<(w1.heap.setIfInBounds b o).size:=d;rw[JV] at this;exact this)
 ·have:x.b≠b:=fun e=>by have:=s.st.lo x C;omega
  exact (set w x.b this).trans (s.st.own x C)
 ·have q:=s.ro r hr
  refine ⟨dX q.own (fun c d=>set w c (fun e=>?_)),q.jk,q.ap⟩;subst e
  rcases q.own with ⟨_,e2|⟨g,cap,cur,hv,hb',_⟩⟩
  ·rw[e2.1] at d;simp[Value.ownBlock] at d
  ·rw[hv] at d
   simp[Value.ownBlock] at d
   omega
end laws
theorem Dx (ok:ByteArray->Prop)(ix:ByteArray->Nat)(fs:List Rat)(b:Z9)(i:Nat)(z:fs.length<=1000)(e:Nat)(l:List MapEntry)(d:Nat)(n:Int)(q:Rat)(s:ByteArray)(A:Z9)(c:Nat)(ps:List PTm)(ks:List Tm)(w:World)(h:Hp)(g:G w h)(C:SlO 9 bH bI h A ps)(D:Sq b fs h)(hM:MapS h e l):CR 64 #[.agg #[.iface 128 (.agg #[.slice b fs.length i]),.map (some e),.bool false],bu ⟨1,n,q,s,A,ps.length,c⟩] w h (fun v h1=>∃ (p:Z9)(c_:Nat),v=.tuple #[nS (ba ix fs (d+1) (.mk 1 n q s ks)).2.1 p (ba ix fs (d+1) (.mk 1 n q s ks)).2.2.length c_,iV (ba ix fs (d+1) (.mk 1 n q s ks)).1]/\Sq p (ba ix fs (d+1) (.mk 1 n q s ks)).2.2 h1):=by
 have a:=((((sS g).aS C).aS D).add (K:=fun B=>MapS B e l) hM);refine go Tryz.func64 [(0,.agg #[.iface 128 (.agg #[qS b fs.length i]),.map (some e),qF]),(1,bu ⟨1,n,q,s,A,ps.length,c⟩)] rfl (aD (lA 2 132 ([.iface 128 (.agg #[qS b fs.length i]),.map (some e),qF]) a (fun F w2 M a=>lA 3 32 (bH ⟨1,n,q,s,A,ps.length,c⟩) a (fun u J H a=>lA 4 77 ([qF,uV 0,eS,uV 0,eS,sZ]) a (fun O L I a=>lL a ae (aK (lA 6 77 ([qF,uV 0,eS,uV 0,eS,sZ]) a (fun y _ _ a=>ag (ab a [.v (pB u),.o (iV 1) 2 0 1] (a7 (ab a [.v qT,.c] (ar (ab a [.v (pB F),.o (.iface 128 (.agg #[qS b fs.length i])) 3 0 1,.v (qP u 2),.o (qv q) 2 2 5] (lC 19 a (iW b fs.length i z q _ _ a.g) ?_))))))))))))));rintro _ _ _ a ⟨x,rfl,j⟩;replace a:=a.aS j;exact lP 1 0 (qZ q (sB x) ((yL fs.length (0:Rat)).length) fs.length) a (fun _ a=>lL a ae (ah a [(1,0,6)] (.tuple #[qY q (sB x) ((yL fs.length (0:Rat)).length) fs.length,iV 0]) (⟨_,_,rfl,a.f.1⟩)))
theorem DF (ok:ByteArray->Prop)(ix:ByteArray->Nat)(fs:List Rat)(e:Z9)(j:Nat)(F:fs.length<=1000)(b:Nat)(l:List MapEntry)(d:Nat)(n:Int)(q:Rat)(s:ByteArray)(A:Z9)(c:Nat)(ps:List PTm)(ks:List Tm)(u:ix s<fs.length)(x:∃ i,Instr.findNow .string (.string s) l 0=some (some (i,nV (ix s))))(w:World)(h:Hp)(g:G w h)(I:SlO 9 bH bI h A ps)(J:Sq e fs h)(hM:MapS h b l):CR 64 #[.agg #[.iface 128 (.agg #[.slice e fs.length j]),.map (some b),.bool false],bu ⟨2,n,q,s,A,ps.length,c⟩] w h (fun v h1=>∃ (y:Z9)(c_:Nat),v=.tuple #[nS (ba ix fs (d+1) (.mk 2 n q s ks)).2.1 y (ba ix fs (d+1) (.mk 2 n q s ks)).2.2.length c_,iV (ba ix fs (d+1) (.mk 2 n q s ks)).1]/\Sq y (ba ix fs (d+1) (.mk 2 n q s ks)).2.2 h1):=by
 have a:=((((sS g).aS I).aS J).add (K:=fun H=>MapS H b l) hM);refine go Tryz.func64 [(0,.agg #[.iface 128 (.agg #[qS e fs.length j]),.map (some b),qF]),(1,bu ⟨2,n,q,s,A,ps.length,c⟩)] rfl (aD (lA 2 132 ([.iface 128 (.agg #[qS e fs.length j]),.map (some b),qF]) a (fun C w2 V a=>lA 3 32 (bH ⟨2,n,q,s,A,ps.length,c⟩) a (fun z S O a=>lA 4 77 ([qF,uV 0,eS,uV 0,eS,sZ]) a (fun W U Q a=>lL a ae (aK (lA 6 77 ([qF,uV 0,eS,uV 0,eS,sZ]) a (fun D _ _ a=>ag (ab a [.v (pB z),.o (iV 2) 2 0 1] (a7 (ab a [.v qF,.c] (am (ab a [.v qT,.c] (ar (ab a [.v (pB C),.o (.iface 128 (.agg #[qS e fs.length j])) 3 0 1,.v (qP C 1),.o (.map (some b)) 3 1 1,.v (qP z 7),.o (.string s) 2 7 1] (FB 28 107 9 3 (s) false (nV (ix s)) (true) a a.f.1 ?_ (hf:=(by obtain ⟨M,L⟩:=x;exact .inl ⟨M,L,rfl⟩))))))))))))))))));refine lC 29 a (C8 e fs.length j F fs rfl (ix s) u _ _ a.g a.f.2.1) ?_;rintro _ _ _ a ⟨B,rfl,p⟩;replace a:=a.aS p;exact lP 1 0 (qZ (fs.getD (ix s) 0) (sB B) ((ef fs.length (ix s)).length) fs.length) a (fun _ a=>lL a ae (ah a [(1,0,6)] (.tuple #[qY (fs.getD (ix s) 0) (sB B) ((ef fs.length (ix s)).length) fs.length,iV 0]) (⟨_,_,rfl,a.f.1⟩)))
theorem CX  (ok:ByteArray->Prop)(ix:ByteArray->Nat)(fs:List Rat)(j:Z9)(l:Nat)(hm:fs.length<=1000)(e:Nat)(L:List MapEntry)(d:Nat)(ih:∀ (p:PTm) (t:Tm) (w:World) (h:Hp),G w h->TmH d h p t->WfT1 ok d t->bD d t<=1000->Sq j fs h->MapS h e L->Tab h->Calls Tryz.prog 64 #[.agg #[.iface 128 (.agg #[.slice j fs.length l]),.map (some e),.bool false],bu p] w (Ret w h (fun v h1=>∃ (x:Z9)(c_:Nat),v=.tuple #[nS (ba ix fs d t).2.1 x (ba ix fs d t).2.2.length c_,iV (ba ix fs d t).1]/\Sq x (ba ix fs d t).2.2 h1)))(op n:Int)(q:Rat)(s:ByteArray)(A:Z9)(c:Nat)(u:PTm)(b:Tm)(y:WfT1 ok d b)(Y:bD d b<=1000)(Z:LQ 3000 (ba ix fs d b).2.1)(M:∀ i,LQ 1000000 ((ba ix fs d b).2.2.getD i 0))(hop:3<=op/\op<=13)(har:fF op=1)(hn : -12<=n/\n<=12)(w:World)(h:Hp)(g:G w h)(hK:SlO 9 bH bI h A ([u]:List PTm))(X:TmH d h u b)(hF:Sq j fs h)(hM:MapS h e L)(tb:Tab h):CR 64 #[.agg #[.iface 128 (.agg #[.slice j fs.length l]),.map (some e),.bool false],bu ⟨op,n,q,s,A,1,c⟩] w h (fun v h1=>∃ (x:Z9)(c_:Nat),v=.tuple #[nS (ba ix fs (d+1) (.mk op n q s ([b]:List Tm))).2.1 x (ba ix fs (d+1) (.mk op n q s ([b]:List Tm))).2.2.length c_,iV (ba ix fs (d+1) (.mk op n q s ([b]:List Tm))).1]/\Sq x (ba ix fs (d+1) (.mk op n q s ([b]:List Tm))).2.2 h1):=by
 have a:=((((((sS g).aS hK).add (K:=fun z=>TmH d z u b) X).aS hF).add (K:=fun z=>MapS z e L) hM).add (K:=fun z=>Tab z) tb);have hln:([u]:List PTm).length=1:=rfl;have hac:=aN op;refine go Tryz.func64 [(0,.agg #[.iface 128 (.agg #[qS j fs.length l]),.map (some e),qF]),(1,bu ⟨op,n,q,s,A,1,c⟩)] rfl (aD (lA 2 132 ([.iface 128 (.agg #[qS j fs.length l]),.map (some e),qF]) a (fun b1 w2 h3 a=>lA 3 32 (bH ⟨op,n,q,s,A,1,c⟩) a (fun W w5 h6 a=>lA 4 77 ([qF,uV 0,eS,uV 0,eS,sZ]) a (fun b7 w8 h9 a=>lL a ae (aK (lA 6 77 ([qF,uV 0,eS,uV 0,eS,sZ]) a (fun b10 _ _ a=>ag (ab a [.v (pB W),.o (iV op) 2 0 1] (a7 (aD ?_)))))))))));have zc:((op:Int) == (1:Int))=false:=fY oM;have bb:=aq zc;refine lB 14 zc (lL a ae (am (aD ?_)));have zd:((op:Int) == (2:Int))=false:=fY oM;have V:=aq zd;refine lB 21 zd (lL a ae (am (cK (cQ ?_))));have O:=a;refine cR 10 [⟨9,7,.cells (IL [qF,uV 0,eS,uV 0,eS,sZ]) 77 (0,0)⟩] mixed a (be (dE kR (fun _ _=>by kernel_rfl)) ai) (eO 0 31 [(3,0,3)] (.agg #[.iface 128 (.agg #[qS j fs.length l]),.map (some e),qF]) a (eV 1 32 (qP W 8) (eO 2 33 [(2,8,1)] (qS A 1 c) a (eX 3 34 A 1 c 9 0 0 ((a.f.q.1).ok oM) (eH 4 35 (bu (([u]:List PTm).getD 0 bI)) a ((a.f.q.1).el 0 oM) (eC 5 36 a (fun _ _ a=>ih (([u]:List PTm).getD 0 bI) b _ _ a.g a.f.r.2.1 y Y a.f.r.1 a.f.2.1 a.f.1) ?_))))));rintro _ _ _ _ _ a ⟨H,c1,rfl,hS1⟩;replace a:=a.aS hS1;refine eV 6 30 (.tuple #[qY ((ba ix fs d b).2.1) H (((ba ix fs d b).2.2).length) c1,iV ((ba ix fs d b).1)]) (eV 7 37 (qY ((ba ix fs d b).2.1) H (((ba ix fs d b).2.2).length) c1) (eV 8 38 (iV ((ba ix fs d b).1)) (fi [] O a 77 [qF,uV 0,eS,uV 0,eS,sZ] (fun _ _ zg a=>tP 10 0 0 (qZ ((ba ix fs d b).2.1) H (((ba ix fs d b).2.2).length) c1) a (fun _ a=>tV 11 8 (iV ((ba ix fs d b).1)) (tN (cQ (ab a ae ?_))))))));cases J:(((ba ix fs d b).1:Int) != (0:Int))
 .
  have ze:=aI J;refine lB 40 J (am (cK (cQ (ab a [.v (qP W 8),.o (qS A 1 c) 3 8 1,.v (iV 1),.v qT] (ar (kQ (lL a [.o (.agg #[.iface 128 (.agg #[qS j fs.length l]),.map (some e),qF]) 4 0 3,.o (bu ⟨op,n,q,s,A,1,c⟩) 3 0 9,.o (qY ((ba ix fs d b).2.1) H (((ba ix fs d b).2.2).length) c1) 0 0 6] (lC 51 a (BV j fs.length l hm 3000 1000000 kD kD kD e op n q s A 1 c (ba ix fs d b).2.1 (ba ix fs d b).2.2 H c1 (gV y oM) Z M oM (fun _=>hn) _ _ a.g a.f.1 a.f.2.1) ?_))))))));rintro _ _ _ a ⟨D,Gr,C,B,rfl,S,U⟩;replace a:=a.aS S;refine lL a [.c,.v (qY D C Gr.length B),.v (iV (cc op n (ba ix fs d b).2.1 0))] (lP 0 0 (qZ D C Gr.length B) a (fun _ a=>lL a ae (ag (ab a ae ?_))));cases I:(((cc op n (ba ix fs d b).2.1 0):Int) != (0:Int))
  .
   have zf:=aI I;exact lB 76 I (am (cK (ab a [.o (qY D C Gr.length B) 0 0 6] (lP 2 0 (qZ D C Gr.length B) a (fun _ a=>lL a ae (ah a [(2,0,6)] (.tuple #[qY D C Gr.length B,iV 0]) (by obtain ⟨Q,F⟩:=U oM;rw[qG oM oM,l9 oM rfl oM,Q,F];exact ⟨_,_,rfl,by rw[<-F];exact a.f.1⟩)))))))
  have zf:=aU I;refine lB 76 I (ar (ab a [.o (.agg #[qF,uV 0,eS,uV 0,eS,sZ]) 1 0 6,.c] (lP 2 0 ([qF,uV 0,eS,uV 0,eS,sZ]) a (fun _ a=>lL a ae (lN (bY [(4,pB b7),(5,iV (cc op n (ba ix fs d b).2.1 0)),(7,pB zg)] ?_))))));exact kX (a.ret [(2,0,6)] (.tuple #[.agg #[qF,uV 0,eS,uV 0,eS,sZ],iV (cc op n (ba ix fs d b).2.1 0)]) (by rw[qG oM oM,o8 oM rfl oM];exact ⟨none,0,rfl,SlO.nil⟩))
 have ze:=aU J;exact lB 40 J (ar (ab a [.o (.agg #[qF,uV 0,eS,uV 0,eS,sZ]) 1 0 6,.c] (lP 2 0 ([qF,uV 0,eS,uV 0,eS,sZ]) a (fun _ a=>lL a ae (ah a [(2,0,6)] (.tuple #[.agg #[qF,uV 0,eS,uV 0,eS,sZ],iV ((ba ix fs d b).1)]) (by rw[qG oM oM,oc oM];exact ⟨none,0,rfl,SlO.nil⟩))))))
theorem EB  (ok:ByteArray->Prop)(ix:ByteArray->Nat)(fs:List Rat)(l:Z9)(x:Nat)(hm:fs.length<=1000)(j:Nat)(es:List MapEntry)(d:Nat)(ih:∀ (p:PTm) (t:Tm) (w:World) (h:Hp),G w h->TmH d h p t->WfT1 ok d t->bD d t<=1000->Sq l fs h->MapS h j es->Tab h->Calls Tryz.prog 64 #[.agg #[.iface 128 (.agg #[.slice l fs.length x]),.map (some j),.bool false],bu p] w (Ret w h (fun v h1=>∃ (C:Z9)(c_:Nat),v=.tuple #[nS (ba ix fs d t).2.1 C (ba ix fs d t).2.2.length c_,iV (ba ix fs d t).1]/\Sq C (ba ix fs d t).2.2 h1)))(op n:Int)(q:Rat)(s:ByteArray)(A:Z9)(c:Nat)(u:PTm)(e:Tm)(M:WfT1 ok d e)(X:bD d e<=1000)(Y:LQ 3000 (ba ix fs d e).2.1)(hG1:∀ i,LQ 1000000 ((ba ix fs d e).2.2.getD i 0))(y:PTm)(b:Tm)(D:WfT1 ok d b)(hg2:bD d b<=1000)(hv2:LQ 3000 (ba ix fs d b).2.1)(hG2:∀ i,LQ 1000000 ((ba ix fs d b).2.2.getD i 0))(hop:3<=op/\op<=13)(har:fF op=2)(hn : -12<=n/\n<=12)(w:World)(h:Hp)(g:G w h)(hK:SlO 9 bH bI h A ([u,y]:List PTm))(hp1:TmH d h u e)(hp2:TmH d h y b)(hF:Sq l fs h)(hM:MapS h j es)(tb:Tab h):CR 64 #[.agg #[.iface 128 (.agg #[.slice l fs.length x]),.map (some j),.bool false],bu ⟨op,n,q,s,A,2,c⟩] w h (fun v h1=>∃ (C:Z9)(c_:Nat),v=.tuple #[nS (ba ix fs (d+1) (.mk op n q s ([e,b]:List Tm))).2.1 C (ba ix fs (d+1) (.mk op n q s ([e,b]:List Tm))).2.2.length c_,iV (ba ix fs (d+1) (.mk op n q s ([e,b]:List Tm))).1]/\Sq C (ba ix fs (d+1) (.mk op n q s ([e,b]:List Tm))).2.2 h1):=by
 have a:=(((((((sS g).aS hK).add (K:=fun B=>TmH d B u e) hp1).add (K:=fun B=>TmH d B y b) hp2).aS hF).add (K:=fun B=>MapS B j es) hM).add (K:=fun B=>Tab B) tb);have hln:([u,y]:List PTm).length=2:=rfl;have hac:=aN op;refine go Tryz.func64 [(0,.agg #[.iface 128 (.agg #[qS l fs.length x]),.map (some j),qF]),(1,bu ⟨op,n,q,s,A,2,c⟩)] rfl (aD (lA 2 132 ([.iface 128 (.agg #[qS l fs.length x]),.map (some j),qF]) a (fun b1 w2 h3 a=>lA 3 32 (bH ⟨op,n,q,s,A,2,c⟩) a (fun F w5 h6 a=>lA 4 77 ([qF,uV 0,eS,uV 0,eS,sZ]) a (fun b7 w8 h9 a=>lL a ae (aK (lA 6 77 ([qF,uV 0,eS,uV 0,eS,sZ]) a (fun zj _ _ a=>ag (ab a [.v (pB F),.o (iV op) 2 0 1] (a7 (aD ?_)))))))))));have zd:((op:Int) == (1:Int))=false:=fY oM;have bb:=aq zd;refine lB 14 zd (lL a ae (am (aD ?_)));have ze:((op:Int) == (2:Int))=false:=fY oM;have bd:=aq ze;refine lB 21 ze (lL a ae (am (cK (cQ ?_))));have z:=a;refine cR 10 [⟨9,7,.cells (IL [qF,uV 0,eS,uV 0,eS,sZ]) 77 (0,0)⟩] mixed a (be (dE kR (fun _ _=>by kernel_rfl)) ai) (eO 0 31 [(3,0,3)] (.agg #[.iface 128 (.agg #[qS l fs.length x]),.map (some j),qF]) a (eV 1 32 (qP F 8) (eO 2 33 [(2,8,1)] (qS A 2 c) a (eX 3 34 A 2 c 9 0 0 ((a.f.q.2.1).ok oM) (eH 4 35 (bu (([u,y]:List PTm).getD 0 bI)) a ((a.f.q.2.1).el 0 oM) (eC 5 36 a (fun _ _ a=>ih (([u,y]:List PTm).getD 0 bI) e _ _ a.g a.f.q.1 M X a.f.r.1 a.f.2.1 a.f.1) ?_))))));rintro _ _ _ _ _ a ⟨Q,c1,rfl,hS1⟩;replace a:=a.aS hS1;refine eV 6 30 (.tuple #[qY ((ba ix fs d e).2.1) Q (((ba ix fs d e).2.2).length) c1,iV ((ba ix fs d e).1)]) (eV 7 37 (qY ((ba ix fs d e).2.1) Q (((ba ix fs d e).2.2).length) c1) (eV 8 38 (iV ((ba ix fs d e).1)) (fi [] z a 77 [qF,uV 0,eS,uV 0,eS,sZ] (fun _ _ zk a=>tP 10 0 0 (qZ ((ba ix fs d e).2.1) Q (((ba ix fs d e).2.2).length) c1) a (fun _ a=>tV 11 8 (iV ((ba ix fs d e).1)) (tN (cQ (ab a ae ?_))))))));cases V:(((ba ix fs d e).1:Int) != (0:Int))
 .
  have zf:=aI V;refine lB 40 V (am (cK (cQ (ab a [.v (qP F 8),.o (qS A 2 c) 3 8 1,.v (iV 2),.v qF] (am (cQ ?_))))));have z:=a;refine cR 10 [⟨9,9,.cells (IL [qF,uV 0,eS,uV 0,eS,sZ]) 77 (0,0)⟩] mixed a (be (dE kR (fun _ _=>by kernel_rfl)) ai) (eO 0 55 [(4,0,3)] (.agg #[.iface 128 (.agg #[qS l fs.length x]),.map (some j),qF]) a (eV 1 56 (qP F 8) (eO 2 57 [(3,8,1)] (qS A 2 c) a (eX 3 58 A 2 c 9 1 1 ((a.f.q.r.1).ok oM) (eH 4 59 (bu (([u,y]:List PTm).getD 1 bI)) a ((a.f.q.r.1).el 1 oM) (eC 5 60 a (fun _ _ a=>ih (([u,y]:List PTm).getD 1 bI) b _ _ a.g a.f.q.1 D hg2 a.f.r.2.1 a.f.r.1 a.f.2.1) ?_))))));rintro _ _ _ _ _ a ⟨I,c2,rfl,hS2⟩;replace a:=a.aS hS2;refine eV 6 54 (.tuple #[qY ((ba ix fs d b).2.1) I (((ba ix fs d b).2.2).length) c2,iV ((ba ix fs d b).1)]) (eV 7 61 (qY ((ba ix fs d b).2.1) I (((ba ix fs d b).2.2).length) c2) (eV 8 62 (iV ((ba ix fs d b).1)) (fi [] z a 77 [qF,uV 0,eS,uV 0,eS,sZ] (fun _ _ zl a=>tP 10 0 0 (qZ ((ba ix fs d b).2.1) I (((ba ix fs d b).2.2).length) c2) a (fun _ a=>tV 11 10 (iV ((ba ix fs d b).1)) (tN (bY [(2,pB b1),(3,pB F),(4,pB b7),(5,iV 0),(6,pB zj),(7,pB zk),(8,iV ((ba ix fs d e).1)),(9,pB zl),(10,iV ((ba ix fs d b).1))] ?_)))))));refine cQ (ab a ae ?_);cases U:(((ba ix fs d b).1:Int) != (0:Int))
  .
   have zg:=aI U;refine lB 64 U (am (cK (kQ (lL a [.o (.agg #[.iface 128 (.agg #[qS l fs.length x]),.map (some j),qF]) 5 0 3,.o (bu ⟨op,n,q,s,A,2,c⟩) 4 0 9,.o (qY ((ba ix fs d e).2.1) Q (((ba ix fs d e).2.2).length) c1) 1 0 6,.o (qY ((ba ix fs d b).2.1) I (((ba ix fs d b).2.2).length) c2) 0 0 6] (lC 72 a (At l fs.length x hm 3000 1000000 kD kD kD j op n q s A 2 c (ba ix fs d e).2.1 (ba ix fs d e).2.2 Q c1 (gV M oM) Y hG1 (ba ix fs d b).2.1 (ba ix fs d b).2.2 I c2 (gV D oM) hv2 hG2 oM _ _ a.g a.f.2.1 a.f.1 a.f.r.1) ?_)))));rintro _ _ _ a ⟨H,Gr,O,J,rfl,hSr,W⟩;replace a:=a.aS hSr;refine lL a [.c,.v (qY H O Gr.length J),.v (iV (cc op n (ba ix fs d e).2.1 (ba ix fs d b).2.1))] (lP 1 0 (qZ H O Gr.length J) a (fun _ a=>lL a ae (ag (ab a ae ?_))));cases S:(((cc op n (ba ix fs d e).2.1 (ba ix fs d b).2.1):Int) != (0:Int))
   .
    have zi:=aI S;exact lB 76 S (am (cK (ab a [.o (qY H O Gr.length J) 1 0 6] (lP 3 0 (qZ H O Gr.length J) a (fun _ a=>lL a ae (ah a [(3,0,6)] (.tuple #[qY H O Gr.length J,iV 0]) (by obtain ⟨Z,L⟩:=W oM;rw[nW oM oM,l9 oM oM oM,Z,L];exact ⟨_,_,rfl,by rw[<-L];exact a.f.1⟩)))))))
   have zi:=aU S;exact lB 76 S (ar (ab a [.o (.agg #[qF,uV 0,eS,uV 0,eS,sZ]) 2 0 6,.c] (lP 3 0 ([qF,uV 0,eS,uV 0,eS,sZ]) a (fun _ a=>lL a ae (ah a [(3,0,6)] (.tuple #[.agg #[qF,uV 0,eS,uV 0,eS,sZ],iV (cc op n (ba ix fs d e).2.1 (ba ix fs d b).2.1)]) (by rw[nW oM oM,o8 oM oM oM];exact ⟨none,0,rfl,SlO.nil⟩))))))
  have zg:=aU U;exact lB 64 U (ar (ab a [.o (.agg #[qF,uV 0,eS,uV 0,eS,sZ]) 2 0 6,.c] (lP 3 0 ([qF,uV 0,eS,uV 0,eS,sZ]) a (fun _ a=>lL a ae (ah a [(3,0,6)] (.tuple #[.agg #[qF,uV 0,eS,uV 0,eS,sZ],iV ((ba ix fs d b).1)]) (by rw[nW oM oM,qI oM oM];exact ⟨none,0,rfl,SlO.nil⟩))))))
 have zf:=aU V;exact lB 40 V (ar (ab a [.o (.agg #[qF,uV 0,eS,uV 0,eS,sZ]) 1 0 6,.c] (lP 2 0 ([qF,uV 0,eS,uV 0,eS,sZ]) a (fun _ a=>lL a ae (ah a [(2,0,6)] (.tuple #[.agg #[qF,uV 0,eS,uV 0,eS,sZ],iV ((ba ix fs d e).1)]) (by rw[nW oM oM,oc oM];exact ⟨none,0,rfl,SlO.nil⟩))))))
theorem Ct (ok:ByteArray->Prop)(ix:ByteArray->Nat)(fs:List Rat)(o:Z9)(u:Nat)(z:fs.length<=1000)(b:Nat)(e:List MapEntry)(M:∀ i,LQ 1 (fs.getD i 0))(j:∀ s,ok s->ix s<fs.length/\∃ i,Instr.findNow .string (.string s) e 0=some (some (i,nV (ix s)))):∀ (d:Nat) (p:PTm) (t:Tm) (w:World) (h:Hp),d<=24->G w h->TmH d h p t->WfT1 ok d t->bD d t<=1000->Sq o fs h->MapS h b e->Tab h->Calls Tryz.prog 64 #[.agg #[.iface 128 (.agg #[.slice o fs.length u]),.map (some b),.bool false],bu p] w (Ret w h (fun v h1=>∃ (K:Z9)(c_:Nat),v=.tuple #[nS (ba ix fs d t).2.1 K (ba ix fs d t).2.2.length c_,iV (ba ix fs d t).1]/\Sq K (ba ix fs d t).2.2 h1))
  | 0,_,_,_,_,_,_,x,_,_,_,_,_=>x.elim
  | d + 1,p,t,w,h,hd,g,x,wf,hw,hF,hM,tb=>by
    obtain ⟨op,n,q,s,A,c,ps,ks,rfl,rfl,Z,C,a⟩:=x.open;obtain ⟨w1,w2,w3,O,Y,X,F,D,B⟩:=wf;replace w1:fF op=(ks.length:Nat):=w1;replace F : -12<=n:=F;replace D:n<=12:=D;replace B:∀ i,i<ks.length->WfT1 ok d (ks.getD i dD):=B;have V:=aN op;have L:=fun p t w h=>Ct ok ix fs o u z b e M j d p t w h oM
    have y:∀ t,WfT1 ok d t->bD d t<=1000->LQ 3000 (ba ix fs d t).2.1/\∀ i,LQ 1000000 ((ba ix fs d t).2.2.getD i 0):=fun t S k2=>by
      obtain ⟨_,W,Q⟩:=o7 (ix:=ix) M S;exact ⟨W.mono oM,fun i=>(Q i).mono (by have:=H9 k2 (show d<=24 by omega);omega)⟩
    rcases e7 w1 with rfl|⟨t1,rfl⟩|⟨t1,t2,rfl⟩
    . simp only[Ju] at w1
      by_cases o1:op=1
      . subst o1;exact Dx ok ix fs o u z b e d n q s A c ps [] w h g C hF hM
      . obtain rfl:op=2:=by omega
        exact DF ok ix fs o u z b e d n q s A c ps [] (j s (O rfl)).1 (j s (O rfl)).2 w h g C hF hM
    . obtain ⟨J,rfl⟩:=JW.1 (show ps.length=1 from a.len)
      simp only[yf,Ju] at w1
      have l:WfT1 ok d t1:=B 0 (Iq _);have f:bD d t1<=1000:=oe hw;exact CX ok ix fs o u z b e d L op n q s A c J t1 l f (y t1 l f).1 (y t1 l f).2 oM oM ⟨F,D⟩ w h g C (a.at_ 0 (Iq _)) hF hM tb
    . obtain ⟨J,U,rfl⟩:=sD (show ps.length=2 from a.len)
      simp only[yf,Ju] at w1
      have l:WfT1 ok d t1:=B 0 (Iq _);have I:WfT1 ok d t2:=B 1 (by show 1<2;decide);obtain ⟨f,H⟩:=oP hw;exact EB ok ix fs o u z b e d L op n q s A c J t1 l f (y t1 l f).1 (y t1 l f).2 U t2 I H (y t2 I H).1 (y t2 I H).2 oM oM ⟨F,D⟩ w h g C (a.at_ 0 (Iq _)) (a.at_ 1 (by show 1<2;decide)) hF hM tb
def tr (nm:Int->ByteArray)(l:List Stp)(i:Nat):Tm:=EJ nm l (l.length+1) i
structure DpS (dp:Nat->Nat) (l:List Stp):Prop where
  one:∀ k,k<l.length->1<=dp k
  le:∀ k,k<l.length->dp k<=20
  a:∀ k,k<l.length->0<fF (l.getD k d6).op->dp (l.getD k d6).a.toNat<dp k
  b:∀ k,k<l.length->1<fF (l.getD k d6).op->dp (l.getD k d6).b.toNat<dp k
def iO:Nat->Tm->Nat
  | 0,_=>0
  | d+1,t=>1+eh (fun i=>iO d (t.ks.getD i dD)) t.ks.length
def fr:Nat->Tm->ByteArray->Prop
  | 0,_,_=>False
  | d+1,t,s=>(t.op=2/\s=t.s)\/∃ i,i<t.ks.length/\fr d (t.ks.getD i dD) s
def HasK (d:Nat)(ks:List Tm)(k:Nat)(s:ByteArray):Prop:=∃ i,i<k/\fr d (ks.getD i dD) s
theorem HasK.zero {d:Nat}{ks:List Tm}{s:ByteArray}:¬HasK d ks 0 s:=fun ⟨i,h,_⟩=>absurd h (Jl i)
theorem HasK.succ {d:Nat}{ks:List Tm}{k:Nat}{s:ByteArray}:HasK d ks (k+1) s↔HasK d ks k s\/fr d (ks.getD k dD) s:=by
 constructor
 ·rintro ⟨i,hi,h⟩
  by_cases e:i=k
  ·subst e;exact .inr h
  ·exact .inl ⟨i,by omega,h⟩
 ·rintro (⟨i,hi,h⟩|h)
  ·exact ⟨i,by omega,h⟩
  ·exact ⟨k,by omega,h⟩
theorem WfT1.names {ok p:ByteArray->Prop}:∀ {d:Nat} {t:Tm},WfT1 ok d t->(∀ s,fr d t s->p s)->WfT1 (fun s=>ok s/\p s) d t
 | d+1,t,⟨h1,h2,h3,h4,h5,h6,h7,h8,h9⟩,h=>⟨h1,h2,h3,fun e=>⟨h4 e,h _ (.inl ⟨e,rfl⟩)⟩,h5,h6,h7,h8,fun i hi=>WfT1.names (h9 i hi) (fun s a=>h s (.inr ⟨i,hi,a⟩))⟩
theorem p6 {ok:ByteArray->Prop}:∀ {d:Nat} {t:Tm} {s:ByteArray},WfT1 ok d t->fr d t s->ok s
 | d+1,t,s,w,.inl ⟨h1,h2⟩=>by rw[h2];exact w.2.2.2.1 h1
 | d+1,t,s,w,.inr ⟨i,hi,h⟩=>p6 (w.2.2.2.2.2.2.2.2 i hi) h
theorem WfT1.imp {ok p:ByteArray->Prop}(f:∀ s,ok s->p s):∀ {d:Nat} {t:Tm},WfT1 ok d t->WfT1 p d t
 | d+1,t,⟨h1,h2,h3,h4,h5,h6,h7,h8,h9⟩=>⟨h1,h2,h3,fun e=>f _ (h4 e),h5,h6,h7,h8,fun i hi=>WfT1.imp f (h9 i hi)⟩
theorem WfT1.two {ok:ByteArray->Prop}{d:Nat}{t:Tm}(h:WfT1 ok (d+1) t):t.ks.length<=2:=by
 have:=h.1;have:=aN t.op
 omega
theorem se {f:Nat->Nat}{b:Nat}:∀ n,(∀ i,i<n->f i<=b)->eh f n<=n*b
  | 0,_=>by simp[eh]
  | n+1,h=>by
    have h1:=se n (fun i hi=>h i oM);have a:=h n (JD n)
    show eh f n+f n<=_
    rw[yB];omega
theorem t7 {ok:ByteArray->Prop}:∀ {d:Nat} {t:Tm},WfT1 ok d t->iO d t+1<=2^d
  | d+1,t,w=>by
    have a:=w.two;have e:=se (f:=fun i=>iO d (t.ks.getD i dD)) (b:=2^d-1) t.ks.length (fun i hi=>by have:=t7 (w.2.2.2.2.2.2.2.2 i hi);show iO d _<=_;omega);have c:0<2^d:=Aw d;have h:t.ks.length*(2^d-1)<=2*(2^d-1):=yI _ a
    show 1+eh _ _+1<=2^(d+1)
    rw[z1];omega
structure RecOk (nm:Int->ByteArray) (inp:Int) (d:Nat) (l:List Stp) (l2:List Stp) (n:Nat) (t:Tm):Prop where
  lq:(∀ i,LQ 1 (l.getD i d6).q)->∀ i,LQ 1 (l2.getD i d6).q
  dps:∀ dp,DpS dp l->∃ dp',DpS dp' l2/\(∀ k,k<l.length->dp' k=dp k)/\dp' (l2.length-1)<=d
  pre:∃ m,l2=l++m
  len:l2.length=l.length+n
  pos:0<n
  fm:∀ k,k<l2.length->nq inp k (l2.getD k d6)
  tr:∀ f,l2.length<=f->EJ nm l2 f (l2.length-1)=t
structure AllOk (nm:Int->ByteArray) (inp:Int) (d:Nat) (ts:List Tm) (k:Nat) (l:List Stp) (os:List Int) (c:Nat):Prop where
  len:l.length=c
  fm:∀ k,k<l.length->nq inp k (l.getD k d6)
  lq:∀ i,LQ 1 (l.getD i d6).q
  dps:∃ dp,DpS dp l
  out:∀ j,j<k->0<=os.getD j 0/\os.getD j 0<(l.length:Nat)/\EJ nm l (l.length+1) (os.getD j 0).toNat=ts.getD j dD
def wO (s:ByteArray):Prop:=s=⟨#[120]⟩\/s=⟨#[121]⟩\/s=⟨#[122]⟩
theorem Eh:∀ {k:Nat},k<3->wO (en.getD k ⟨#[]⟩)
 | 0,_=>.inl rfl
 | 1,_=>.inr (.inl rfl)
 | 2,_=>.inr (.inr rfl)
def Hh:Nat->Tm->Prop
  | 0,_=>True
  | d+1,t=>-11<=t.n/\∀ i,i<t.ks.length->Hh d (t.ks.getD i dD)
def GrT (d:Nat)(t:Tm):Prop:=WfT1 wO d t/\3*bD d t<=3^d/\Hh d t
theorem GrT.num {d:Nat}{q:Rat}(h:LQ 1 q):GrT (d+1) (.mk 1 0 q ⟨#[]⟩ []) :=
 ⟨⟨rfl,fun h=>absurd rfl h,h,fun h=>absurd (show (1:Int)=2 from h) kD,fun _=>rfl,fun _=>rfl,by show (-12:Int)<=0;decide,by show (0:Int)<=12;decide,fun i hi=>absurd hi (Jl i)⟩,by
  have:=Aw d;have:0<3^d:=Nat.pow_pos kD
  show 3*1<=3^(d+1)
  rw[z1];omega,by show (-11:Int)<=0;decide,fun i hi=>absurd hi (Jl i)⟩
theorem GrT.name {d:Nat}{s:ByteArray}(h:wO s):GrT (d+1) (.mk 2 0 0 s []) :=
 ⟨⟨rfl,fun _=>rfl,jf kD,fun _=>h,fun h=>absurd rfl h,fun _=>rfl,by show (-12:Int)<=0;decide,by show (0:Int)<=12;decide,fun i hi=>absurd hi (Jl i)⟩,by
  have:0<3^d:=Nat.pow_pos kD
  show 3*1<=3^(d+1)
  rw[z1];omega,by show (-11:Int)<=0;decide,fun i hi=>absurd hi (Jl i)⟩
theorem GrT.one {d:Nat}{op n:Int}{t:Tm}(x:GrT d t)(ha:fF op=1)(a:op≠8->n=0)(h1 : -3<=n)(b:n<=3):GrT (d+1) (.mk op n 0 ⟨#[]⟩ [t]):=by
 refine ⟨⟨ha,fun _=>rfl,jf kD,fun h=>?_,fun _=>rfl,a,by show (-12:Int)<=n;omega,by show n<=12;omega,fun i hi=>?_⟩,?_,by show -11<=n;omega,fun i hi=>by
  have:i=0:=by have:i<1:=hi;omega
  subst this;exact x.2.2⟩
 ·have h:op=2:=h
  rw[h] at ha;exact absurd ha kD
 ·have:i=0:=by have:i<1:=hi;omega
  subst this;exact x.1
 ·show 3*((if op=11 then 2 else if op=8 then aZ n else 1)*(0+bD d t))<=3^(d+1)
  have hf:(if op=11 then 2 else if op=8 then aZ n else 1)<=3:=by
   unfold aZ
   repeat' split
   all_goals omega
  have:=H9 hf x.2.1;rw[z1,yH,Js,z2 (3^d)];exact this
theorem GrT.two {d:Nat}{op:Int}{t u:Tm}(x:GrT d t)(y:GrT d u)(ha:fF op=2):GrT (d+1) (.mk op 0 0 ⟨#[]⟩ [t,u]):=by
 have b:op≠8:=fun h=>by rw[h] at ha;exact absurd ha kD
 have a:op≠11:=fun h=>by rw[h] at ha;exact absurd ha kD
 refine ⟨⟨ha,fun _=>rfl,jf kD,fun h=>?_,fun _=>rfl,fun _=>rfl,by show (-12:Int)<=0;decide,by show (0:Int)<=12;decide,fun i hi=>?_⟩,?_,by show (-11:Int)<=0;decide,fun i hi=>by
  have:i=0\/i=1:=by have:i<2:=hi;omega
  rcases this with rfl|rfl
  ·exact x.2.2
  ·exact y.2.2⟩
 ·have h:op=2:=h
  rw[h] at ha;exact absurd ha kD
 ·have:i=0\/i=1:=by have:i<2:=hi;omega
  rcases this with rfl|rfl
  ·exact x.1
  ·exact y.1
 ·show 3*((if op=11 then 2 else if op=8 then aZ 0 else 1)*(0+bD d t+bD d u))<=3^(d+1)
  rw[if_neg a,if_neg b,z1];have:=x.2.1;have:=y.2.1
  omega
section
variable {d:Nat}{h:Hp}
theorem p5:RZ h (false,.slice none 0 0,.slice none 0 0) 0:=⟨false,⟨none,0,none,0,rfl,ey _,ey _,SlO.nil,SlO.nil⟩,fun _=>rfl⟩
theorem Do {b:Bool}{c e:Z9}{l f a j:Nat}{q:Rat}(hz:RZ h (b,.slice c l f,.slice e a j) q):RmH (d+1) h ⟨1,0,b,c,l,f,e,a,j,⟨#[]⟩,none,0,0⟩ (.mk 1 0 q ⟨#[]⟩ []) :=
 ⟨rfl,rfl,hz,rfl,rfl,ey _,[],rfl,SlO.nil,fun i hi=>absurd hi (Jl i)⟩
theorem AJ {s:ByteArray}:RmH (d+1) h ⟨2,0,false,none,0,0,none,0,0,s,none,0,0⟩ (.mk 2 0 0 s []) :=
 ⟨rfl,rfl,p5,rfl,rfl,ey _,[],rfl,SlO.nil,fun i hi=>absurd hi (Jl i)⟩
theorem vo {op n:Int}{p:RTm}{t:Tm}{b:Nat}(x:RmH d h p t)(a:SlO 7 dq gH h (some ⟨b,0,none⟩) [p]):RmH (d+1) h ⟨op,n,false,none,0,0,none,0,0,⟨#[]⟩,some ⟨b,0,none⟩,1,1⟩ (.mk op n 0 ⟨#[]⟩ [t]) :=
 ⟨rfl,rfl,p5,rfl,rfl,ey _,[p],rfl,a,fun i hi=>by
  have:i=0:=by have:i<1:=hi;omega
  subst this;exact x⟩
theorem DV {op:Int}{p q:RTm}{t u:Tm}{b:Nat}(x:RmH d h p t)(y:RmH d h q u)(a:SlO 7 dq gH h (some ⟨b,0,none⟩) [p,q]):RmH (d+1) h ⟨op,0,false,none,0,0,none,0,0,⟨#[]⟩,some ⟨b,0,none⟩,2,2⟩ (.mk op 0 0 ⟨#[]⟩ [t,u]) :=
 ⟨rfl,rfl,p5,rfl,rfl,ey _,[p,q],rfl,a,fun i hi=>by
  have:i=0\/i=1:=by have:i<2:=hi;omega
  rcases this with rfl|rfl
  ·exact x
  ·exact y⟩
end
def je (s:ByteArray):Prop:=s.size<=1000
theorem Bq {s:ByteArray}(h:wO s):je s:=by
 rcases h with rfl|rfl|rfl<;>(unfold je;decide)
theorem FF:je ⟨#[]⟩:=by unfold je;decide
theorem xl {d:Nat}{t:Tm}(w:WfT1 wO d t):SmT1 je d t:=w.sm (sm:=je) (fun _ h=>Bq h) FF
instance (s:ByteArray) (ns:List ByteArray):Decidable (s∈ns):=@List.instDecidableMemOfLawfulBEq ByteArray instBEqOfDecidableEq inferInstance s ns
def az:List ByteArray->ByteArray->Nat
  | [],_=>0
  | x::l,s=>if x=s then 0 else az l s+1
theorem su:∀ {l:List ByteArray} {s:ByteArray} {j:Nat},(∀ i,i<j->¬l.getD i ⟨#[]⟩=s)->j<l.length->l.getD j ⟨#[]⟩=s->az l s=j
  | [],_,_,_,hj,_=>absurd hj (Jl _)
  | x::l,s,0,_,_,h=>if_pos h
  | x::l,s,j+1,h,hj,e=>by
    have h0:¬x=s:=h 0 (Iq _);have:=su (l:=l) (s:=s) (j:=j) (fun i hi=>h (i+1) (JX hi)) (Nat.lt_of_succ_lt_succ hj) e
    show (if x=s then 0 else az l s+1)=j+1
    rw[if_neg h0,this]
theorem sf:∀ {l:List ByteArray} {s:ByteArray},s∈l->az l s<l.length/\l.getD (az l s) ⟨#[]⟩=s
  | [],_,h=>absurd h List.not_mem_nil
  | x :: l,s,h=>by
    unfold az
    by_cases e:x=s
    . rw[if_pos e];exact ⟨Iq _,e⟩
    . rw[if_neg e]
      rcases g4.1 h with h1|h1
      . exact absurd h1.symm e
      . have:=sf h1
        exact ⟨JX this.1,this.2⟩
def Gm (ns:List ByteArray)(s:ByteArray):Int:=if s∈ns then (az ns s:Nat) else 0
theorem qR {a:List ByteArray}{s:ByteArray}(h:s∈a):Gm a s=(az a s:Nat):=if_pos h
def pQ:List ByteArray->Nat->List MapEntry
  | [],_=>[]
  | x::l,i=>⟨.string x,.int .i64 (i:Nat),i⟩::pQ l (i+1)
theorem m9:∀ {l:List ByteArray} {i j:Nat} {e:MapEntry},(pQ l i)[j]?=some e->∃ x,l[j]?=some x/\e=⟨.string x,.int .i64 ((i+j:Nat):Int),i+j⟩
  | [],_,_,_,h=>by cases h
  | x::l,i,0,e,h=>by injection h with h;exact ⟨x,rfl,h.symm⟩
  | x::l,i,j+1,e,h=>by
    obtain ⟨y,h1,a⟩:=m9 (l:=l) (i:=i+1) (j:=j) h;exact ⟨y,h1,by rw[a,show i+1+j=i+(j+1) by omega]⟩
theorem rL:∀ {l:List ByteArray} {i j:Nat} {x:ByteArray},l[j]?=some x->(pQ l i)[j]?=some ⟨.string x,.int .i64 ((i+j:Nat):Int),i+j⟩
  | [],_,_,_,h=>by cases h
  | y::l,i,0,x,h=>by injection h with h;subst h;rfl
  | y::l,i,j+1,x,h=>by
    have:=rL (l:=l) (i:=i+1) (j:=j) (x:=x) h;rw[show i+1+j=i+(j+1) by omega] at this
    exact this
theorem Bo {b:List ByteArray}(c:b.Nodup){j:Nat}{s:ByteArray}(h:b[j]?=some s):az b s=j:=by
 obtain ⟨d,e⟩:=Ih.1 h;refine su (fun i hi a=>?_) d (by rw[D0,h];rfl);rw[D0,JY oM] at a
 have a:b[i]'oM=s:=a;exact absurd ((List.getElem_inj c).1 (a.trans e.symm)) oM
theorem Cd {f:List ByteArray}(z:f.Nodup)(s:ByteArray):(∃ i,Instr.findNow .string (.string s) (pQ f 0) 0=some (some (i,.int .i64 (Gm f s)))/\decide (s∈f)=true)\/(Instr.findNow .string (.string s) (pQ f 0) 0=some none/\decide (s∈f)=false/\Gm f s=0):=by
 rcases MapKept.findNow_spec (d:=.string) (k:=.string s) (by simp[MapKept.IsKey]) (pQ f 0) 0 (fun x u=>by
  obtain ⟨j,o⟩:=JZ.1 u;obtain ⟨y,_,rfl⟩:=m9 o
  simp[MapKept.IsKey]) with ⟨a,b⟩|⟨j,e,a,b,c⟩
 ·have l:s ∉ f:=fun h=>by
   obtain ⟨j,o⟩:=JZ.1 h;exact b _ (JZ.2 ⟨j,rL o⟩) rfl
  exact .inr ⟨a,decide_eq_false l,if_neg l⟩
 ·obtain ⟨y,p,rfl⟩:=m9 b
  injection c with c
  subst c;have l:y∈f:=JZ.2 ⟨j,p⟩;refine .inl ⟨0+j,?_,decide_eq_true l⟩;rw[a,qR l,Bo z p,yH]
structure LaidO (pl:ByteArray->Int) (d:Nat) (h:Hp) (rl:List RSt) (ss:List OSt) (l:List Stp):Prop where
  rs:RSs h rl ss
  mp:ss.map OSt.stp=l
  sm:Hd ss
structure Dif (M:List Nat) (w w0:World):Prop where
  mo:Mo M w w0
  sz:w0.heap.size=w.heap.size
def fB (ss:List ByteArray):List MapEntry:=ss.zipIdx.map fun p=>⟨.string p.1,.bool true,p.2⟩
theorem uw (a:List ByteArray)(s:ByteArray):fB (a++[s])=fB a++[⟨.string s,.bool true,a.length⟩]:=by
 unfold fB;rw[List.zipIdx_append,List.map_append];simp
theorem pM {a:List ByteArray}{j:Nat}{e:MapEntry}(h:(fB a)[j]?=some e):∃ s,a[j]?=some s/\e=⟨.string s,.bool true,j⟩:=by
 unfold fB at h
 rw[HU,J0] at h
 cases b:a[j]? with
 | none=>rw[b] at h;simp at h
 | some s=>rw[b] at h;simp at h;exact ⟨s,rfl,h.symm⟩
theorem mQ {a:List ByteArray}{e:MapEntry}(h:e∈fB a):∃ j s,a[j]?=some s/\e=⟨.string s,.bool true,j⟩:=by
 obtain ⟨j,b⟩:=JZ.1 h;obtain ⟨s,h1,c⟩:=pM b;exact ⟨j,s,h1,c⟩
theorem BP {a:List ByteArray}{s:ByteArray}(h:s∈a):∃ e∈fB a,e.key=.string s:=by
 obtain ⟨j,b⟩:=JZ.1 h;refine ⟨⟨.string s,.bool true,j⟩,?_,rfl⟩
 unfold fB
 refine g2.2 ⟨(s,j),?_,rfl⟩;rw[JZ];exact ⟨j,by rw[J0,b];simp⟩
theorem uF (a:List ByteArray)(s:ByteArray):(Instr.findNow .string (.string s) (fB a) 0=some none/\s ∉ a)\/∃ j,Instr.findNow .string (.string s) (fB a) 0=some (some (j,.bool true))/\a[j]?=some s:=by
 rcases MapKept.findNow_spec (d:=.string) (k:=.string s) (by simp[MapKept.IsKey]) (fB a) 0 (fun x b=>by obtain ⟨_,_,_,rfl⟩:=mQ b;simp[MapKept.IsKey]) with ⟨h1,h2⟩|⟨j,e,h1,h2,h3⟩
 ·refine .inl ⟨h1,fun h=>?_⟩
  obtain ⟨e,f,hk⟩:=BP h;exact h2 e f hk
 ·obtain ⟨i,c,rfl⟩:=pM h2
  injection h3 with h3
  subst h3;exact .inr ⟨j,by rw[h1,yH],c⟩
structure MapK (w:World) (h:Hp) (b:Nat) (ss:List ByteArray):Prop where
  jk:h[b]?=some aY
  ob:w.heap[b]?=some (.map (fB ss).toArray ss.length)
  nd:ss.Nodup
section laws
variable {P:Program}{n:Nat}{N R:Po}{X:Nat->Po}{ops:Array Oper}{k:Nat}{Γ:bW}{w:World}{h:Hp}{w1:World}{h1:Hp}{B:List Bx}{Rs:List Rw}{F:List (Hp->Prop)}
theorem SS.atK (s:SS w1 h1 w h B Rs F){b:Nat}{a:List ByteArray}(m:MapK w1 h1 b a):w.heap[b]?=some (.map (fB a).toArray a.length) :=
 (s.st.up.ext.block b (by rw[s.g0.size];exact aF m.jk)).trans m.ob
theorem mX {b:Nat}{o:Obj}(a:G { w1 with heap:=w1.heap.setIfInBounds b o } h1):UpM [b] w1 h1 { w1 with heap:=w1.heap.setIfInBounds b o } h1 :=
 ⟨⟨rfl,rfl,rfl,by show _<=(w1.heap.setIfInBounds b o).size;rw[JV];exact ey _,fun c _ d=>by
  show (w1.heap.setIfInBounds b o)[c]?=_
  rw[i3 (fun e=>d (vl.2 e.symm))]⟩,Gr.refl _,a⟩
theorem GQ {mty kt et:TypeId}{b:Nat}{d:List ByteArray}(ky:ByteArray)(s:SS w1 h1 w h B Rs F)(m:MapK w1 h1 b d)
    (H:∀ w1' w' ss2,SS w1' h1 w' h B Rs F->MapK w1' h1 b ss2->(∀ x,x∈ss2↔x∈d\/x=ky)->ss2.length<=d.length+1->UpM [b] w1 h1 w1' h1->LG P n N R X ops (k+1) Γ w')
    (l:cS ops Γ k=true:=by kernel_rfl)(D:execOp (ev Γ) (ao ops k)=(do Instr.mapUpdate mty (.map (some b)) (.string ky) (.bool true);pure .skip):=by kernel_rfl)(z:P.underlying mty=some (.map kt et):=by kernel_rfl)(hk:P.underlying kt=some .string:=by kernel_rfl):LG P n N R X ops k Γ w:=by
  have C:=s.atK m;have f:b<w1.heap.size:=(hP.1 m.ob).1
  rcases uF d ky with ⟨hf,hn⟩|⟨j,hf,hj⟩
  . have hr:=qO w (val:=.bool true) z hk C hf
    obtain ⟨y,u⟩:=s.base (o:=.map ((fB d).toArray.push ⟨.string ky,.bool true,d.length⟩) (d.length+1)) m.jk f;refine LG.store _ (g5 l).1 (g5 l).2 ?_ (H _ _ (d++[ky]) y ⟨m.jk,?_,?_⟩ (fun x=>by simp) (by simp) (mX u))
    . rw[D];simp[hr,Result.andThen]
    . show (w1.heap.setIfInBounds b _)[b]?=_
      rw[yV f,uw];simp
    . exact List.nodup_append.2 ⟨m.nd,by simp,fun a ha c l e=>hn (by rw[vl] at l;rw[<-l,<-e];exact ha)⟩
  . have J:j<d.length:=(Ih.1 hj).1
    have p:(fB d)[j]?=some ⟨.string ky,.bool true,j⟩:=by
      unfold fB;rw[HU,J0,hj];simp
    have hr:=ny w (val:=.bool true) z hk C hf (by simp[p])
    have I:((fB d).toArray.modify j fun e=>{ e with key:=.string ky,val:=.bool true })=(fB d).toArray:=by
      apply Array.ext_getElem?
      intro i;rw[Array.getElem?_modify]
      by_cases e:j=i
      . subst e
        rw[if_pos rfl]
        simp[p]
      . rw[if_neg e]
    rw[I] at hr
    obtain ⟨y,u⟩:=s.base (o:=.map (fB d).toArray d.length) m.jk f;refine LG.store _ (g5 l).1 (g5 l).2 ?_ (H _ _ d y ⟨m.jk,?_,m.nd⟩ (fun x=>⟨.inl,fun h=>h.elim id fun e=>by rw[e];exact JZ.2 ⟨j,hj⟩⟩) (Nat.le_succ _) (mX u))
    . rw[D];simp[hr,Result.andThen]
    . show (w1.heap.setIfInBounds b _)[b]?=_
      rw[yV f]
theorem SS.baseK (s:SS w1 h1 w h B Rs F){b:Nat}{M a:List ByteArray}(m:MapK w1 h1 b M){w':World}{H:Hp}(u:UpM [b] w h w' H)(K:w'.heap[b]?=some (.map (fB a).toArray a.length))(L:a.Nodup):∃ i,SS i h1 w' H B Rs F/\MapK i h1 b a/\UpM [b] w1 h1 i h1:=by
 have p:b<w1.heap.size:=(hP.1 m.ob).1;have I:=aF m.jk;obtain ⟨Q,C⟩:=s.base (o:=.map (fB a).toArray a.length) m.jk p;have y:({ w1 with heap:=w1.heap.setIfInBounds b (.map (fB a).toArray a.length) }:World).heap.size=w1.heap.size:=by simp
 have j:∀ c,c<w.heap.size->c≠b->w'.heap[c]?=w.heap[c]?:=fun c d O=>u.mo.blk c d (fun J=>O (vl.1 J))
 have e:=s.st.up.ext;have z:∀ x∈B,x.b≠b:=fun x l e=>by have:=s.st.lo x l;omega
 refine ⟨_,⟨C,⟨⟨⟨u.mo.os.trans e.os,u.mo.tape.trans e.tape,u.mo.output.trans e.output,by rw[y];exact e4 e.size u.mo.size,fun c d=>?_⟩,s.st.up.gr.trans u.gr,u.g⟩,fun x l=>?_,fun x l=>?_,s.st.lo,s.st.nd⟩,fun r hr=>⟨dX (s.ro r hr).own (fun c d=>?_),fun c d=>(u.gr.blk c ((s.ro r hr).lt d)).trans ((s.ro r hr).jk c d),(s.ro r hr).ap⟩,s.ap,s.mo,s.f.gw s.mo u.gr.gw⟩,⟨m.jk,by show (w1.heap.setIfInBounds b _)[b]?=_;rw[yV p],L⟩,mX C⟩
 ·rw[y] at d
  by_cases q:c=b
  ·subst q
   rw[K]
   show _=(w1.heap.setIfInBounds c _)[c]?
   rw[yV p]
  ·rw[j c (Nat.lt_of_lt_of_le d e.size) q]
   show _=(w1.heap.setIfInBounds b _)[c]?
   rw[i3 (Ne.symm q)];exact e.block c d
 ·have D:=s.st.own x l
  exact (j x.b D.lt (z x l)).trans D
 ·rw[u.gr.blk _ (aF (s.st.jk x l))];exact s.st.jk x l
 ·refine j c (jC (s.ro r hr).own d) (fun e=>?_)
  subst e;have q:=(s.ro r hr).own
  rcases q with ⟨_,e2|⟨g,cap,cur,hv,hb',_⟩⟩
  ·rw[e2.1] at d;simp[Value.ownBlock] at d
  ·rw[hv] at d;simp[Value.ownBlock] at d;omega
end laws
theorem uu  (ok:ByteArray->Prop)(d:Nat)(ih:∀ (p:PTm) (t:Tm) (b:Nat) (z:List ByteArray) (w:World) (h:Hp),G w h->TmH d h p t->WfT1 ok d t->MapK w h b z->Calls Tryz.prog 93 #[bu p,.map (some b)] w (dN b w h (fun v w1 _=>v=.tuple #[]/\∃ l:List ByteArray,w1.heap[b]?=some (.map (fB l).toArray l.length)/\l.Nodup/\(∀ x,x∈l↔x∈z\/fr d t x)/\l.length<=z.length+iO d t)))(op n:Int)(q:Rat)(s:ByteArray)(A:Z9)(c:Nat)(ps:List PTm)(ks:List Tm)(hc:ps.length<=c)(hlp:ps.length<=2)(bf:fF op=(ks.length:Nat))(hq0:op≠1->q=0)(hq:LQ 1 q)(hok:op=2->ok s)(hs0:op≠2->s=⟨#[]⟩)(hn0:op≠8->n=0)(hn1 : -12<=n)(hn2:n<=12)(hW:∀ i,i<ks.length->WfT1 ok d (ks.getD i dD))(b:Nat)(z:List ByteArray)(w:World)(h:Hp)(g:G w h)(hK:SlO 9 bH bI h A ps)(Y:Tms d h ps ks)(e:MapK w h b z):Calls Tryz.prog 93 #[bu ⟨op,n,q,s,A,ps.length,c⟩,.map (some b)] w (dN b w h (fun v w1 _=>v=.tuple #[]/\∃ l:List ByteArray,w1.heap[b]?=some (.map (fB l).toArray l.length)/\l.Nodup/\(∀ x,x∈l↔x∈z\/fr (d+1) (.mk op n q s ks) x)/\l.length<=z.length+iO (d+1) (.mk op n q s ks))):=by
 have u:UpM [b] w h w h:=UpM.refl g;have a:SS w h w h [] [] []:=sS g;replace a:=((a.aS hK).add (K:=fun j=>Tms d j ps ks) Y);have hln:=(a.f.1).len;refine go Tryz.func93 [(0,bu ⟨op,n,q,s,A,ps.length,c⟩),(1,.map (some b))] rfl (aD (lA 2 32 (bH ⟨op,n,q,s,A,ps.length,c⟩) a (fun F w2 h3 a=>?_)));refine lN (CG.join (fun Γ Z=>∃ (y:World)(C:List ByteArray)(j:Hp),Γ=[(1,.map (some b)),(2,pB F)]/\SS y h Z j [⟨F,32,bH ⟨op,n,q,s,A,ps.length,c⟩⟩] [] [fun j=>Tms d j ps ks,fun j=>SlO 9 bH bI j A ps]/\MapK y h b C/\UpM [b] w h y h/\(∀ x,x∈C↔x∈z\/(op=2/\x=s))/\C.length<=z.length+1) ?_ ?_)
 .
  refine ab a [.v (pB F),.o (iV op) 0 0 1] ?_;cases B:((op:Int) == (2:Int))
  .
   have U:=aq B;refine lB 8 B (am (CG.skip ?_));intro a_ I;exact ⟨_,⟨w,z,h3,rfl,a.to _ _,e,u,(fun x=>⟨fun j=>.inl j,fun j=>j.elim id (fun V=>absurd V.1 oM)⟩),oM⟩,I.to _ kR⟩
  have U:=eq_of_beq B;refine lB 8 B (ar (kQ (lL a [.c,.v (qP F 7),.o (.string s) 0 7 1] (GQ (mty:=163) (kt:=9) (et:=4) (s) a e (fun w9 _ J a e D S L=>?_)))));replace u:=u.trans L
  clear L
  refine lD ?_;intro a_ I;exact ⟨_,⟨w9,J,h3,rfl,a.to _ _,e,u,(fun x=>(D x).trans ⟨fun j=>j.imp id fun V=>⟨by omega,V⟩,fun j=>j.imp id fun V=>V.2⟩),oM⟩,I.to _ kR⟩
 rintro _ _ ⟨y,C,zc,rfl,a,e,u,hs1,hl1⟩;refine ab a [.v (qP F 8),.o (qS A ps.length c) 0 8 1,.v (nV ps.length),.c] (a7 ?_);refine bY _ (CG.loop (fun μ_ Γ Z=>∃ (y:World)(k:Nat)(sk:List ByteArray)(j:Hp),μ_=ps.length-k/\Γ=[(1,.map (some b)),(13,qS A ps.length c),(14,nV ps.length),(15,nV k)]/\SS y h Z j [⟨F,32,bH ⟨op,n,q,s,A,ps.length,c⟩⟩] [] [fun j=>Tms d j ps ks,fun j=>SlO 9 bH bI j A ps]/\MapK y h b sk/\UpM [b] w h y h/\k<=ps.length/\(∀ x,x∈sk↔x∈C\/HasK d ks k x)/\sk.length<=C.length+(eh (fun i=>iO d (ks.getD i dD)) k)) _ ⟨y,0,C,zc,rfl,rfl,a.to _ _,e,u,In _,(fun x=>⟨.inl,fun j=>j.elim id (fun j=>absurd j HasK.zero)⟩),nR _⟩ ?_);rintro _ _ _ ⟨y,k,sk,_,bd,rfl,a,e,u,hk,W,bb⟩;have bk:(eh (fun i=>iO d (ks.getD i dD)) (k+1))=(eh (fun i=>iO d (ks.getD i dD)) k)+iO d (ks.getD k dD):=rfl;refine aD ?_;cases X:(decide ((k:Int)<(ps.length:Int)))
 .
  have zb:=oF X;refine lB 16 X (ag (cD (CG.exit ?_)));have Q:k=ks.length:=by omega
  have hcn:iO (d+1) (.mk op n q s ks)=1+(eh (fun i=>iO d (ks.getD i dD)) ks.length):=rfl;exact a.retM (u.trans (a.st.up.m _)) [] (.tuple #[]) ⟨rfl,sk,a.atK e,e.nd,fun x=>by rw[W x,hs1 x,Q,or_assoc];exact Iff.rfl,by rw[hcn,<-Q];omega⟩
 have zb:=oT X;refine lB 16 X (ag (bZ (cK (cQ (kZ (aD (lX 17 A ps.length c 9 (k:Nat) k ((a.f.2.1).ok oM) ?_)))))));refine lH 18 (bu (ps.getD k bI)) a ((a.f.2.1).el k oM) (lA 5 32 ea a (fun b22 _ _ a=>lP 0 0 (bH (ps.getD k bI)) a (fun _ a=>lN (kQ (lL a [.o (bu (ps.getD k bI)) 0 0 9,.c] (fq 21 (ih (ps.getD k bI) (ks.getD k dD) b sk _ _ a.g ((a.f.1).at_ k oM) (hW k oM) ⟨(a.st.up.gr.blk _ (aF e.jk)).trans e.jk,a.atK e,e.nd⟩) ?_))))));rintro _ _ zd u28 ⟨rfl,M,O,H,D,S⟩;obtain ⟨ze,a,e,L⟩:=a.baseK e u28 O H;replace u:=u.trans L
 clear L O H
 refine lN (kQ (bB 22 ((k:Nat)+1) (k+1) ?_));refine lL a ae (lD ?_);intro a_ I;replace a:=a.drop 1 0;refine ⟨_,_,?_,⟨ze,k+1,M,zd,rfl,rfl,a.to _ _,e,u,oM,(fun x=>(D x).trans (by rw[W x,or_assoc,<-HasK.succ])),oM⟩,I.to _ kR⟩
 omega
theorem qN (ok:ByteArray->Prop):∀ (d:Nat) (p:PTm) (t:Tm) (b:Nat) (e:List ByteArray) (w:World) (h:Hp),G w h->TmH d h p t->WfT1 ok d t->MapK w h b e->Calls Tryz.prog 93 #[bu p,.map (some b)] w (dN b w h (fun v w1 _=>v=.tuple #[]/\∃ a:List ByteArray,w1.heap[b]?=some (.map (fB a).toArray a.length)/\a.Nodup/\(∀ x,x∈a↔x∈e\/fr d t x)/\a.length<=e.length+iO d t))
  | 0,_,_,_,_,_,_,_,x,_,_=>x.elim
  | d+1,p,t,b,e,w,h,g,x,wf,hmk=>by
    obtain ⟨op,n,q,s,A,c,ps,ks,rfl,rfl,B,l,f⟩:=x.open;have i:=wf.two;obtain ⟨w1,w2,w3,C,o,j,y,u,z⟩:=wf;exact uu ok d (fun p t b e w h=>qN ok d p t b e w h) op n q s A c ps ks B (by have:=f.len;exact this▸i) w1 w2 w3 C o j y u z b e w h g l f hmk
section srt
open Go.RowKit Go.Maps Go.Sort Go.Shelf Go.WideShapes
def Tryz.keysZ_ren:Go.Shelf.Ren:=⟨fun|7=>95|10=>130|n=>n,fun|23=>163|26=>9|3=>4|28=>167|0=>0|27=>166|33=>106|4=>4|n=>n,fun|n=>n⟩
theorem Tryz.keysZ:Go.Proofs.SlLaysZ.n7 Tryz.prog Tryz.keysZ_ren:={
 mixed:=by kernel_rfl
 f7:=⟨Tryz.f95.name,by decide,Tryz.func95.trans (congrArg some kR)⟩
 f10:=⟨Tryz.f130.name,by decide,Tryz.func130.trans (congrArg some kR)⟩
 t0:=Tryz.underlying0
 a0:=Tryz.isAgg0
 z0:=Tryz.sizeOf0
 v0:=Tryz.zeroValue0
 t4:=Tryz.underlying4
 a4:=Tryz.isAgg4
 z4:=Tryz.sizeOf4
 v4:=Tryz.zeroValue4
 t23:=Tryz.underlying163
 a23:=Tryz.isAgg163
 z23:=Tryz.sizeOf163
 v23:=Tryz.zeroValue163
 t26:=Tryz.underlying9
 a26:=Tryz.isAgg9
 z26:=Tryz.sizeOf9
 v26:=Tryz.zeroValue9
 t27:=Tryz.underlying166
 a27:=Tryz.isAgg166
 z27:=Tryz.sizeOf166
 v27:=Tryz.zeroValue166
 t28:=Tryz.underlying167
 a28:=Tryz.isAgg167
 z28:=Tryz.sizeOf167
 v28:=Tryz.zeroValue167
 t33:=Tryz.underlying106
 a33:=Tryz.isAgg106
 z33:=Tryz.sizeOf106
 v33:=Tryz.zeroValue106 }
def Tryz.sortedZ_ren:Go.Shelf.Ren:=⟨fun|6=>94|8=>128|9=>129|11=>151|13=>153|12=>152|23=>169|24=>104|14=>160|15=>161|16=>162|17=>163|18=>164|19=>165|20=>166|21=>167|22=>168|25=>173|26=>174|27=>175|28=>176|29=>177|30=>178|31=>185|n=>n,fun|26=>9|28=>167|24=>44|0=>0|3=>3|37=>157|48=>156|50=>23|4=>4|40=>237|39=>236|45=>110|5=>5|9=>9|51=>246|55=>250|57=>255|58=>256|33=>106|n=>n,fun|n=>n⟩
theorem Tryz.sortedZ:Go.Proofs.SlLaysZ.n6 Tryz.prog Tryz.sortedZ_ren:={
 mixed:=by kernel_rfl
 f6:=⟨Tryz.f94.name,by decide,Tryz.func94.trans (congrArg some kR)⟩
 f8:=⟨Tryz.f128.name,by decide,Tryz.func128.trans (congrArg some kR)⟩
 f11:=⟨Tryz.f151.name,by decide,Tryz.func151.trans (congrArg some kR)⟩
 t0:=Tryz.underlying0
 a0:=Tryz.isAgg0
 z0:=Tryz.sizeOf0
 v0:=Tryz.zeroValue0
 t24:=Tryz.underlying44
 a24:=Tryz.isAgg44
 z24:=Tryz.sizeOf44
 v24:=Tryz.zeroValue44
 t26:=Tryz.underlying9
 a26:=Tryz.isAgg9
 z26:=Tryz.sizeOf9
 v26:=Tryz.zeroValue9
 t28:=Tryz.underlying167
 a28:=Tryz.isAgg167
 z28:=Tryz.sizeOf167
 v28:=Tryz.zeroValue167
 i26:=by kernel_rfl }
def Tryz.sortZ_ren:Go.Shelf.Ren:=⟨fun|6=>129|8=>153|9=>152|19=>169|20=>104|21=>160|22=>161|23=>162|24=>163|25=>164|26=>165|27=>166|28=>167|29=>168|36=>173|31=>174|32=>175|37=>176|38=>177|39=>178|41=>185|n=>n,fun|27=>44|29=>9|3=>3|32=>157|26=>44|0=>0|44=>156|46=>23|4=>4|36=>237|35=>236|41=>110|5=>5|9=>9|53=>246|57=>250|63=>255|64=>256|n=>n,fun|n=>n⟩
theorem Tryz.sortZ:Go.Proofs.SlLaysM.n6 Tryz.prog Tryz.sortZ_ren:={
 mixed:=by kernel_rfl
 f6:=⟨Tryz.f129.name,by decide,Tryz.func129.trans (congrArg some kR)⟩
 f8:=Tryz.func153.trans (congrArg some kR)
 f9:=⟨Tryz.f152.name,by decide,Tryz.func152.trans (congrArg some kR)⟩
 f19:=Tryz.func169.trans (congrArg some kR)
 f20:=Tryz.func104.trans (congrArg some kR)
 f21:=⟨Tryz.f160.name,by decide,Tryz.func160.trans (congrArg some kR)⟩
 f22:=⟨Tryz.f161.name,by decide,Tryz.func161.trans (congrArg some kR)⟩
 f23:=⟨Tryz.f162.name,by decide,Tryz.func162.trans (congrArg some kR)⟩
 f24:=⟨Tryz.f163.name,by decide,Tryz.func163.trans (congrArg some kR)⟩
 f25:=⟨Tryz.f164.name,by decide,Tryz.func164.trans (congrArg some kR)⟩
 f26:=⟨Tryz.f165.name,by decide,Tryz.func165.trans (congrArg some kR)⟩
 f27:=⟨Tryz.f166.name,by decide,Tryz.func166.trans (congrArg some kR)⟩
 f28:=⟨Tryz.f167.name,by decide,Tryz.func167.trans (congrArg some kR)⟩
 f29:=⟨Tryz.f168.name,by decide,Tryz.func168.trans (congrArg some kR)⟩
 f31:=Tryz.func174.trans (congrArg some kR)
 f32:=Tryz.func175.trans (congrArg some kR)
 f36:=⟨Tryz.f173.name,by decide,Tryz.func173.trans (congrArg some kR)⟩
 f37:=⟨Tryz.f176.name,by decide,Tryz.func176.trans (congrArg some kR)⟩
 f38:=⟨Tryz.f177.name,by decide,Tryz.func177.trans (congrArg some kR)⟩
 f39:=⟨Tryz.f178.name,by decide,Tryz.func178.trans (congrArg some kR)⟩
 f41:=⟨Tryz.f185.name,by decide,Tryz.func185.trans (congrArg some kR)⟩
 t0:=Tryz.underlying0
 a0:=Tryz.isAgg0
 z0:=Tryz.sizeOf0
 v0:=Tryz.zeroValue0
 t3:=Tryz.underlying3
 a3:=Tryz.isAgg3
 z3:=Tryz.sizeOf3
 v3:=Tryz.zeroValue3
 t4:=Tryz.underlying4
 a4:=Tryz.isAgg4
 z4:=Tryz.sizeOf4
 v4:=Tryz.zeroValue4
 t5:=Tryz.underlying5
 a5:=Tryz.isAgg5
 z5:=Tryz.sizeOf5
 v5:=Tryz.zeroValue5
 t9:=Tryz.underlying9
 a9:=Tryz.isAgg9
 z9:=Tryz.sizeOf9
 v9:=Tryz.zeroValue9
 t26:=Tryz.underlying44
 a26:=Tryz.isAgg44
 z26:=Tryz.sizeOf44
 v26:=Tryz.zeroValue44
 t27:=Tryz.underlying44
 a27:=Tryz.isAgg44
 z27:=Tryz.sizeOf44
 v27:=Tryz.zeroValue44
 t29:=Tryz.underlying9
 a29:=Tryz.isAgg9
 z29:=Tryz.sizeOf9
 v29:=Tryz.zeroValue9
 t32:=Tryz.underlying157
 a32:=Tryz.isAgg157
 z32:=Tryz.sizeOf157
 v32:=Tryz.zeroValue157
 t35:=Tryz.underlying236
 a35:=Tryz.isAgg236
 z35:=Tryz.sizeOf236
 v35:=Tryz.zeroValue236
 t36:=Tryz.underlying237
 a36:=Tryz.isAgg237
 z36:=Tryz.sizeOf237
 v36:=Tryz.zeroValue237
 t41:=Tryz.underlying110
 a41:=Tryz.isAgg110
 z41:=Tryz.sizeOf110
 v41:=Tryz.zeroValue110
 t44:=Tryz.underlying156
 a44:=Tryz.isAgg156
 z44:=Tryz.sizeOf156
 v44:=Tryz.zeroValue156
 t46:=Tryz.underlying23
 a46:=Tryz.isAgg23
 z46:=Tryz.sizeOf23
 v46:=Tryz.zeroValue23
 t53:=Tryz.underlying246
 a53:=Tryz.isAgg246
 z53:=Tryz.sizeOf246
 v53:=Tryz.zeroValue246
 t57:=Tryz.underlying250
 a57:=Tryz.isAgg250
 z57:=Tryz.sizeOf250
 v57:=Tryz.zeroValue250
 t63:=Tryz.underlying255
 a63:=Tryz.isAgg255
 z63:=Tryz.sizeOf255
 v63:=Tryz.zeroValue255
 t64:=Tryz.underlying256
 a64:=Tryz.isAgg256
 z64:=Tryz.sizeOf256
 v64:=Tryz.zeroValue256 }
theorem tA (m:Nat):AnyZ.SortsIn Tryz.prog Tryz.sortedZ_ren Fence.wide m :=
 ⟨fun d off a e W f b c=>callsIn_wide.2 (AnyM.slices_Sort_string Tryz.sortZ d off a e W f b c),fun p a W=>callsIn_wide.2 (AnyM.slices_Sort_string_none Tryz.sortZ p a W)⟩
theorem ui (a:Option Nat)(W:World):CallsIn Fence.wide 5 Tryz.prog 95 #[.map a] W fun e w'=>e=.returned (.func (.func 130) #[] #[.pointer (some ⟨W.heap.size,0,none⟩)])/\w'=W.alloc (.cells #[.map a] 163) :=
 AnyZ.keys_in Tryz.keysZ Fence.wide 5 trivial rfl a W
theorem pJ {H:Type}(b o:Nat)(d:DataW H)(R:Value->Option (DataW H × List MemPlace))(w:World)(c:w.ownsMap Tryz.prog 9 R b o d)(j:Maps.size d<=maxLen)(a:Maps.size d*16<=140737488355328) :
  CallsIn Fence.wide 5 Tryz.prog 94 #[.func (.func 130) #[] #[.pointer (some ⟨w.heap.size,0,none⟩)]] (w.alloc (.cells #[.map (some b)] 163)) fun e w'=>∃ (v:Value)(h:List (List UInt8)),e=.returned v/\h.Perm (strKeys d) /\
   w'.ownsRow (w.alloc (.cells #[.map (some b)] 163)).heap.size 9 1 v h.length ((h.mergeSort (fun x y=>decide (x<=y))).map encStr)/\(v=.slice none 0 0↔h=[])/\Below (w.alloc (.cells #[.map (some b)] 163)).heap.size (w.alloc (.cells #[.map (some b)] 163)) w':=by
 have l:=c.lt
 have i:SeqGives Fence.wide 2 Tryz.prog 130 #[.pointer (some ⟨w.heap.size,0,none⟩)] encStr (fun h=>h.Perm (strKeys d)) (Maps.size d) (w.alloc (.cells #[.map (some b)] 163)) :=
  AnyZ.keys_gives (ρ:=Tryz.keysZ_ren) { Tryz.keysZ with } Fence.wide _ trivial rfl oM w.heap.size b o d _ (by simp) (by simp) (by
   obtain ⟨p,f,B,C,u,z⟩:=c;exact ⟨p,f,(Below.heap_alloc _ _ b l).trans B,C,u,z⟩)
 exact AnyZ.sorted_in Tryz.sortedZ Fence.wide 5 trivial trivial trivial trivial rfl oM (tA _) (enters_of Tryz.func129 kR rfl) 130 #[.pointer (some ⟨w.heap.size,0,none⟩)] trivial (enters_of Tryz.func130 kR rfl) _ _ j a _ i
section
variable {P:Program}{k:TypeId}(hk:P.underlying k=some .string)
def RU (_:Value):Option (DataW Unit × List MemPlace):=some (.nil,[])
theorem wo (hk:P.underlying k=some .string){a:List ByteArray}(c:∀ s∈a,s.size<=maxLen){e:MapEntry}(d:e∈fB a):∃ s∈a,WideElems.rd P k RU e=some (.string s.data.toList,.nil)/\e.key=.string s:=by
 obtain ⟨j,s,f,rfl⟩:=mQ d;have b:s∈a:=JZ.2 ⟨j,f⟩;refine ⟨s,b,?_,rfl⟩
 have h1:keyOf P k (.string s)=some (.string s.data.toList):=by
  have:=c s b
  simp[keyOf,hk,mapKey,this]
 unfold WideElems.rd
 rw[h1];rfl
theorem oh {c:List ByteArray}(f:c.Nodup):MapKept.Stamped (fB c).toArray c.length:=by
 refine ⟨fun x d=>?_,?_,?_⟩
 ·obtain ⟨j,s,o,rfl⟩:=mQ (by simpa using d)
  exact (Ih.1 o).1
 ·have e:(fB c).map (·.born)=List.range c.length:=by
   apply J1
   ·simp[fB]
   ·intro i h1 l;simp[fB]
  show ((fB c).map (·.born)).Nodup
  rw[e];exact List.nodup_range
 ·have e:(fB c).map (·.key)=c.map Value.string:=by
   apply J1
   ·simp[fB]
   ·intro i h1 l;simp[fB]
  show ((fB c).map (·.key)).Nodup
  rw[e];exact List.Pairwise.map _ (fun a b h e=>h (Value.string.inj e)) f
theorem xz (hk:P.underlying k=some .string){w:World}{b:Nat}{a:List ByteArray}(o:w.heap[b]?=some (.map (fB a).toArray a.length))(z:a.Nodup)(e:∀ s∈a,s.size<=maxLen)(y:a.length<=1048576) :
  ∃ D:DataW Unit,w.ownsMap P k RU b a.length D/\(strKeys D).Perm (a.map fun s=>s.data.toList)/\Maps.size D<=1048576:=by
 have c:(fB a).length=a.length:=by simp[fB]
 refine ⟨.map (((fB a).map (WideElems.rg P k RU)).foldr DataW.insert []),⟨(fB a).toArray,a.length,o,⟨?_,oh z,fun x u=>?_⟩,?_,rfl⟩,?_,?_⟩
 ·show (fB a).toArray.size<=maxLen
  rw[J2,c];unfold maxLen;omega
 ·obtain ⟨s,_,h,_⟩:=wo (P:=P) hk e (by simpa using u)
  exact ⟨_,h⟩
 ·rw[J2,c];exact ey _
 ·show ((((fB a).map (WideElems.rg P k RU)).foldr DataW.insert []).map fun p=>strOf p.1).Perm _
  refine ((sorted_perm _).map _).trans (List.Perm.of_eq ?_);rw[List.map_map]
  apply J1
  ·simp[c]
  ·intro i h1 C
   have hi:i<(fB a).length:=by simpa using h1
   obtain ⟨s,j,hr,d⟩:=wo (P:=P) hk e (gs hi);obtain ⟨B,f,l⟩:=pM (JY hi);rw[yl,yl];rw[l] at d
   injection d with d
   subst d
   show strOf (((WideElems.rd P k RU (fB a)[i]).getD (.bool false,.nil)).1)=_
   rw[hr]
   show B.data.toList=_
   rw[JY oM] at f
   rw[Option.some.inj f]
 ·show Maps.size (.map _)<=_
  rw[Maps.size_eq,(sorted_perm _).length_eq,J3,c];exact y
end
theorem s8 {w w':World}{h:Hp}(g:G w h)(x:Ext w w'):∃ c,Up w h w' c/\∀ b,h.size<=b->c[b]?=w'.heap[b]?:=by
 have d:=x.size;have f:=g.size
 have key:∀ b,h.size<=b->(h++w'.heap.extract h.size w'.heap.size)[b]?=w'.heap[b]?:=fun b a=>by
  rw[Array.getElem?_append_right a,Array.getElem?_extract]
  by_cases hl:b<w'.heap.size
  ·rw[if_pos oM];congr 1;omega
  ·rw[if_neg oM,Array.getElem?_eq_none oM]
 refine ⟨h++w'.heap.extract h.size w'.heap.size,⟨x,⟨by simp,fun b a=>yb a⟩,⟨by simp;omega,fun b=>?_⟩⟩,key⟩
 rcases Nat.lt_or_ge b h.size with a|a
 ·rw[yb a]
  have e:=Below.block x b oM
  rcases g.blk b with h1|h1
  ·exact .inl (h1.trans e.symm)
  ·exact .inr h1
 ·exact .inl (key b a)
theorem Ek (ok:ByteArray->Prop)(Y:∀ s,ok s->s.size<=1000)(d:Nat)(hd:d<=20)(p:PTm)(t:Tm)(w:World)(h:Hp)(g:G w h)(hT:TmH d h p t)(U:WfT1 ok d t):CR 57 #[bu p] w h (fun v h1=>∃ (A:Z9)(c:Nat)(C:List ByteArray),v=.slice A C.length c/\C.length<=c/\C.length<=1048576/\SlO 1 dS ⟨#[]⟩ h1 A C/\∀ x,x∈C↔fr d t x):=by
 refine (callsIn_wide (n:=6)).1 (callsIn_of_wp Tryz.func57 rfl trivial ?_ rfl)
 simp only[Tryz.ntmps57,J2,yf,Ju,Nat.reduceAdd,Nat.reduceSub,Array.replicate_succ,Array.replicate_zero,List.push_toArray,List.append_toArray,List.nil_append,List.cons_append]
 unfold bu
 have hfK:Fence.wide.fn 93:=trivial;have hf2:Fence.wide.fn 95:=trivial;have hf3:Fence.wide.fn 94:=trivial
 have L:∀ o:Obj,G ((w.alloc o).alloc (.map #[] 0)) ((h.push aY).push aY)/\MapK ((w.alloc o).alloc (.map #[] 0)) ((h.push aY).push aY) (w.heap.size+1) []/\TmH d ((h.push aY).push aY) p t:=fun o=>by
  have u1:Up w h (w.alloc o) (h.push aY):=Up.allocAny g o aY (.inr rfl);have u2:Up (w.alloc o) (h.push aY) ((w.alloc o).alloc (.map #[] 0)) ((h.push aY).push aY):=Up.allocAny u1.g _ _ (.inr rfl);refine ⟨u2.g,⟨?_,?_,List.nodup_nil⟩,(hT.gw u1.gr.gw).gw u2.gr.gw⟩
  ·rw[show w.heap.size+1=(h.push aY).size by rw[Array.size_push,g.size]];exact gg
  ·rw[heap_alloc,show w.heap.size+1=(w.alloc o).heap.size by simp];exact gg
 have hsz:∀ s,fr d t s->s.size<=maxLen:=fun s V=>by have:=Y s (p6 U V);unfold maxLen;omega
 have hcn:=t7 U;have hp2:2^d<=1048576:=e4 (Ay oM hd) kD;have hmm:=@run_makeMap Tryz.prog
 gi_wp2
 gi_at_call 93
 generalize hW2:(w.alloc _).alloc (.map #[] 0)=W2
 have q:=L (.cells #[iV p.op,iV p.n,.bool (ax p.q.num),uV (lo (ac p.q.num)),.string (hi (ac p.q.num)),uV (lo (qd p.q)),.string (hi (qd p.q)),.string p.s,qS p.A p.m p.c] 32);rw[hW2] at q
 clear L
 have cg:=(callsIn_wide (n:=5)).2 (qN ok d p t (w.heap.size+1) [] W2 _ q.1 q.2.2 U q.2.1)
 unfold bu at cg
 refine cg.mono ?_
 clear cg
 rintro e w' ⟨v,h3,rfl,S,rfl,C,ho,hn,M,hl⟩;have F:∀ x,x∈C↔fr d t x:=fun x=>by rw[M x];simp
 have O:C.length<=1048576:=by have:=(show C.length<=0+iO d t from hl);omega
 have bb:w.heap.size+2=W2.heap.size:=by rw[<-hW2];simp
 have j:Go.RowKit.Below w.heap.size w W2:=by rw[<-hW2];exact ((Below.refl _ w).alloc (nR _) _).alloc (by simp) _
 have K:Go.RowKit.Below w.heap.size w w':=⟨S.mo.os.trans j.os,S.mo.tape.trans j.tape,S.mo.output.trans j.output,e4 j.size S.mo.size,fun c hc=>(S.mo.blk c oM (fun hm=>by rw[vl] at hm;omega)).trans (j.block c hc)⟩
 clear M hW2
 obtain ⟨D,W,I,hD3⟩:=xz (P:=Tryz.prog) (k:=9) Tryz.underlying9 ho hn (fun s h_=>hsz s ((F s).1 h_)) O
 gi_wp2
 gi_at_call 95
 refine (ui _ _).mono ?_;rintro e w'' ⟨rfl,rfl⟩
 gi_wp2
 gi_at_call 94
 refine (pJ (w.heap.size+1) C.length D RU w' W (by unfold maxLen;omega) oM).mono ?_;rintro e w3 ⟨v,B,rfl,H,hz2,-,hz3⟩;have Z:=K.size;have hb3:Ext w w3:=(K.alloc Z _).trans (hz3.mono (by simp;omega));obtain ⟨h',u,key⟩:=s8 g hb3
 have J:∀ x:ByteArray,x∈((B.mergeSort fun x y=>decide (x<=y)).map fun z=>(⟨z.toArray⟩:ByteArray))↔fr d t x:=fun x=>by
  rw[<-F x,g2]
  constructor
  ·rintro ⟨z,hz,rfl⟩
   have h1:=(H.trans I).mem_iff.1 ((J4 B _).mem_iff.1 hz);obtain ⟨s,V,e⟩:=g2.1 h1;have:s=⟨z.toArray⟩:=by cases s;rename_i a;simp at e;subst e;rfl
   rw[<-this];exact V
  ·intro hx
   refine ⟨x.data.toList,(J4 B _).mem_iff.2 ((H.trans I).mem_iff.2 (g2.2 ⟨x,hx,rfl⟩)),?_⟩;cases x;simp
 have Q:((B.mergeSort fun x y=>decide (x<=y)).map fun z=>(⟨z.toArray⟩:ByteArray)).length=B.length:=by rw[J3,(J4 B _).length_eq]
 have hzs:B.length<=1048576:=by rw[(H.trans I).length_eq,J3];exact O
 gi_wp2
 go_ret
 generalize hzz:((B.mergeSort fun x y=>decide (x<=y)).map fun z=>(⟨z.toArray⟩:ByteArray))=zz at J Q
 refine ⟨v,h',rfl,u,?_⟩
 rcases hz2 with ⟨-,⟨rfl,hz⟩|⟨gb,cap,cur,rfl,hbase,hgb,r1,-,-,r4⟩⟩
 ·have:zz=[]:=List.eq_nil_of_length_eq_zero oM
  subst this;refine ⟨none,0,[],rfl,nR _,by simp,SlO.nil,fun x=>J x⟩
 ·refine ⟨sB gb,cap,zz,by rw[Q],by omega,by omega,SlO.of_flat (sz:=1) (f:=dS) (d:=⟨#[]⟩) (b:=gb) (o:=0) (fun _=>rfl) fun i v hv=>?_,J⟩
  have hf:zz.flatMap dS=(B.mergeSort fun x y=>decide (x<=y)).map encStr:=by
   rw[<-hzz]
   generalize (B.mergeSort fun x y=>decide (x<=y))=q
   induction q with
   | nil=>rfl
   | cons a l ih=>rw[yT,yT,List.flatMap_cons,ih];rfl
  rw[hf,<-r4,Nat.mul_one] at hv
  have hv2:cur.toList[i]?=some v:=by
   rw[List.getElem?_take] at hv
   split at hv
   ·exact hv
   ·cases hv
  have X:h.size<=gb:=by have:=g.size;simp at hbase;omega
  unfold da
  rw[key gb X,hgb,yH]
  show cur[i]?=some v
  rw[<-Array.getElem?_toList];exact hv2
end srt
def kF (c:Nat):Prop:=(97<=c/\c<=122)\/(65<=c/\c<=90)
def tG (c:Nat):Prop:=((97<=c/\c<=122)\/(65<=c/\c<=90))\/(48<=c/\c<=57)\/c=95
instance (c:Nat):Decidable (kF c):=by unfold kF;infer_instance
instance (c:Nat):Decidable (tG c):=by unfold tG;infer_instance
def k5 (s:ByteArray):Int:=if s=⟨#[97,98,115]⟩ then 9 else if s=⟨#[114,97,109,112]⟩ then 10 else if s=⟨#[98,101,110,100]⟩ then 11 else if s=⟨#[109,97,120]⟩ then 12 else if s=⟨#[109,105,110]⟩ then 13 else 0
def dU (s:ByteArray):Bool:=decide (k5 s≠0)
def cC (s:ByteArray):Bool:=decide (1<=s.size/\s.size<=20/\kF (aG s 0)/\(∀ i,i<s.size->tG (aG s i))/\dU s=false)
theorem vk {s:ByteArray}(h:¬(1<=s.size/\s.size<=20/\kF (aG s 0))):Value.bool false=.bool (cC s):=congrArg Value.bool (decide_eq_false fun x=>h ⟨x.1,x.2.1,x.2.2.1⟩).symm
theorem FG {s:ByteArray}{i:Nat}(h:i<s.size)(a:¬tG (aG s i)):Value.bool false=.bool (cC s):=congrArg Value.bool (decide_eq_false fun x=>a (x.2.2.2.1 i h)).symm
theorem EX {s:ByteArray}(h1:1<=s.size/\s.size<=20)(b:kF (aG s 0))(a:∀ i,i<s.size->tG (aG s i)):cC s = !dU s:=by
 unfold cC
 cases h:dU s
 ·exact decide_eq_true ⟨h1.1,h1.2,b,a,rfl⟩
 ·exact decide_eq_false fun x=>by cases x.2.2.2.2
def iC:List MapEntry:=[⟨.string ⟨#[97,98,115]⟩,.int .i64 9,0⟩,⟨.string ⟨#[114,97,109,112]⟩,.int .i64 10,1⟩,⟨.string ⟨#[98,101,110,100]⟩,.int .i64 11,2⟩,⟨.string ⟨#[109,97,120]⟩,.int .i64 12,3⟩,⟨.string ⟨#[109,105,110]⟩,.int .i64 13,4⟩]
theorem sj (s:ByteArray):(∃ i,Instr.findNow .string (.string s) iC 0=some (some (i,.int .i64 (k5 s)))/\dU s=true)\/(Instr.findNow .string (.string s) iC 0=some none/\dU s=false/\k5 s=0):=by
 by_cases h1:s=⟨#[97,98,115]⟩
 ·subst h1;exact .inl ⟨0,by kernel_rfl,by decide⟩
 by_cases h2:s=⟨#[114,97,109,112]⟩
 ·subst h2;exact .inl ⟨1,by kernel_rfl,by decide⟩
 by_cases h3:s=⟨#[98,101,110,100]⟩
 ·subst h3;exact .inl ⟨2,by kernel_rfl,by decide⟩
 by_cases h4:s=⟨#[109,97,120]⟩
 ·subst h4;exact .inl ⟨3,by kernel_rfl,by decide⟩
 by_cases h5:s=⟨#[109,105,110]⟩
 ·subst h5;exact .inl ⟨4,by kernel_rfl,by decide⟩
 have h:k5 s=0:=by unfold k5;rw[if_neg h1,if_neg h2,if_neg h3,if_neg h4,if_neg h5]
 refine .inr ⟨?_,by unfold dU;rw[h];rfl,h⟩
 rcases MapKept.findNow_spec (d:=.string) (k:=.string s) (by simp[MapKept.IsKey]) iC 0 (fun x f=>by
  simp only[iC,g4,List.not_mem_nil,or_false] at f
  rcases f with rfl|rfl|rfl|rfl|rfl<;>simp[MapKept.IsKey]) with ⟨a,_⟩|⟨j,e,a,b,c⟩
 ·exact a
 ·exfalso
  match j,b with
  | 0,b=>injection b with b;subst b;injection c with c;exact h1 c.symm
  | 1,b=>injection b with b;subst b;injection c with c;exact h2 c.symm
  | 2,b=>injection b with b;subst b;injection c with c;exact h3 c.symm
  | 3,b=>injection b with b;subst b;injection c with c;exact h4 c.symm
  | 4,b=>injection b with b;subst b;injection c with c;exact h5 c.symm
  | n+5,b=>cases b
theorem kS (c:Nat)(B:c<256)(w:World)(h:Hp)(g:G w h):CV 90 #[.int .u8 (c:Nat)] w h (.bool (decide (kF (c)))):=by
 have a:=sS g;refine go Tryz.func90 [(0,.int .u8 (c:Nat))] rfl (ab a ae (aK (lL a ae ?_)));cases b:(decide ((97:Int)<=(c:Int)))
 .
  have j:=oF b;refine lB 4 b (lL a ae (lG 6 ?_));refine lG 7 (lL a [.v qF,.c,.c] ?_);cases e:(decide ((65:Int)<=(c:Int)))
  .
   have o:=oF e;refine lB 11 e (lL a ae (lG 13 ?_));exact lG 14 (lL a [.v qF,.v qF,.c] (ah a [] qF (congrArg Value.bool (decide_eq_false (by unfold kF;omega)).symm)))
  have o:=oT e;refine lB 11 e (lL a aE ?_);cases d:(decide ((c:Int)<=(90:Int)))
  .
   have l:=oF d;exact lB 14 d (lL a [.v qF,.v qF,.c] (ah a [] qF (congrArg Value.bool (decide_eq_false (by unfold kF;omega)).symm)))
  have l:=oT d;exact lB 14 d (lL a [.v qT,.v qT,.c] (ah a [] qT (congrArg Value.bool (decide_eq_true (by unfold kF;omega)).symm)))
 have j:=oT b;refine lB 4 b (lL a aE ?_);cases f:(decide ((c:Int)<=(122:Int)))
 .
  have i:=oF f;refine lB 7 f (lL a [.v qF,.c,.c] ?_);have ⟨x,z⟩:=dT (p:=(65:Int)<=(c:Int)) oM;refine lB 11 x (lL a aE ?_);have ⟨u,y⟩:=dF (p:=(c:Int)<=(90:Int)) oM;exact lB 14 u (lL a [.v qF,.v qF,.c] (ah a [] qF (congrArg Value.bool (decide_eq_false (by unfold kF;omega)).symm)))
 have i:=oT f;refine lB 7 f (lL a [.v qT,.c] (lG 10 ?_));exact lG 11 (lG 12 (lG 13 (lG 14 (lG 15 (lL a [.v qT,.c] (ah a [] qT (congrArg Value.bool (decide_eq_true (by unfold kF;omega)).symm)))))))
theorem nt (c:Nat)(i:c<256)(w:World)(h:Hp)(g:G w h):CV 127 #[.int .u8 (c:Nat)] w h (.bool (decide (48<=(c)/\(c)<=57))):=by
 have a:=sS g;refine go Tryz.func127 [(0,.int .u8 (c:Nat))] rfl (ab a ae (aK (lL a ae ?_)));cases b:(decide ((48:Int)<=(c:Int)))
 .
  have e:=oF b;refine lB 4 b (lL a ae (lG 6 ?_));exact lG 7 (lL a [.v qF,.c] (ah a [] qF (congrArg Value.bool (decide_eq_false oM).symm)))
 have e:=oT b;refine lB 4 b (lL a aE ?_);cases d:(decide ((c:Int)<=(57:Int)))
 .
  have f:=oF d;exact lB 7 d (lL a [.v qF,.c] (ah a [] qF (congrArg Value.bool (decide_eq_false oM).symm)))
 have f:=oT d;exact lB 7 d (lL a [.v qT,.c] (ah a [] qT (congrArg Value.bool (decide_eq_true oM).symm)))
theorem ol (c:Nat)(l:c<256)(w:World)(h:Hp)(g:G w h):CV 91 #[.int .u8 (c:Nat)] w h (.bool (decide (tG (c)))):=by
 have a:=sS g;refine go Tryz.func91 [(0,.int .u8 (c:Nat))] rfl (ab a ae (aK (lL a ae (au 4 a (kS c l _ _ a.g) (fun w1 p a=>?_)))));cases f:(decide (kF (c)))
 .
  have i:=oF f;refine lL a aE (au 7 a (nt c l _ _ a.g) (fun o u a=>?_));cases j:(decide (48<=(c)/\(c)<=57))
  .
   have e:=oF j;refine lL a [.v qF,.c,.c] ?_;cases b:((c:Int) == (95:Int))
   .
    have d:=aq b;exact lB 11 b (lL a [.v qF,.c] (ah a [] qF (congrArg Value.bool (decide_eq_false (by unfold kF at *;unfold tG;omega)).symm)))
   have d:=eq_of_beq b;exact lB 11 b (lL a [.v qT,.c] (ah a [] qT (congrArg Value.bool (decide_eq_true (by unfold kF at *;unfold tG;omega)).symm)))
  have e:=oT j;refine lL a [.v qT,.c] (lG 10 ?_);exact lG 11 (lL a [.v qT,.c] (ah a [] qT (congrArg Value.bool (decide_eq_true (by unfold kF at *;unfold tG;omega)).symm)))
 have i:=oT f;refine lL a ae (lG 6 ?_);refine lG 7 (lL a [.v qT,.c] (lG 10 ?_));exact lG 11 (lL a [.v qT,.c] (ah a [] qT (congrArg Value.bool (decide_eq_true (by unfold kF at *;unfold tG;omega)).symm)))
theorem rZ  (w:World)(h:Hp)(g:G w h):CR 92 #[] w h (fun v h1=>∃ b,v=.map (some b)/\MapS h1 b iC):=by
 have a:=sS g;refine go Tryz.func92 [] rfl (ab a ae (aK (EF 1 a (fun p w2 y a o=>nU 107 9 3 (⟨#[97,98,115]⟩) (iV 9) a o (fun x a j=>nU 107 9 3 (⟨#[114,97,109,112]⟩) (iV 10) a j (fun z a i=>nU 107 9 3 (⟨#[98,101,110,100]⟩) (iV 11) a i (fun B a d=>nU 107 9 3 (⟨#[109,97,120]⟩) (iV 12) a d (fun _ a c=>nU 107 9 3 (⟨#[109,105,110]⟩) (iV 13) a c (fun _ a e=>lL a ae ?_)))))))));obtain ⟨_,a,l⟩:=a.pubMap e;replace a:=a.to [] [];replace a:=a.add (K:=fun u=>MapS u p [⟨.string (⟨#[97,98,115]⟩),iV 9,0⟩,⟨.string (⟨#[114,97,109,112]⟩),iV 10,1⟩,⟨.string (⟨#[98,101,110,100]⟩),iV 11,2⟩,⟨.string (⟨#[109,97,120]⟩),iV 12,3⟩,⟨.string (⟨#[109,105,110]⟩),iV 13,4⟩]) l;exact lL a ae (ah a [] (.map (some p)) (⟨_,rfl,a.f.1⟩))
theorem DK (s:ByteArray)(a:s.size<=1000000)(w:World)(h:Hp)(g:G w h):CV 55 #[.string s] w h (.bool (cC s)):=by
 have a:=sS g;refine go Tryz.func55 [(0,.string s)] rfl (ab a ae (ag (ab a [.c,.v (nV s.size)] ?_)));cases d:(decide ((s.size:Int)<(1:Int)))
 .
  have D:=oF d;refine lB 8 d (lL a [.c,.c,.v (nV s.size)] ?_);cases e:(decide ((20:Int)<(s.size:Int)))
  .
   have z:=oF e;refine lB 12 e (lL a [.v qF,.c,.c] (lV 16 (.int .u8 (aG s 0:Nat)) ?_ (hr:=dZ (tx:=9) (x:=.tmp 15) (i:=.const (iV 0)) (k:=.i64) (s:=s) (n:=0) (j:=(0:Int)) kR kR kR kR oM oM _)));refine au 17 a (kS ((aG s 0)) (cA _ _) _ _ a.g) (fun w3 V a=>?_);cases y:(decide (kF ((aG s 0))))
   .
    have C:=oF y;exact lL a [.v qT,.v qT] (ar (ab a ae (ah a [] qF (vk (fun b=>by have B:=b.1;have F:=b.2.1;first|omega|exact absurd b.2.2 aM)))))
   have C:=oT y;refine lL a [.v qF,.v qF] (am (cK (cQ (ab a [.c,.v (nV s.size),.c] (a7 ?_)))));refine bY _ (CG.loop (fun H Γ U=>∃ (k:Nat)(b:Hp),H=s.size-k/\Γ=[(0,.string s),(21,nV s.size),(22,nV k)]/\SS w h U b [] [] []/\k<=s.size/\(∀ i,i<k->tG (aG s i))) _ ⟨0,V,rfl,rfl,a.to _ _,In _,(fun i hi=>absurd hi (Jl i))⟩ ?_);rintro _ _ Y ⟨k,X,W,rfl,a,hk,p⟩;refine aD ?_;cases l:(decide ((k:Int)<(s.size:Int)))
   .
    have u:=oF l;refine lB 23 l (ag (cD (CG.exit ?_)))
    show CG _ _ _ _ _ _ _ _
    refine aD (lC 32 a (rZ _ _ a.g) ?_);rintro _ _ _ a ⟨M,rfl,I⟩;replace a:=(a.add (K:=fun b=>MapS b M iC) I);refine lL a ae (FB 34 107 9 3 (s) true (iV (k5 s)) ((dU s)) a a.f.1 ?_ (hf:=(by rcases sj s with ⟨i_,e1_,e2_⟩|⟨e1_,e2_,e3_⟩;exact .inl ⟨i_,e1_,e2_⟩;exact .inr ⟨e1_,e2_,fun _=>by rw[e3_];kernel_rfl⟩)));refine lL a [.c,.v (iV (k5 s)),.v (.bool (dU s)),.c,.c] (aK (lL a ae ?_));cases L:(!(dU s))
    .
     refine lB 38 L (lL a ae (lN (kX ?_)));have o:=EX (s:=s) ⟨by omega,by omega⟩ aM (fun i hi=>p i oM);exact a.ret [] qF (congrArg Value.bool (by rw[o];exact (by assumption:(!dU s)=false).symm))
    refine lB 38 L (lL a ae (lN (kX ?_)));have o:=EX (s:=s) ⟨by omega,by omega⟩ aM (fun i hi=>p i oM);exact a.ret [] qT (congrArg Value.bool (by rw[o];exact (by assumption:(!dU s)=true).symm))
   have u:=oT l;refine lB 23 l (ag (bZ (cK (cQ (kZ (ab a aE (aK (lL a aE (lV 27 (.int .u8 (aG s k:Nat)) ?_ (hr:=dZ (tx:=9) (x:=.tmp 25) (i:=.tmp 26) (k:=.i64) (s:=s) (n:=k) (j:=(k:Int)) kR kR kR kR oM oM _))))))))));refine au 28 a (ol ((aG s k)) (cA _ _) _ _ a.g) (fun _ S a=>?_);cases J:(decide (tG ((aG s k))))
   .
    have Q:=oF J;exact lL a [.v qT] (ar (ab a ae (ah a [] qF (FG (i:=k) oM aM))))
   have Q:=oT J;refine lL a [.v qF] (am (cK (kQ (bB 30 ((k:Nat)+1) (k+1) ?_))));refine lL a ae (lD ?_);intro Z O;refine ⟨_,_,?_,⟨k+1,S,rfl,rfl,a.to _ _,oM,(fun i hi=>by rcases J5.1 hi with b|rfl;exact p i b;assumption)⟩,O.to _ kR⟩
   omega
  have z:=oT e;refine lB 12 e (lL a [.v qT,.c] (lG 15 ?_));exact lG 16 (lG 17 (lG 18 (lL a [.v qT] (ar (ab a ae (ah a [] qF (vk (fun b=>by have B:=b.1;have F:=b.2.1;first|omega|exact absurd b.2.2 aM))))))))
 have D:=oT d;refine lB 8 d (lL a ae (lG 10 ?_));refine lG 11 (lG 12 (lL a [.v qT,.c] (lG 15 ?_)));exact lG 16 (lG 17 (lG 18 (lL a [.v qT] (ar (ab a ae (ah a [] qF (vk (fun b=>by have B:=b.1;have F:=b.2.1;first|omega|exact absurd b.2.2 aM))))))))
theorem Co  (isb:ByteArray->Bool)(sm:ByteArray->Prop)(tj:∀ s,sm s->∀ (w:World) (h:Hp),G w h->Calls Tryz.prog 55 #[.string s] w (Ret w h (fun v _=>∃ b,v=.bool b/\b=isb s)))(d:Nat)(p:PTm)(t:Tm)(D:d<=24)(w:World)(h:Hp)(g:G w h)(u:TmH d h p t)(l:sR sm d t):CR 54 #[bu p] w h (fun v _=>∃ e:Int,v=iV e/\((WfT (fun s=>isb s=true) d t/\e=(if 1000<bD d t then 18 else 0))\/(¬WfT (fun s=>isb s=true) d t/\e=2))):=by
 have a:=((sS g).add (K:=fun j=>TmH d j p t) u);refine go Tryz.func54 [(0,bu p)] rfl (aD (lA 1 32 (bH p) a (fun L w2 F a=>lL a ae (ag (ab a [.o (bu p) 0 0 9] (au 4 a (si sm d p t 24 _ _ a.g a.f.1 l oM oM) (fun J I a=>am (cK (cQ (ab a [.o (bu p) 0 0 9] (lC 6 a (nZ isb sm tj d p t _ _ a.g a.f.1 l) ?_)))))))))));rintro _ C B a ⟨z,rfl,c⟩;cases x:(z)
 .
  exact lL a [.v qT] (ar (ab a ae (ah a [] (iV 2) (⟨_,rfl,.inr ⟨fun j=>Bool.noConfusion ((c.2 j).symm.trans aM),rfl⟩⟩))))
 refine lL a [.v qF] (am (cK (cQ (ab a [.o (bu p) 0 0 9] (au 9 a (oD (fun s=>isb s=true) d p t _ _ a.g a.f.1 (c.1 aM)) (fun H _ a=>?_))))));cases i:(decide ((1000:Int)<(((min (bD d t) 1001:Nat):Int):Int)))
 .
  have y:=oF i;exact lB 10 i (am (cK (ab a ae (ah a [] (iV 0) (⟨_,rfl,.inl ⟨c.1 aM,by split<;>omega⟩⟩)))))
 have y:=oT i;exact lB 10 i (ar (ab a ae (ah a [] (iV 18) (⟨_,rfl,.inl ⟨c.1 aM,by split<;>omega⟩⟩))))
theorem EU (isb:ByteArray->Bool)(sm:ByteArray->Prop)(tj:∀ s,sm s->∀ (w:World) (h:Hp),G w h->Calls Tryz.prog 55 #[.string s] w (Ret w h (fun v _=>∃ b,v=.bool b/\b=isb s)))(c:∀ s,isb s=true->sm s)(h0:sm ⟨#[]⟩)(d:Nat)(p:PTm)(t:Tm)(j:d<=24)(w:World)(h:Hp)(g:G w h)(i:TmH d h p t)(f:WfT (fun s=>isb s=true) d t):Calls Tryz.prog 54 #[bu p] w (Ret w h (fun v _=>v=iV (if 1000<bD d t then 18 else 0))) :=
 (Co isb sm tj d p t j w h g i (f.sm c h0)).mono fun e w' ⟨v,l,e1,u,e2,o,a⟩=>⟨v,l,e1,u,by
  rcases a with ⟨_,a⟩|⟨a,_⟩
  ·rw[o,a]
  ·exact absurd f a⟩
theorem u5 (A:Z9)(c:Nat)(w:World)(h:Hp)(g:G w h)(p:SlO 1 dS ⟨#[]⟩ h A ([⟨#[120]⟩,⟨#[121]⟩]:List ByteArray)):CR 56 #[.slice A 2 c] w h (fun v h1=>∃ b,v=.map (some b)/\MapS h1 b [⟨.string (⟨#[120]⟩),iV 0,0⟩,⟨.string (⟨#[121]⟩),iV 1,1⟩]):=by
 have a:=((sS g).aS p);have u:([⟨#[120]⟩,⟨#[121]⟩]:List ByteArray).length=2:=rfl;refine go Tryz.func56 [(0,qS A 2 c)] rfl (ab a ae (aK (EF 6 a (fun d w2 z a l=>lL a ae (ag (ab a [.c,.v (iV 2),.c] (a7 (cU ?_))))))));refine cN (ab a [.v qT] (ag (bZ (cK (cQ (kZ (ab a ae (lX 12 A 2 c 1 0 0 ((a.f.1).ok oM) ?_))))))));refine lH 13 (.string (⟨#[120]⟩)) a ((a.f.1).el 0 oM) (lL a aE (lN (kQ (lL a dG (nU 107 9 3 (⟨#[120]⟩) (iV 0) a l (fun y a i=>lN (kQ (lL a [.v (iV 1),.c] (lD (CL.to [(2,.map none),(3,.map (some d)),(7,qS A 2 c),(8,iV 2),(9,iV 1),(10,qT),(11,iV 0),(12,.pointer (some ⟨(aB A),aO A+0*1,none⟩)),(13,.string (⟨#[120]⟩)),(4,iV 0),(5,.string (⟨#[120]⟩)),(14,.map (some d)),(15,.string (⟨#[120]⟩)),(16,iV 0),(17,iV 1)] ?_))))))))));replace a:=a.to [] [];refine cN (ab a [.v qT] (ag (bZ (cK (cQ (kZ (ab a ae (lX 12 A 2 c 1 1 1 ((a.f.1).ok oM) ?_))))))));refine lH 13 (.string (⟨#[121]⟩)) a ((a.f.1).el 1 oM) (lL a aE (lN (kQ (lL a dG (nU 107 9 3 (⟨#[121]⟩) (iV 1) a i (fun B a e=>lN (kQ (lL a [.v (iV 2),.c] (lD (CL.to [(2,.map none),(3,.map (some d)),(7,qS A 2 c),(8,iV 2),(9,iV 2),(10,qT),(11,iV 1),(12,.pointer (some ⟨(aB A),aO A+1*1,none⟩)),(13,.string (⟨#[121]⟩)),(4,iV 1),(5,.string (⟨#[121]⟩)),(14,.map (some d)),(15,.string (⟨#[121]⟩)),(16,iV 1),(17,iV 2)] ?_))))))))));replace a:=a.to [] [];refine cN (ab a [.v qF] (ag (cD (CG.exit ?_))))
 show CG _ _ _ _ _ _ _ _
 refine ab a ae ?_;obtain ⟨x,a,j⟩:=a.pubMap e;replace a:=a.to [] [];replace a:=a.add (K:=fun o=>MapS o d [⟨.string (⟨#[120]⟩),iV 0,0⟩,⟨.string (⟨#[121]⟩),iV 1,1⟩]) j;exact lL a ae (ah a [] (.map (some d)) (⟨_,rfl,a.f.1⟩))
theorem uP (A:Z9)(c:Nat)(w:World)(h:Hp)(g:G w h)(y:SlO 1 dS ⟨#[]⟩ h A ([⟨#[120]⟩,⟨#[121]⟩,⟨#[122]⟩,⟨#[120]⟩]:List ByteArray)):CR 56 #[.slice A 4 c] w h (fun v h1=>∃ b,v=.map (some b)/\MapS h1 b [⟨.string (⟨#[120]⟩),iV 3,0⟩,⟨.string (⟨#[121]⟩),iV 1,1⟩,⟨.string (⟨#[122]⟩),iV 2,2⟩]):=by
 have a:=((sS g).aS y);have z:([⟨#[120]⟩,⟨#[121]⟩,⟨#[122]⟩,⟨#[120]⟩]:List ByteArray).length=4:=rfl;refine go Tryz.func56 [(0,qS A 4 c)] rfl (ab a ae (aK (EF 6 a (fun d w2 C a u=>lL a ae (ag (ab a [.c,.v (iV 4),.c] (a7 (cU ?_))))))));refine cN (ab a [.v qT] (ag (bZ (cK (cQ (kZ (ab a ae (lX 12 A 4 c 1 0 0 ((a.f.1).ok oM) ?_))))))));refine lH 13 (.string (⟨#[120]⟩)) a ((a.f.1).el 0 oM) (lL a aE (lN (kQ (lL a dG (nU 107 9 3 (⟨#[120]⟩) (iV 0) a u (fun B a o=>lN (kQ (lL a [.v (iV 1),.c] (lD (CL.to [(2,.map none),(3,.map (some d)),(7,qS A 4 c),(8,iV 4),(9,iV 1),(10,qT),(11,iV 0),(12,.pointer (some ⟨(aB A),aO A+0*1,none⟩)),(13,.string (⟨#[120]⟩)),(4,iV 0),(5,.string (⟨#[120]⟩)),(14,.map (some d)),(15,.string (⟨#[120]⟩)),(16,iV 0),(17,iV 1)] ?_))))))))));replace a:=a.to [] [];refine cN (ab a [.v qT] (ag (bZ (cK (cQ (kZ (ab a ae (lX 12 A 4 c 1 1 1 ((a.f.1).ok oM) ?_))))))));refine lH 13 (.string (⟨#[121]⟩)) a ((a.f.1).el 1 oM) (lL a aE (lN (kQ (lL a dG (nU 107 9 3 (⟨#[121]⟩) (iV 1) a o (fun D a l=>lN (kQ (lL a [.v (iV 2),.c] (lD (CL.to [(2,.map none),(3,.map (some d)),(7,qS A 4 c),(8,iV 4),(9,iV 2),(10,qT),(11,iV 1),(12,.pointer (some ⟨(aB A),aO A+1*1,none⟩)),(13,.string (⟨#[121]⟩)),(4,iV 1),(5,.string (⟨#[121]⟩)),(14,.map (some d)),(15,.string (⟨#[121]⟩)),(16,iV 1),(17,iV 2)] ?_))))))))));replace a:=a.to [] [];refine cN (ab a [.v qT] (ag (bZ (cK (cQ (kZ (ab a ae (lX 12 A 4 c 1 2 2 ((a.f.1).ok oM) ?_))))))));refine lH 13 (.string (⟨#[122]⟩)) a ((a.f.1).el 2 oM) (lL a aE (lN (kQ (lL a dG (nU 107 9 3 (⟨#[122]⟩) (iV 2) a l (fun F a j=>lN (kQ (lL a [.v (iV 3),.c] (lD (CL.to [(2,.map none),(3,.map (some d)),(7,qS A 4 c),(8,iV 4),(9,iV 3),(10,qT),(11,iV 2),(12,.pointer (some ⟨(aB A),aO A+2*1,none⟩)),(13,.string (⟨#[122]⟩)),(4,iV 2),(5,.string (⟨#[122]⟩)),(14,.map (some d)),(15,.string (⟨#[122]⟩)),(16,iV 2),(17,iV 3)] ?_))))))))));replace a:=a.to [] [];refine cN (ab a [.v qT] (ag (bZ (cK (cQ (kZ (ab a ae (lX 12 A 4 c 1 3 3 ((a.f.1).ok oM) ?_))))))));refine lH 13 (.string (⟨#[120]⟩)) a ((a.f.1).el 3 oM) (lL a aE (lN (kQ (lL a dG (Hw (i:=0) 107 9 3 (⟨#[120]⟩) (iV 3) (iV 0) [⟨.string (⟨#[120]⟩),iV 3,0⟩,⟨.string (⟨#[121]⟩),iV 1,1⟩,⟨.string (⟨#[122]⟩),iV 2,2⟩] a j (fun _ a e=>lN (kQ (lL a [.v (iV 4),.c] (lD (CL.to [(2,.map none),(3,.map (some d)),(7,qS A 4 c),(8,iV 4),(9,iV 4),(10,qT),(11,iV 3),(12,.pointer (some ⟨(aB A),aO A+3*1,none⟩)),(13,.string (⟨#[120]⟩)),(4,iV 3),(5,.string (⟨#[120]⟩)),(14,.map (some d)),(15,.string (⟨#[120]⟩)),(16,iV 3),(17,iV 4)] ?_))))))))));replace a:=a.to [] [];refine cN (ab a [.v qF] (ag (cD (CG.exit ?_))))
 show CG _ _ _ _ _ _ _ _
 refine ab a ae ?_;obtain ⟨_,a,p⟩:=a.pubMap e;replace a:=a.to [] [];replace a:=a.add (K:=fun x=>MapS x d [⟨.string (⟨#[120]⟩),iV 3,0⟩,⟨.string (⟨#[121]⟩),iV 1,1⟩,⟨.string (⟨#[122]⟩),iV 2,2⟩]) p;exact lL a ae (ah a [] (.map (some d)) (⟨_,rfl,a.f.1⟩))
theorem vA (A:Z9)(c:Nat)(w:World)(h:Hp)(g:G w h)(x:SlO 1 dS ⟨#[]⟩ h A ([⟨#[122]⟩,⟨#[121]⟩,⟨#[120]⟩,⟨#[119]⟩]:List ByteArray)):CR 56 #[.slice A 4 c] w h (fun v h1=>∃ b,v=.map (some b)/\MapS h1 b [⟨.string (⟨#[122]⟩),iV 0,0⟩,⟨.string (⟨#[121]⟩),iV 1,1⟩,⟨.string (⟨#[120]⟩),iV 2,2⟩,⟨.string (⟨#[119]⟩),iV 3,3⟩]):=by
 have a:=((sS g).aS x);have y:([⟨#[122]⟩,⟨#[121]⟩,⟨#[120]⟩,⟨#[119]⟩]:List ByteArray).length=4:=rfl;refine go Tryz.func56 [(0,qS A 4 c)] rfl (ab a ae (aK (EF 6 a (fun d w2 B a p=>lL a ae (ag (ab a [.c,.v (iV 4),.c] (a7 (cU ?_))))))));refine cN (ab a [.v qT] (ag (bZ (cK (cQ (kZ (ab a ae (lX 12 A 4 c 1 0 0 ((a.f.1).ok oM) ?_))))))));refine lH 13 (.string (⟨#[122]⟩)) a ((a.f.1).el 0 oM) (lL a aE (lN (kQ (lL a dG (nU 107 9 3 (⟨#[122]⟩) (iV 0) a p (fun z a l=>lN (kQ (lL a [.v (iV 1),.c] (lD (CL.to [(2,.map none),(3,.map (some d)),(7,qS A 4 c),(8,iV 4),(9,iV 1),(10,qT),(11,iV 0),(12,.pointer (some ⟨(aB A),aO A+0*1,none⟩)),(13,.string (⟨#[122]⟩)),(4,iV 0),(5,.string (⟨#[122]⟩)),(14,.map (some d)),(15,.string (⟨#[122]⟩)),(16,iV 0),(17,iV 1)] ?_))))))))));replace a:=a.to [] [];refine cN (ab a [.v qT] (ag (bZ (cK (cQ (kZ (ab a ae (lX 12 A 4 c 1 1 1 ((a.f.1).ok oM) ?_))))))));refine lH 13 (.string (⟨#[121]⟩)) a ((a.f.1).el 1 oM) (lL a aE (lN (kQ (lL a dG (nU 107 9 3 (⟨#[121]⟩) (iV 1) a l (fun C a j=>lN (kQ (lL a [.v (iV 2),.c] (lD (CL.to [(2,.map none),(3,.map (some d)),(7,qS A 4 c),(8,iV 4),(9,iV 2),(10,qT),(11,iV 1),(12,.pointer (some ⟨(aB A),aO A+1*1,none⟩)),(13,.string (⟨#[121]⟩)),(4,iV 1),(5,.string (⟨#[121]⟩)),(14,.map (some d)),(15,.string (⟨#[121]⟩)),(16,iV 1),(17,iV 2)] ?_))))))))));replace a:=a.to [] [];refine cN (ab a [.v qT] (ag (bZ (cK (cQ (kZ (ab a ae (lX 12 A 4 c 1 2 2 ((a.f.1).ok oM) ?_))))))));refine lH 13 (.string (⟨#[120]⟩)) a ((a.f.1).el 2 oM) (lL a aE (lN (kQ (lL a dG (nU 107 9 3 (⟨#[120]⟩) (iV 2) a j (fun D a i=>lN (kQ (lL a [.v (iV 3),.c] (lD (CL.to [(2,.map none),(3,.map (some d)),(7,qS A 4 c),(8,iV 4),(9,iV 3),(10,qT),(11,iV 2),(12,.pointer (some ⟨(aB A),aO A+2*1,none⟩)),(13,.string (⟨#[120]⟩)),(4,iV 2),(5,.string (⟨#[120]⟩)),(14,.map (some d)),(15,.string (⟨#[120]⟩)),(16,iV 2),(17,iV 3)] ?_))))))))));replace a:=a.to [] [];refine cN (ab a [.v qT] (ag (bZ (cK (cQ (kZ (ab a ae (lX 12 A 4 c 1 3 3 ((a.f.1).ok oM) ?_))))))));refine lH 13 (.string (⟨#[119]⟩)) a ((a.f.1).el 3 oM) (lL a aE (lN (kQ (lL a dG (nU 107 9 3 (⟨#[119]⟩) (iV 3) a i (fun _ a e=>lN (kQ (lL a [.v (iV 4),.c] (lD (CL.to [(2,.map none),(3,.map (some d)),(7,qS A 4 c),(8,iV 4),(9,iV 4),(10,qT),(11,iV 3),(12,.pointer (some ⟨(aB A),aO A+3*1,none⟩)),(13,.string (⟨#[119]⟩)),(4,iV 3),(5,.string (⟨#[119]⟩)),(14,.map (some d)),(15,.string (⟨#[119]⟩)),(16,iV 3),(17,iV 4)] ?_))))))))));replace a:=a.to [] [];refine cN (ab a [.v qF] (ag (cD (CG.exit ?_))))
 show CG _ _ _ _ _ _ _ _
 refine ab a ae ?_;obtain ⟨_,a,o⟩:=a.pubMap e;replace a:=a.to [] [];replace a:=a.add (K:=fun u=>MapS u d [⟨.string (⟨#[122]⟩),iV 0,0⟩,⟨.string (⟨#[121]⟩),iV 1,1⟩,⟨.string (⟨#[120]⟩),iV 2,2⟩,⟨.string (⟨#[119]⟩),iV 3,3⟩]) o;exact lL a ae (ah a [] (.map (some d)) (⟨_,rfl,a.f.1⟩))
theorem wE (A:Z9)(c:Nat)(w:World)(h:Hp)(g:G w h)(u:SlO 1 dS ⟨#[]⟩ h A en):CR 56 #[.slice A 3 c] w h (fun v h1=>∃ b,v=.map (some b)/\MapS h1 b [⟨.string (⟨#[120]⟩),iV 0,0⟩,⟨.string (⟨#[121]⟩),iV 1,1⟩,⟨.string (⟨#[122]⟩),iV 2,2⟩]):=by
 have a:=((sS g).aS u);have x:en.length=3:=rfl;refine go Tryz.func56 [(0,qS A 3 c)] rfl (ab a ae (aK (EF 6 a (fun d w2 z a o=>lL a ae (ag (ab a [.c,.v (iV 3),.c] (a7 (cU ?_))))))));refine cN (ab a [.v qT] (ag (bZ (cK (cQ (kZ (ab a ae (lX 12 A 3 c 1 0 0 ((a.f.1).ok oM) ?_))))))));refine lH 13 (.string (⟨#[120]⟩)) a ((a.f.1).el 0 oM) (lL a aE (lN (kQ (lL a dG (nU 107 9 3 (⟨#[120]⟩) (iV 0) a o (fun y a j=>lN (kQ (lL a [.v (iV 1),.c] (lD (CL.to [(2,.map none),(3,.map (some d)),(7,qS A 3 c),(8,iV 3),(9,iV 1),(10,qT),(11,iV 0),(12,.pointer (some ⟨(aB A),aO A+0*1,none⟩)),(13,.string (⟨#[120]⟩)),(4,iV 0),(5,.string (⟨#[120]⟩)),(14,.map (some d)),(15,.string (⟨#[120]⟩)),(16,iV 0),(17,iV 1)] ?_))))))))));replace a:=a.to [] [];refine cN (ab a [.v qT] (ag (bZ (cK (cQ (kZ (ab a ae (lX 12 A 3 c 1 1 1 ((a.f.1).ok oM) ?_))))))));refine lH 13 (.string (⟨#[121]⟩)) a ((a.f.1).el 1 oM) (lL a aE (lN (kQ (lL a dG (nU 107 9 3 (⟨#[121]⟩) (iV 1) a j (fun B a i=>lN (kQ (lL a [.v (iV 2),.c] (lD (CL.to [(2,.map none),(3,.map (some d)),(7,qS A 3 c),(8,iV 3),(9,iV 2),(10,qT),(11,iV 1),(12,.pointer (some ⟨(aB A),aO A+1*1,none⟩)),(13,.string (⟨#[121]⟩)),(4,iV 1),(5,.string (⟨#[121]⟩)),(14,.map (some d)),(15,.string (⟨#[121]⟩)),(16,iV 1),(17,iV 2)] ?_))))))))));replace a:=a.to [] [];refine cN (ab a [.v qT] (ag (bZ (cK (cQ (kZ (ab a ae (lX 12 A 3 c 1 2 2 ((a.f.1).ok oM) ?_))))))));refine lH 13 (.string (⟨#[122]⟩)) a ((a.f.1).el 2 oM) (lL a aE (lN (kQ (lL a dG (nU 107 9 3 (⟨#[122]⟩) (iV 2) a i (fun C a e=>lN (kQ (lL a [.v (iV 3),.c] (lD (CL.to [(2,.map none),(3,.map (some d)),(7,qS A 3 c),(8,iV 3),(9,iV 3),(10,qT),(11,iV 2),(12,.pointer (some ⟨(aB A),aO A+2*1,none⟩)),(13,.string (⟨#[122]⟩)),(4,iV 2),(5,.string (⟨#[122]⟩)),(14,.map (some d)),(15,.string (⟨#[122]⟩)),(16,iV 2),(17,iV 3)] ?_))))))))));replace a:=a.to [] [];refine cN (ab a [.v qF] (ag (cD (CG.exit ?_))))
 show CG _ _ _ _ _ _ _ _
 refine ab a ae ?_;obtain ⟨_,a,l⟩:=a.pubMap e;replace a:=a.to [] [];replace a:=a.add (K:=fun p=>MapS p d [⟨.string (⟨#[120]⟩),iV 0,0⟩,⟨.string (⟨#[121]⟩),iV 1,1⟩,⟨.string (⟨#[122]⟩),iV 2,2⟩]) l;exact lL a ae (ah a [] (.map (some d)) (⟨_,rfl,a.f.1⟩))
theorem uB (A:Z9)(c:Nat)(w:World)(h:Hp)(g:G w h)(o:SlO 1 dS ⟨#[]⟩ h A ([⟨#[120]⟩]:List ByteArray)):CR 56 #[.slice A 1 c] w h (fun v h1=>∃ b,v=.map (some b)/\MapS h1 b [⟨.string (⟨#[120]⟩),iV 0,0⟩]):=by
 have a:=((sS g).aS o);have p:([⟨#[120]⟩]:List ByteArray).length=1:=rfl;refine go Tryz.func56 [(0,qS A 1 c)] rfl (ab a ae (aK (EF 6 a (fun i w2 y a e=>lL a ae (ag (ab a [.c,.v (iV 1),.c] (a7 (cU ?_))))))));refine cN (ab a [.v qT] (ag (bZ (cK (cQ (kZ (ab a ae (lX 12 A 1 c 1 0 0 ((a.f.1).ok oM) ?_))))))));refine lH 13 (.string (⟨#[120]⟩)) a ((a.f.1).el 0 oM) (lL a aE (lN (kQ (lL a dG (nU 107 9 3 (⟨#[120]⟩) (iV 0) a e (fun x a d=>lN (kQ (lL a [.v (iV 1),.c] (lD (CL.to [(2,.map none),(3,.map (some i)),(7,qS A 1 c),(8,iV 1),(9,iV 1),(10,qT),(11,iV 0),(12,.pointer (some ⟨(aB A),aO A+0*1,none⟩)),(13,.string (⟨#[120]⟩)),(4,iV 0),(5,.string (⟨#[120]⟩)),(14,.map (some i)),(15,.string (⟨#[120]⟩)),(16,iV 0),(17,iV 1)] ?_))))))))));replace a:=a.to [] [];refine cN (ab a [.v qF] (ag (cD (CG.exit ?_))))
 show CG _ _ _ _ _ _ _ _
 refine ab a ae ?_;obtain ⟨u,a,j⟩:=a.pubMap d;replace a:=a.to [] [];replace a:=a.add (K:=fun l=>MapS l i [⟨.string (⟨#[120]⟩),iV 0,0⟩]) j;exact lL a ae (ah a [] (.map (some i)) (⟨_,rfl,a.f.1⟩))
def lJ (isb:ByteArray->Bool)(d:Nat)(t:Tm):Prop:=WfT1 (fun s=>isb s=true) d t/\bD d t<=1000
theorem EP:∀ s,je s->∀ (w:World) (h:Hp),G w h->Calls Tryz.prog 55 #[.string s] w (Ret w h (fun v _=>∃ b,v=.bool b/\b=cC s)):=fun s c w h g =>
 (DK s (by unfold je at c;omega) w h g).mono fun e w' ⟨v,a,e1,u,e2⟩=>⟨v,a,e1,u,_,e2,rfl⟩
theorem ng {s:ByteArray}(h:cC s=true):je s:=by
 have:=oT h
 unfold je;omega
theorem Fz {b:Bool}(h:(!b)=false):b=true:=by cases b<;>first|rfl|cases h
theorem G5 {b:Bool}(h:(!b)=true):b=false:=by cases b<;>first|rfl|cases h
theorem DT {l:List ByteArray}{k:Nat}(h:k<l.length):l.getD k ⟨#[]⟩∈l:=by
 rw[D0,JY h];exact gs h
theorem Bu {l:List ByteArray}{s:ByteArray}(h:s∈l):∃ i,i<l.length/\l.getD i ⟨#[]⟩=s:=by
 obtain ⟨i,hi,e⟩:=List.mem_iff_getElem.1 h;exact ⟨i,hi,by rw[D0,JY hi];exact e⟩
theorem rE {ok sm:ByteArray->Prop}:∀ {d:Nat} {t:Tm},SmT1 sm d t->WfT ok d t->WfT1 ok d t
 | _+1,_,⟨_,_,_,s4,_,s6⟩,⟨h1,h2,_,h4,h5,h6,h7,h8,h9⟩=>⟨h1,h2,s4,h4,h5,h6,h7,h8,fun i hi=>rE (s6 i hi) (h9 i hi)⟩
theorem vx {isb:ByteArray->Bool}{sm:ByteArray->Prop}{d:Nat}{t:Tm}{e:Int}(a:SmT1 sm d t)(h:(WfT (fun s=>isb s=true) d t/\e=(if 1000<bD d t then 18 else 0))\/(¬WfT (fun s=>isb s=true) d t/\e=2))(z:e=0):WfT1 (fun s=>isb s=true) d t/\bD d t<=1000:=by
 rcases h with ⟨h1,h2⟩|⟨h1,h2⟩
 ·refine ⟨rE a h1,?_⟩
  split at h2<;>omega
 ·omega
theorem Fm {isb:ByteArray->Bool}{d:Nat}{t:Tm}{e:Int}(h:(WfT (fun s=>isb s=true) d t/\e=(if 1000<bD d t then 18 else 0))\/(¬WfT (fun s=>isb s=true) d t/\e=2))(z:lJ isb d t):e=0:=by
 rcases h with ⟨h1,h2⟩|⟨h1,h2⟩
 ·rw[h2,if_neg (by have:=z.2;omega)]
 ·exact absurd z.1.wf h1
def NsD (ns:List ByteArray):Prop:=ns=([⟨#[120]⟩,⟨#[121]⟩]:List ByteArray)\/ns=([⟨#[120]⟩,⟨#[121]⟩,⟨#[122]⟩,⟨#[120]⟩]:List ByteArray)\/ns=([⟨#[109,97,120]⟩,⟨#[120]⟩,⟨#[121]⟩,⟨#[122]⟩]:List ByteArray)\/ns=([⟨#[122]⟩,⟨#[121]⟩,⟨#[120]⟩,⟨#[119]⟩]:List ByteArray)\/ns=en\/ns=([⟨#[120]⟩]:List ByteArray)
theorem NsD.len {a:List ByteArray}(h:NsD a):a.length<=4/\1<=a.length:=by
 rcases h with rfl|rfl|rfl|rfl|rfl|rfl<;>decide
theorem NsD.small {a:List ByteArray}(h:NsD a):∀ i,i<a.length->je (a.getD i ⟨#[]⟩):=by
 unfold je
 rcases h with rfl|rfl|rfl|rfl|rfl|rfl<;>decide
def uv:List MapEntry:=[⟨.string ⟨#[120]⟩,.int .i64 3,0⟩,⟨.string ⟨#[121]⟩,.int .i64 1,1⟩,⟨.string ⟨#[122]⟩,.int .i64 2,2⟩]
def nF:List ByteArray:=([⟨#[120]⟩,⟨#[121]⟩,⟨#[122]⟩,⟨#[120]⟩]:List ByteArray)
def pU (ns:List ByteArray):List MapEntry:=if ns=nF then uv else pQ ns 0
def vN (ns:List ByteArray)(s:ByteArray):Int:=if ns=nF then (if s=⟨#[120]⟩ then 3 else if s=⟨#[121]⟩ then 1 else if s=⟨#[122]⟩ then 2 else 0) else Gm ns s
theorem DP (s:ByteArray):(∃ i,Instr.findNow .string (.string s) uv 0=some (some (i,.int .i64 (vN nF s)))/\decide (s∈nF)=true)\/(Instr.findNow .string (.string s) uv 0=some none/\decide (s∈nF)=false/\vN nF s=0):=by
 by_cases h1:s=⟨#[120]⟩
 ·subst h1;exact .inl ⟨0,by kernel_rfl,by decide⟩
 by_cases h2:s=⟨#[121]⟩
 ·subst h2;exact .inl ⟨1,by kernel_rfl,by decide⟩
 by_cases h3:s=⟨#[122]⟩
 ·subst h3;exact .inl ⟨2,by kernel_rfl,by decide⟩
 refine .inr ⟨?_,decide_eq_false (fun h=>?_),by unfold vN;rw[if_pos rfl,if_neg h1,if_neg h2,if_neg h3]⟩
 ·rcases MapKept.findNow_spec (d:=.string) (k:=.string s) (by simp[MapKept.IsKey]) uv 0 (fun x f=>by
   simp only[uv,g4,List.not_mem_nil,or_false] at f
   rcases f with rfl|rfl|rfl<;>simp[MapKept.IsKey]) with ⟨a,_⟩|⟨j,e,a,b,c⟩
  ·exact a
  ·exfalso
   match j,b with
   | 0,b=>injection b with b;subst b;injection c with c;exact h1 c.symm
   | 1,b=>injection b with b;subst b;injection c with c;exact h2 c.symm
   | 2,b=>injection b with b;subst b;injection c with c;exact h3 c.symm
   | n+3,b=>cases b
 ·simp only[nF,g4,List.not_mem_nil,or_false] at h
  rcases h with h|h|h|h
  ·exact h1 h
  ·exact h2 h
  ·exact h3 h
  ·exact h1 h
theorem Hu {a:List ByteArray}(b:NsD a)(_:∀ i,i<a.length->cC (a.getD i ⟨#[]⟩)=true)(s:ByteArray):(∃ i,Instr.findNow .string (.string s) (pU a) 0=some (some (i,.int .i64 (vN a s)))/\decide (s∈a)=true)\/(Instr.findNow .string (.string s) (pU a) 0=some none/\decide (s∈a)=false/\vN a s=0):=by
 by_cases hd:a=nF
 ·subst hd;unfold pU;rw[if_pos rfl];exact DP s
 ·unfold pU vN;rw[if_neg hd,if_neg hd]
  refine Cd ?_ s
  rcases b with rfl|rfl|rfl|rfl|rfl|rfl
  ·decide
  ·exact absurd rfl hd
  ·decide
  ·decide
  ·decide
  ·decide
theorem wt {a:List ByteArray}(b:NsD a):a.Nodup↔(pU a).length=a.length:=by
 rcases b with rfl|rfl|rfl|rfl|rfl|rfl<;>decide
theorem lg {a:List ByteArray}(f:NsD a)(e:∀ i,i<a.length->cC (a.getD i ⟨#[]⟩)=true)(A:Z9)(c:Nat)(w:World)(h:Hp)(g:G w h)(d:SlO 1 dS ⟨#[]⟩ h A a):Calls Tryz.prog 56 #[.slice A a.length c] w (Ret w h (fun v h1=>∃ b,v=.map (some b)/\MapS h1 b (pU a))):=by
 rcases f with rfl|rfl|rfl|rfl|rfl|rfl
 ·exact u5 A c w h g d
 ·exact uP A c w h g d
 ·exact absurd (e 0 kD) kD
 ·exact vA A c w h g d
 ·exact wE A c w h g d
 ·exact uB A c w h g d
def DckR (d:Nat)(t:Tm)(ns:List ByteArray)(M:Prop)(e:Int):Prop :=
  (¬lJ cC d t/\e=1)\/(lJ cC d t/\((¬M/\e=5)\/(M/\((¬(∀ i,i<ns.length->cC (ns.getD i ⟨#[]⟩)=true)/\e=11)\/((∀ i,i<ns.length->cC (ns.getD i ⟨#[]⟩)=true)/\((¬(∀ s,fr d t s->s∈ns)/\e=11)\/((∀ s,fr d t s->s∈ns)/\((¬ns.Nodup/\e=8)\/(ns.Nodup/\e=0)))))))))
theorem DckR.uniq {d:Nat}{t:Tm}{j:List ByteArray}{M:Prop}{e h:Int}(x:DckR d t j M e)(y:DckR d t j M h):e=h:=by
 rcases x with ⟨a,rfl⟩|⟨a,⟨b,rfl⟩|⟨b,⟨c,rfl⟩|⟨c,⟨f,rfl⟩|⟨f,⟨i,rfl⟩|⟨i,rfl⟩⟩⟩⟩⟩ <;>
 rcases y with ⟨a',rfl⟩|⟨a',⟨b',rfl⟩|⟨b',⟨c',rfl⟩|⟨c',⟨f',rfl⟩|⟨f',⟨i',rfl⟩|⟨i',rfl⟩⟩⟩⟩⟩ <;>
 first
 | rfl
 | exact absurd a' a
 | exact absurd a a'
 | exact absurd b' b
 | exact absurd b b'
 | exact absurd c' c
 | exact absurd c c'
 | exact absurd f' f
 | exact absurd f f'
 | exact absurd i' i
 | exact absurd i i'
theorem DckR.ok {d:Nat}{t:Tm}{j:List ByteArray}{M:Prop}{e:Int}(x:DckR d t j M e)(h:e=0):lJ cC d t/\M/\(∀ i,i<j.length->cC (j.getD i ⟨#[]⟩)=true)/\(∀ s,fr d t s->s∈j)/\j.Nodup:=by
 rcases x with ⟨a,rfl⟩|⟨a,⟨b,rfl⟩|⟨b,⟨c,rfl⟩|⟨c,⟨f,rfl⟩|⟨f,⟨i,rfl⟩|⟨i,rfl⟩⟩⟩⟩⟩
 ·cases h
 ·cases h
 ·cases h
 ·cases h
 ·cases h
 ·exact ⟨a,b,c,f,i⟩
theorem ri (d:Nat)(p:PTm)(t:Tm)(hd:d<=20)(D:Z9)(z:Nat)(l:List ByteArray)(B:NsD l)(O:Z9)(cu:Nat)(us:List Value)(V:List Nat)(bf:us.length<=10)(hus:∀ j,j<us.length->∃ A c,us.getD j undef=.slice A (V.getD j 0) c/\V.getD j 0<=1000000)(w:World)(h:Hp)(g:G w h)(hT:TmH d h p t)(hS:SmT1 je d t)(hN:SlO 1 dS ⟨#[]⟩ h D l)(hU:Sv O us h):CR 20 #[bu p,.slice D l.length z,.slice O us.length cu] w h (fun v _=>∃ e:Int,v=iV e/\DckR d t l (∀ j,j<us.length->V.getD j 0=l.length) e):=by
 have a:=((((sS g).add (K:=fun b=>TmH d b p t) hT).aS hN).aS hU);have bk:=B.len;refine go Tryz.func20 [(0,bu p),(1,qS D l.length z),(2,qS O us.length cu)] rfl (aD (lA 3 32 (bH p) a (fun b1 w2 h3 a=>lL a ae (ag (ab a [.o (bu p) 0 0 9] (lC 17 a (Co cC je EP d p t oM _ _ a.g a.f.r.1 hS.sm) ?_))))));rintro _ w4 h5 a ⟨ec,rfl,J⟩;cases L:((ec:Int) != (0:Int))
 .
  have bb:=aI L;refine lB 18 L (am (cK (cQ (ab a [.c,.v (nV us.length),.c] (a7 ?_)))));refine bY _ (CG.loop (fun I Γ X=>∃ (u:Nat)(b:Hp),I=us.length-u/\Γ=[(1,qS D l.length z),(3,pB b1),(19,qS O us.length cu),(20,nV us.length),(21,nV u)]/\SS w h X b [⟨b1,32,bH p⟩] [] [Sv O us,fun b=>SlO 1 dS ⟨#[]⟩ b D l,fun b=>TmH d b p t]/\u<=us.length/\(∀ i,i<u->V.getD i 0=l.length)) _ ⟨0,h5,rfl,rfl,a.to _ _,In _,(fun i hi=>absurd hi (Jl i))⟩ ?_);rintro _ _ w7 ⟨u,h8,hm9,rfl,a,hu,H⟩;refine aD ?_;cases za:(decide ((u:Int)<(us.length:Int)))
  .
   have zi:=oF za;refine lB 22 za (ag (cD (CG.exit ?_)))
   show CG _ _ _ _ _ _ _ _
   refine cQ (ab a [.c,.v (nV l.length)] ?_);cases zb:(decide ((20:Int)<(l.length:Int)))
   .
    have zj:=oF zb;refine lB 33 zb (am (cK (cQ (ab a [.c,.v (nV l.length),.c] (a7 ?_)))));refine bY _ (CG.loop (fun I Γ X=>∃ (k:Nat)(b:Hp),I=l.length-k/\Γ=[(1,qS D l.length z),(3,pB b1),(34,qS D l.length z),(35,nV l.length),(36,nV k)]/\SS w h X b [⟨b1,32,bH p⟩] [] [Sv O us,fun b=>SlO 1 dS ⟨#[]⟩ b D l,fun b=>TmH d b p t]/\k<=l.length/\(∀ i,i<k->cC (l.getD i ⟨#[]⟩)=true)) _ ⟨0,h8,rfl,rfl,a.to _ _,In _,(fun i hi=>absurd hi (Jl i))⟩ ?_);rintro _ _ _ ⟨k,_,bd,rfl,a,hk,hal⟩;refine aD ?_;cases zc:(decide ((k:Int)<(l.length:Int)))
    .
     have zk:=oF zc;refine lB 37 zc (ag (cD (CG.exit ?_)))
     show CG _ _ _ _ _ _ _ _
     have y:∀ i,i<l.length->cC (l.getD i ⟨#[]⟩)=true:=fun i hi=>hal i oM
     refine ab a ae (lC 45 a (lg B y D z _ _ a.g a.f.2.1) ?_);rintro _ _ _ a ⟨bm,rfl,hM⟩;replace a:=(a.add (K:=fun b=>MapS b bm (pU l)) hM);refine lL a ae (ag ?_);have C:=vx hS J oM;have Y:=C.1;refine ab a [.o (bu p) 0 0 9] (lC 47 a (Ek (fun s=>cC s=true) (fun s_ b=>by have q_:=ng b;unfold je at q_;omega) d hd p t _ _ a.g a.f.r.2.1 Y) ?_);rintro _ _ zo a ⟨nA,nc,x,rfl,hnc,hnl,hnS,U⟩;replace a:=a.aS hnS;refine lL a [.v (nV x.length),.c] (a7 ?_);refine bY _ (CG.loop (fun I Γ X=>∃ (j:Nat)(b:Hp),I=x.length-j/\Γ=[(1,qS D l.length z),(11,.map (some bm)),(47,qS nA x.length nc),(48,nV x.length),(49,nV j)]/\SS w h X b [⟨b1,32,bH p⟩] [] [fun b=>SlO 1 dS ⟨#[]⟩ b nA x,fun b=>MapS b bm (pU l),Sv O us,fun b=>SlO 1 dS ⟨#[]⟩ b D l,fun b=>TmH d b p t]/\j<=x.length/\(∀ i,i<j->x.getD i ⟨#[]⟩∈l)) _ ⟨0,zo,rfl,rfl,a.to _ _,In _,(fun i hi=>absurd hi (Jl i))⟩ ?_);rintro _ _ _ ⟨j,zp,bl,rfl,a,hj,S⟩;refine aD ?_;cases zd:(decide ((j:Int)<(x.length:Int)))
     .
      have zl:=oF zd;refine lB 50 zd (ag (cD (CG.exit ?_)))
      show CG _ _ _ _ _ _ _ _
      refine cQ ?_;have Q:∀ s,fr d t s->s∈l:=fun s_ b=>by obtain ⟨F,M,e_⟩:=Bu ((U s_).2 b);rw[<-e_];exact S F oM
      refine ab a ae (Ht 63 107 0 9 3 a a.f.2.1 ?_);refine lL a [.c,.v (nV l.length)] ?_;cases ze:((((pU l).length:Nat):Int) != (l.length:Int))
      .
       have zm:=aI ze;exact lB 66 ze (am (cK (ab a ae (ah a [] (iV 0) (⟨_,rfl,.inr ⟨C,.inr ⟨(fun F M=>H F oM),.inr ⟨y,.inr ⟨Q,.inr ⟨(wt B).2 oM,rfl⟩⟩⟩⟩⟩⟩)))))
      have zm:=aU ze;exact lB 66 ze (ar (ab a ae (ah a [] (iV 8) (⟨_,rfl,.inr ⟨C,.inr ⟨(fun F M=>H F oM),.inr ⟨y,.inr ⟨Q,.inl ⟨fun b=>by have:=(wt B).1 b;omega,rfl⟩⟩⟩⟩⟩⟩))))
     have zl:=oT zd;refine lB 50 zd (ag (bZ (cK (cQ (kZ (aD (lX 51 nA x.length nc 1 (j:Nat) j ((a.f.1).ok oM) ?_)))))));refine lH 52 (.string (x.getD j ⟨#[]⟩)) a ((a.f.1).el j oM) (lL a ae (aK (lL a aE (FB 56 107 9 3 (x.getD j ⟨#[]⟩) true (iV (vN l (x.getD j ⟨#[]⟩))) ((decide (x.getD j ⟨#[]⟩∈l))) a a.f.2.1 ?_ (hf:=(by rcases Hu B y (x.getD j ⟨#[]⟩) with ⟨F,e1_,e2_⟩|⟨e1_,e2_,e3_⟩;exact .inl ⟨F,e1_,e2_⟩;exact .inr ⟨e1_,e2_,fun _=>by rw[e3_];kernel_rfl⟩))))));refine lL a [.c,.v (iV (vN l (x.getD j ⟨#[]⟩))),.v (.bool (decide (x.getD j ⟨#[]⟩∈l))),.c,.c] (aK (lL a ae ?_));cases zg:(!(decide (x.getD j ⟨#[]⟩∈l)))
     .
      refine lB 60 zg (am (cK (kQ (bB 61 ((j:Nat)+1) (j+1) ?_))));refine lL a ae (lD ?_);intro a_ Z;refine ⟨_,_,?_,⟨j+1,zp,rfl,rfl,a.to _ _,oM,(fun i hi=>by rcases J5.1 hi with b|rfl;exact S i b;exact oT (by first|assumption|exact Fz aM))⟩,Z.to _ kR⟩
      omega
     exact lB 60 zg (ar (ab a ae (ah a [] (iV 11) (⟨_,rfl,.inr ⟨C,.inr ⟨(fun F M=>H F oM),.inr ⟨y,.inl ⟨fun b=>oF (by first|assumption|exact G5 aM) (b _ ((U _).1 (DT oM))),rfl⟩⟩⟩⟩⟩))))
    have zk:=oT zc;refine lB 37 zc (ag (bZ (cK (cQ (kZ (aD (lX 38 D l.length z 1 (k:Nat) k ((a.f.2.1).ok oM) ?_)))))));refine lH 39 (.string (l.getD k ⟨#[]⟩)) a ((a.f.2.1).el k oM) (lL a ae (aK (lL a ae (lC 41 a (EP (l.getD k ⟨#[]⟩) (B.small k oM) _ _ a.g) ?_))));rintro _ _ zq a ⟨bi,rfl,W⟩;cases bn:(bi)
    .
     exact lL a [.v qT] (ar (ab a ae (ah a [] (iV 11) (⟨_,rfl,.inr ⟨vx hS J oM,.inr ⟨(fun F M=>H F oM),.inl ⟨(fun b=>by have q_:=b k oM;rw[<-W] at q_;have q2_:bi=false:=aM;rw[q_] at q2_;cases q2_),rfl⟩⟩⟩⟩))))
    refine lL a [.v qF] (am (cK (kQ (bB 43 ((k:Nat)+1) (k+1) ?_))));refine lL a ae (lD ?_);intro a_ Z;refine ⟨_,_,?_,⟨k+1,zq,rfl,rfl,a.to _ _,oM,(fun i hi=>by rcases J5.1 hi with b|rfl;exact hal i b;rw[<-W];first|assumption|exact Fz aM)⟩,Z.to _ kR⟩
    omega
   have zj:=oT zb;refine lB 33 zb (ar (ab a ae (lN (kX ?_))))
   exfalso;have:=B.len;omega
  have zi:=oT za;refine lB 22 za (ag (bZ (cK (cQ (kZ (aD (lX 23 O us.length cu 1 (u:Nat) u ((a.f.1).ok oM) ?_)))))));obtain ⟨Uj,uj,huj,hmj⟩:=hus u oM;refine HH 24 ((us.getD u undef)) a ((a.f.1).el u oM) huj (lL a ae (aK (lL a [.c,.v (nV (V.getD u 0)),.c,.v (nV l.length)] ?_)));cases zf:((((V.getD u 0):Nat):Int) != (l.length:Int))
  .
   have zn:=aI zf;refine lB 29 zf (am (cK (kQ (bB 30 ((u:Nat)+1) (u+1) ?_))));refine lL a ae (lD ?_);intro a_ Z;refine ⟨_,_,?_,⟨u+1,h8,rfl,rfl,a.to _ _,oM,(fun i hi=>by rcases J5.1 hi with b|rfl;exact H i b;omega)⟩,Z.to _ kR⟩
   omega
  have zn:=aU zf;exact lB 29 zf (ar (ab a ae (ah a [] (iV 5) (⟨_,rfl,.inr ⟨vx hS J oM,.inl ⟨fun b=>by have:=b u oM;omega,rfl⟩⟩⟩))))
 have bb:=aU L;exact lB 18 L (ar (ab a ae (ah a [] (iV 1) (⟨_,rfl,.inl ⟨fun b=>by have:=Fm J ⟨b.1,b.2⟩;omega,rfl⟩⟩))))
theorem DckR.cg {d:Nat}{t:Tm}{b:List ByteArray}{M a:Prop}{e:Int}(x:DckR d t b M e)(h:M↔a):DckR d t b a e:=propext h▸x
theorem rt (d:Nat)(p:PTm)(t:Tm)(H:d<=20)(l:Z9)(c:Nat)(a:List ByteArray)(f:NsD a)(y:Z9)(z:Nat)(B:Z9)(b C:Nat)(i:b<=1000000)(w:World)(h:Hp)(g:G w h)(D:TmH d h p t)(J:SmT1 je d t)(I:SlO 1 dS ⟨#[]⟩ h l a)(F:Sv (y) ([.slice B b C]:List Value) h):Calls Tryz.prog 20 #[bu p,.slice l a.length c,.slice y 1 z] w (Ret w h (fun v _=>∃ e:Int,v=iV e/\DckR d t a (b=a.length) e)) :=
 (ri d p t H l c a f y z [.slice B b C] [b] (y7 rfl) (fun j o=>by match j,o with|0,_=>exact ⟨_,_,rfl,i⟩) w h g D J I F).mono fun e w' ⟨v,K,e1,u,x,e2,k⟩=>⟨v,K,e1,u,x,e2,k.cg ⟨fun h=>h 0 (Iq _),fun h j o=>by match j,o with|0,_=>exact h⟩⟩
theorem sa (d:Nat)(p:PTm)(t:Tm)(K:d<=20)(y:Z9)(f:Nat)(a:List ByteArray)(i:NsD a)(B:Z9)(C:Nat)(F:Z9)(b H:Nat)(D:Z9)(c u1:Nat)(l:b<=1000000)(o:c<=1000000)(w:World)(h:Hp)(g:G w h)(I:TmH d h p t)(M:SmT1 je d t)(L:SlO 1 dS ⟨#[]⟩ h y a)(J:Sv (B) ([.slice F b H,.slice D c u1]:List Value) h):Calls Tryz.prog 20 #[bu p,.slice y a.length f,.slice B 2 C] w (Ret w h (fun v _=>∃ e:Int,v=iV e/\DckR d t a (b=a.length/\c=a.length) e)) :=
 (ri d p t K y f a i B C [.slice F b H,.slice D c u1] [b,c] (y7 rfl) (fun j z=>by match j,z with|0,_=>exact ⟨_,_,rfl,l⟩|1,_=>exact ⟨_,_,rfl,o⟩) w h g I M L J).mono fun e w' ⟨v,O,e1,u,x,e2,k⟩=>⟨v,O,e1,u,x,e2,k.cg ⟨fun h=>⟨h 0 (Iq _),h 1 (nR 2)⟩,fun h j z=>by match j,z with|0,_=>exact h.1|1,_=>exact h.2⟩⟩
def DrunR (d:Nat)(t:Tm)(ns:List ByteArray)(fs:List Rat)(e:Int)(q:Rat)(G_:List Rat):Prop :=
  ∃ ec,DckR d t ns (fs.length=ns.length) ec/\((ec≠0/\e=ec/\q=0/\G_=[])\/(ec=0/\(e,q,G_)=ba (az ns) fs d t))
theorem kv {d:Nat}{t:Tm}{a:List ByteArray}{M:Prop}(h:lJ cC d t/\M/\(∀ i,i<a.length->cC (a.getD i ⟨#[]⟩)=true)/\(∀ s,fr d t s->s∈a)/\a.Nodup):WfT1 (fun s=>s∈a) d t :=
 WfT1.imp (fun _ x=>x.2) (h.1.1.names h.2.2.2.1)
theorem Cq {a:List ByteArray}{fs:List Rat}(d:NsD a)(b:a.Nodup)(h:fs.length=a.length)(s:ByteArray)(c:s∈a):az a s<fs.length/\∃ i,Instr.findNow .string (.string s) (pU a) 0=some (some (i,.int .i64 (az a s:Nat))):=by
 have f:a≠nF:=fun e=>by subst e;exact absurd b kD
 refine ⟨by rw[h];exact (sf c).1,?_⟩
 unfold pU;rw[if_neg f]
 rcases Cd b s with ⟨i,e1,_⟩|⟨_,e2,_⟩
 ·exact ⟨i,by rw[e1,qR c]⟩
 ·exact absurd c (oF e2)
theorem FC (d:Nat)(p:PTm)(t:Tm)(Y:d<=20)(H:Z9)(z:Nat)(j:List ByteArray)(B:NsD j)(fs:List Rat)(x:Z9)(y:Nat)(U:fs.length<=1000)(hq:∀ i,LQ 1 (fs.getD i 0))(w:World)(h:Hp)(g:G w h)(S:TmH d h p t)(hS:SmT1 je d t)(Z:SlO 1 dS ⟨#[]⟩ h H j)(W:Sq x fs h)(Q:Tab h):CR 26 #[bu p,.slice H j.length z,.slice x fs.length y] w h (fun v h1=>∃ (e:Int)(q:Rat)(A_:Z9)(c_:Nat)(G_:List Rat),v=.tuple #[nS q A_ G_.length c_,iV e]/\Sq A_ G_ h1/\DrunR d t j fs e q G_):=by
 have a:=(((((sS g).add (K:=fun F=>TmH d F p t) S).aS Z).aS W).add (K:=fun F=>Tab F) Q);refine go Tryz.func26 [(0,bu p),(1,qS H j.length z),(2,qS x fs.length y)] rfl (aD (lA 3 32 (bH p) a (fun b1 w2 h3 a=>lA 6 77 ([qF,uV 0,eS,uV 0,eS,sZ]) a (fun b4 w5 h6 a=>lL a ae (ag (ab a [.o (bu p) 1 0 9,.c,.c] (lR 13 46 1 ([qS x fs.length y]) a (fun O w8 h9 a=>?_))))))));replace a:=a.aS (SlO.of_flat (sz:=1) (f:=vc) (d:=undef) (b:=O) (o:=0) (l:=([qS x fs.length y]:List Value)) (fun _=>rfl) a.f.1);refine lC 14 a (rt d p t Y H z j B (sB O) 1 x fs.length y oM _ _ a.g a.f.q.2.1 hS a.f.q.1 a.f.1) ?_;rintro _ _ _ a ⟨J,rfl,C⟩;refine lL a ae (aK (lL a ae ?_));cases I:((J:Int) != (0:Int))
 .
  have V:=aI I;refine lB 16 I (am (cK ?_));have u:=C.ok oM;refine ab a [.c,.v (.agg #[qS x fs.length y]),.v (.iface 128 (.agg #[qS x fs.length y])),.c] (lC 23 a (lg B u.2.2.1 H z _ _ a.g a.f.q.1) ?_);rintro _ _ _ a ⟨D,rfl,hM⟩;replace a:=(a.add (K:=fun F=>MapS F D (pU j)) hM);refine lL a [.v (.agg #[.iface 128 (.agg #[qS x fs.length y]),.map (some D),qF])] (lA 9 132 ([.nilIface,.map none,qF]) a (fun X _ _ a=>lP 0 0 ([.iface 128 (.agg #[qS x fs.length y]),.map (some D),qF]) a (fun _ a=>aK (lL a [.o (.agg #[.iface 128 (.agg #[qS x fs.length y]),.map (some D),qF]) 0 0 3,.o (bu p) 2 0 9] (lC 27 a (Ct (fun s=>s∈j) (az j) fs x y U D (pU j) hq (Cq B u.2.2.2.2 u.2.1) d p t _ _ oM a.g a.f.q.r.1 (kv u) u.1.2 a.f.q.1 a.f.1 a.f.r.2.1) ?_)))));rintro _ _ _ a ⟨M,cg,rfl,L⟩;replace a:=a.aS L;exact lL a [.v (qY ((ba (az j) fs d t).2.1) M (((ba (az j) fs d t).2.2).length) cg),.v (iV ((ba (az j) fs d t).1))] (lP 1 0 (qZ ((ba (az j) fs d t).2.1) M (((ba (az j) fs d t).2.2).length) cg) a (fun _ a=>lL a ae (ah a [(1,0,6)] (.tuple #[qY ((ba (az j) fs d t).2.1) M (((ba (az j) fs d t).2.2).length) cg,iV ((ba (az j) fs d t).1)]) (⟨_,_,_,_,_,rfl,a.f.1,J,C,.inr ⟨by omega,rfl⟩⟩))))
 have V:=aU I;exact lB 16 I (ar (ab a [.v (.agg #[qF,uV 0,eS,uV 0,eS,sZ]),.c] (lP 0 0 ([qF,uV 0,eS,uV 0,eS,sZ]) a (fun _ a=>lL a ae (ah a [(0,0,6)] (.tuple #[.agg #[qF,uV 0,eS,uV 0,eS,sZ],iV J]) (⟨_,0,none,0,[],rfl,SlO.nil,J,C,.inl ⟨by omega,rfl,rfl,rfl⟩⟩))))))
theorem Fd {d k w:Nat}(a:d<=6)(h:k*w<=1000)(hk:k<=12):k*(2*(4*(2^d*w)-3)+2)+1<=1400000:=by
 have h1:2^d<=64:=Ay (n:=2) kD a;have c:k*(2*(4*(2^d*w)-3)+2)<=k*(8*(2^d*w)+2):=A5 k oM;have b:k*(8*(2^d*w)+2)=8*(2^d*(k*w))+k*2:=by rw[Nat.mul_add,Js k 8,Js k (2^d)]
 have e:2^d*(k*w)<=64*1000:=H9 h1 h
 omega
theorem Av (ok:ByteArray->Prop)(ix:ByteArray->Nat)(fs ws:List Rat)(e:Z9)(j:Nat)(b:Z9)(l:Nat)(n:Nat)(L:n<=12)(Q:fs.length<=1000)(F:ws.length=fs.length)(i:Nat)(u:List MapEntry)(d:Nat)(z:Int)(q:Rat)(s:ByteArray)(A:Z9)(c:Nat)(ps:List PTm)(ks:List Tm)(w:World)(h:Hp)(g:G w h)(C:SlO 9 bH bI h A ps)(D:Sq e fs h)(J:Sq b ws h)(hM:MapS h i u):CR 58 #[.agg #[.iface 112 (.agg #[.slice e fs.length j,.slice b ws.length l,nV n]),.map (some i),.bool true],bu ⟨1,z,q,s,A,ps.length,c⟩] w h (fun v h1=>∃ (x:Z9)(c_:Nat),v=.tuple #[.slice x (bg ix fs ws (n+1) (d+1) (.mk 1 z q s ks)).2.length c_,iV (bg ix fs ws (n+1) (d+1) (.mk 1 z q s ks)).1]/\Sq x (bg ix fs ws (n+1) (d+1) (.mk 1 z q s ks)).2 h1):=by
 have a:=(((((sS g).aS C).aS D).aS J).add (K:=fun B=>MapS B i u) hM);refine go Tryz.func58 [(0,.agg #[.iface 112 (.agg #[qS e fs.length j,qS b ws.length l,nV n]),.map (some i),qT]),(1,bu ⟨1,z,q,s,A,ps.length,c⟩)] rfl (aD (lA 2 116 ([.iface 112 (.agg #[qS e fs.length j,qS b ws.length l,nV n]),.map (some i),qT]) a (fun I w2 U a=>lA 3 32 (bH ⟨1,z,q,s,A,ps.length,c⟩) a (fun y S M a=>lL a aE (aK (lL a ae (ag (ab a [.v (pB y),.o (iV 1) 0 0 1] (a7 (ab a [.v qT,.c] (ar (ab a [.v (pB I),.o (.iface 112 (.agg #[qS e fs.length j,qS b ws.length l,nV n])) 1 0 1,.v (qP y 2),.o (qv q) 0 2 5] (lC 19 a (eP e fs.length j b ws.length l n L q _ _ a.g) ?_)))))))))))));rintro _ V O a ⟨H,rfl,p⟩;replace a:=a.aS p;exact lL a aE (ah a [] (.tuple #[qS (sB H) ((bx (n+1) q).length) (n+1),iV 0]) (⟨_,_,rfl,a.f.1⟩))
theorem xI (ok:ByteArray->Prop)(ix:ByteArray->Nat)(fs ws:List Rat)(j:Z9)(l:Nat)(e:Z9)(p:Nat)(n:Nat)(Q:n<=12)(X:fs.length<=1000)(L:ws.length=fs.length)(b:Nat)(u:List MapEntry)(d:Nat)(z:Int)(q:Rat)(s:ByteArray)(A:Z9)(c:Nat)(ps:List PTm)(ks:List Tm)(y:ix s<fs.length)(B:∃ i,Instr.findNow .string (.string s) u 0=some (some (i,nV (ix s))))(w:World)(h:Hp)(g:G w h)(I:SlO 9 bH bI h A ps)(J:Sq j fs h)(O:Sq e ws h)(hM:MapS h b u):CR 58 #[.agg #[.iface 112 (.agg #[.slice j fs.length l,.slice e ws.length p,nV n]),.map (some b),.bool true],bu ⟨2,z,q,s,A,ps.length,c⟩] w h (fun v h1=>∃ (C:Z9)(c_:Nat),v=.tuple #[.slice C (bg ix fs ws (n+1) (d+1) (.mk 2 z q s ks)).2.length c_,iV (bg ix fs ws (n+1) (d+1) (.mk 2 z q s ks)).1]/\Sq C (bg ix fs ws (n+1) (d+1) (.mk 2 z q s ks)).2 h1):=by
 have a:=(((((sS g).aS I).aS J).aS O).add (K:=fun H=>MapS H b u) hM);refine go Tryz.func58 [(0,.agg #[.iface 112 (.agg #[qS j fs.length l,qS e ws.length p,nV n]),.map (some b),qT]),(1,bu ⟨2,z,q,s,A,ps.length,c⟩)] rfl (aD (lA 2 116 ([.iface 112 (.agg #[qS j fs.length l,qS e ws.length p,nV n]),.map (some b),qT]) a (fun F w2 Z a=>lA 3 32 (bH ⟨2,z,q,s,A,ps.length,c⟩) a (fun D Y V a=>lL a aE (aK (lL a ae (ag (ab a [.v (pB D),.o (iV 2) 0 0 1] (a7 (ab a [.v qF,.c] (am (ab a [.v qT,.c] (ar (ab a [.v (pB F),.o (.iface 112 (.agg #[qS j fs.length l,qS e ws.length p,nV n])) 1 0 1,.v (qP F 1),.o (.map (some b)) 1 1 1,.v (qP D 7),.o (.string s) 0 7 1] (FB 28 107 9 3 (s) false (nV (ix s)) (true) a a.f.1 ?_ (hf:=(by obtain ⟨U,S⟩:=B;exact .inl ⟨U,S,rfl⟩)))))))))))))))));refine lC 29 a (BW j fs.length l e ws.length p n Q fs ws rfl rfl (ix s) y oM _ _ a.g a.f.r.1 a.f.2.1) ?_;rintro _ w7 W a ⟨M,rfl,x⟩;replace a:=a.aS x;exact lL a aE (ah a [] (.tuple #[qS (sB M) ((gk (n+1) (fs.getD (ix s) 0) (ws.getD (ix s) 0)).length) (n+1),iV 0]) (⟨_,_,rfl,a.f.1⟩))
theorem Br  (ok:ByteArray->Prop)(ix:ByteArray->Nat)(fs ws:List Rat)(j:Z9)(u:Nat)(i:Z9)(y:Nat)(n:Nat)(hn:n<=12)(hm:fs.length<=1000)(hmw:ws.length=fs.length)(e:Nat)(V:List MapEntry)(d:Nat)(ih:∀ (p:PTm) (t:Tm) (w:World) (h:Hp),G w h->TmH d h p t->WfT1 ok d t->bD d t<=1000->Sq j fs h->Sq i ws h->MapS h e V->Tab h->Calls Tryz.prog 58 #[.agg #[.iface 112 (.agg #[.slice j fs.length u,.slice i ws.length y,nV n]),.map (some e),.bool true],bu p] w (Ret w h (fun v h1=>∃ (C:Z9)(c_:Nat),v=.tuple #[.slice C (bg ix fs ws (n+1) d t).2.length c_,iV (bg ix fs ws (n+1) d t).1]/\Sq C (bg ix fs ws (n+1) d t).2 h1)))(op z:Int)(q:Rat)(s:ByteArray)(A:Z9)(c:Nat)(B:PTm)(b:Tm)(F:WfT1 ok d b)(J:bD d b<=1000)(hz1:1<=bD d b/\SzR (4*(2^d*bD d b)-3) (bg ix fs ws (n+1) d b).2)(I:d<=6)(hop:3<=op/\op<=13)(har:fF op=1)(O : -12<=z/\z<=12)(hzg:op=8->z.natAbs*bD d b<=1000)(w:World)(h:Hp)(g:G w h)(hK:SlO 9 bH bI h A ([B]:List PTm))(hp1:TmH d h B b)(hF:Sq j fs h)(hV:Sq i ws h)(hM:MapS h e V)(tb:Tab h):CR 58 #[.agg #[.iface 112 (.agg #[.slice j fs.length u,.slice i ws.length y,nV n]),.map (some e),.bool true],bu ⟨op,z,q,s,A,1,c⟩] w h (fun v h1=>∃ (C:Z9)(c_:Nat),v=.tuple #[.slice C (bg ix fs ws (n+1) (d+1) (.mk op z q s ([b]:List Tm))).2.length c_,iV (bg ix fs ws (n+1) (d+1) (.mk op z q s ([b]:List Tm))).1]/\Sq C (bg ix fs ws (n+1) (d+1) (.mk op z q s ([b]:List Tm))).2 h1):=by
 have a:=(((((((sS g).aS hK).add (K:=fun x=>TmH d x B b) hp1).aS hF).aS hV).add (K:=fun x=>MapS x e V) hM).add (K:=fun x=>Tab x) tb);have hln:([B]:List PTm).length=1:=rfl;have hac:=aN op;have l:2^d*bD d b<=64000:=e4 (H9 (Ay kD I) J) kD;have M:op=8->z.natAbs*(2*(4*(2^d*bD d b)-3)+2)+1<=1400000:=fun x=>Fd I (hzg x) oM
 refine go Tryz.func58 [(0,.agg #[.iface 112 (.agg #[qS j fs.length u,qS i ws.length y,nV n]),.map (some e),qT]),(1,bu ⟨op,z,q,s,A,1,c⟩)] rfl (aD (lA 2 116 ([.iface 112 (.agg #[qS j fs.length u,qS i ws.length y,nV n]),.map (some e),qT]) a (fun b1 w2 h3 a=>lA 3 32 (bH ⟨op,z,q,s,A,1,c⟩) a (fun Z w5 h6 a=>lL a aE (aK (lL a ae (ag (ab a [.v (pB Z),.o (iV op) 0 0 1] (a7 (aD ?_))))))))));have D:((op:Int) == (1:Int))=false:=fY oM;have bb:=aq D;refine lB 14 D (lL a ae (am (aD ?_)));have H:((op:Int) == (2:Int))=false:=fY oM;have bd:=aq H;refine lB 21 H (lL a ae (am (cK (cQ (cR 9 [] mixed a ai ?_)))));refine eO 0 31 [(1,0,3)] (.agg #[.iface 112 (.agg #[qS j fs.length u,qS i ws.length y,nV n]),.map (some e),qT]) a (eV 1 32 (qP Z 8) (eO 2 33 [(0,8,1)] (qS A 1 c) a (eX 3 34 A 1 c 9 0 0 ((a.f.q.2.1).ok oM) (eH 4 35 (bu (([B]:List PTm).getD 0 bI)) a ((a.f.q.2.1).el 0 oM) (eC 5 36 a (fun _ _ a=>ih (([B]:List PTm).getD 0 bI) b _ _ a.g a.f.q.1 F J a.f.r.2.1 a.f.r.1 a.f.2.1 a.f.1) ?_)))));rintro _ _ _ w9 _ a ⟨S,c1,rfl,hS1⟩;replace a:=a.aS hS1;refine eV 6 30 (.tuple #[qS S ((bg ix fs ws (n+1) d b).2.length) c1,iV ((bg ix fs ws (n+1) d b).1)]) (eV 7 37 (qS S ((bg ix fs ws (n+1) d b).2.length) c1) (eV 8 38 (iV ((bg ix fs ws (n+1) d b).1)) (bA a (fun _ _ a=>tV 9 7 (qS S ((bg ix fs ws (n+1) d b).2.length) c1) (tV 10 8 (iV ((bg ix fs ws (n+1) d b).1)) (tN (cQ (ab a ae ?_))))))));cases U:(((bg ix fs ws (n+1) d b).1:Int) != (0:Int))
 .
  have zc:=aI U;refine lB 40 U (am (cK (cQ (ab a [.v (qP Z 8),.o (qS A 1 c) 0 8 1,.v (iV 1),.v qT] (ar (kQ (lL a [.o (.agg #[.iface 112 (.agg #[qS j fs.length u,qS i ws.length y,nV n]),.map (some e),qT]) 1 0 3,.o (bu ⟨op,z,q,s,A,1,c⟩) 0 0 9,.c] (lC 51 a (xd j fs.length u i ws.length y n hn e op z q s A 1 c (bg ix fs ws (n+1) d b).2 S c1 (eM F oM) (4*(2^d*bD d b)-3) (hz1).2 (by have:=l;omega) oM (fun _=>O) (by have:=l;omega) M _ _ a.g a.f.1 a.f.2.1) ?_))))))));rintro _ _ _ a ⟨W,Ar,cr,rfl,X,Y⟩;replace a:=a.aS X;refine lL a [.c,.v (qS Ar W.length cr),.v (iV (dO op z ((bg ix fs ws (n+1) d b).2.getD 0 0) 0)),.c,.c] (ag (ab a ae ?_));cases Q:(((dO op z ((bg ix fs ws (n+1) d b).2.getD 0 0) 0):Int) != (0:Int))
  .
   have zd:=aI Q;exact lB 76 Q (am (cK (ab a dG (ah a [] (.tuple #[qS Ar W.length cr,iV 0]) (by have L:=Y oM;rw[kI oM oM,iN oM rfl (by show dO op z _ 0=0;omega),<-L];exact ⟨_,_,rfl,a.f.1⟩)))))
  have zd:=aU Q;refine lB 76 Q (ar (ab a ll (lN (bY [(4,sZ),(5,iV (dO op z ((bg ix fs ws (n+1) d b).2.getD 0 0) 0)),(7,qS Ar W.length cr)] ?_))));exact kX (a.ret [] (.tuple #[sZ,iV (dO op z ((bg ix fs ws (n+1) d b).2.getD 0 0) 0)]) (by rw[kI oM oM,ja oM rfl (by show dO op z _ 0≠0;omega)];exact ⟨none,0,rfl,SlO.nil⟩))
 have zc:=aU U;exact lB 40 U (ar (ab a ll (ah a [] (.tuple #[sZ,iV ((bg ix fs ws (n+1) d b).1)]) (by rw[kI oM oM,iQ oM];exact ⟨none,0,rfl,SlO.nil⟩))))
theorem BG  (ok:ByteArray->Prop)(ix:ByteArray->Nat)(fs ws:List Rat)(l:Z9)(x:Nat)(j:Z9)(D:Nat)(n:Nat)(hn:n<=12)(hm:fs.length<=1000)(hmw:ws.length=fs.length)(i:Nat)(es:List MapEntry)(d:Nat)(ih:∀ (p:PTm) (t:Tm) (w:World) (h:Hp),G w h->TmH d h p t->WfT1 ok d t->bD d t<=1000->Sq l fs h->Sq j ws h->MapS h i es->Tab h->Calls Tryz.prog 58 #[.agg #[.iface 112 (.agg #[.slice l fs.length x,.slice j ws.length D,nV n]),.map (some i),.bool true],bu p] w (Ret w h (fun v h1=>∃ (H:Z9)(c_:Nat),v=.tuple #[.slice H (bg ix fs ws (n+1) d t).2.length c_,iV (bg ix fs ws (n+1) d t).1]/\Sq H (bg ix fs ws (n+1) d t).2 h1)))(op z:Int)(q:Rat)(s:ByteArray)(A:Z9)(c:Nat)(u:PTm)(e:Tm)(V:WfT1 ok d e)(J:bD d e<=1000)(hz1:1<=bD d e/\SzR (4*(2^d*bD d e)-3) (bg ix fs ws (n+1) d e).2)(y:PTm)(b:Tm)(L:WfT1 ok d b)(S:bD d b<=1000)(hz2:1<=bD d b/\SzR (4*(2^d*bD d b)-3) (bg ix fs ws (n+1) d b).2)(U:d<=6)(hop:3<=op/\op<=13)(har:fF op=2)(bf : -12<=z/\z<=12)(w:World)(h:Hp)(g:G w h)(hK:SlO 9 bH bI h A ([u,y]:List PTm))(hp1:TmH d h u e)(hp2:TmH d h y b)(hF:Sq l fs h)(hV:Sq j ws h)(hM:MapS h i es)(tb:Tab h):CR 58 #[.agg #[.iface 112 (.agg #[.slice l fs.length x,.slice j ws.length D,nV n]),.map (some i),.bool true],bu ⟨op,z,q,s,A,2,c⟩] w h (fun v h1=>∃ (H:Z9)(c_:Nat),v=.tuple #[.slice H (bg ix fs ws (n+1) (d+1) (.mk op z q s ([e,b]:List Tm))).2.length c_,iV (bg ix fs ws (n+1) (d+1) (.mk op z q s ([e,b]:List Tm))).1]/\Sq H (bg ix fs ws (n+1) (d+1) (.mk op z q s ([e,b]:List Tm))).2 h1):=by
 have a:=((((((((sS g).aS hK).add (K:=fun F=>TmH d F u e) hp1).add (K:=fun F=>TmH d F y b) hp2).aS hF).aS hV).add (K:=fun F=>MapS F i es) hM).add (K:=fun F=>Tab F) tb);have hln:([u,y]:List PTm).length=2:=rfl;have hac:=aN op;have B:2^d*bD d e<=64000:=e4 (H9 (Ay kD U) J) kD;have C:2^d*bD d b<=64000:=e4 (H9 (Ay kD U) S) kD;refine go Tryz.func58 [(0,.agg #[.iface 112 (.agg #[qS l fs.length x,qS j ws.length D,nV n]),.map (some i),qT]),(1,bu ⟨op,z,q,s,A,2,c⟩)] rfl (aD (lA 2 116 ([.iface 112 (.agg #[qS l fs.length x,qS j ws.length D,nV n]),.map (some i),qT]) a (fun b1 w2 h3 a=>lA 3 32 (bH ⟨op,z,q,s,A,2,c⟩) a (fun M w5 h6 a=>lL a aE (aK (lL a ae (ag (ab a [.v (pB M),.o (iV op) 0 0 1] (a7 (aD ?_))))))))));have I:((op:Int) == (1:Int))=false:=fY oM;have bd:=aq I;refine lB 14 I (lL a ae (am (aD ?_)));have W:((op:Int) == (2:Int))=false:=fY oM;have bb:=aq W;refine lB 21 W (lL a ae (am (cK (cQ (cR 9 [] mixed a ai ?_)))));refine eO 0 31 [(1,0,3)] (.agg #[.iface 112 (.agg #[qS l fs.length x,qS j ws.length D,nV n]),.map (some i),qT]) a (eV 1 32 (qP M 8) (eO 2 33 [(0,8,1)] (qS A 2 c) a (eX 3 34 A 2 c 9 0 0 ((a.f.q.r.1).ok oM) (eH 4 35 (bu (([u,y]:List PTm).getD 0 bI)) a ((a.f.q.r.1).el 0 oM) (eC 5 36 a (fun _ _ a=>ih (([u,y]:List PTm).getD 0 bI) e _ _ a.g a.f.q.2.1 V J a.f.r.2.1 a.f.r.1 a.f.2.1 a.f.1) ?_)))));rintro _ _ _ w9 _ a ⟨X,c1,rfl,hS1⟩;replace a:=a.aS hS1;refine eV 6 30 (.tuple #[qS X ((bg ix fs ws (n+1) d e).2.length) c1,iV ((bg ix fs ws (n+1) d e).1)]) (eV 7 37 (qS X ((bg ix fs ws (n+1) d e).2.length) c1) (eV 8 38 (iV ((bg ix fs ws (n+1) d e).1)) (bA a (fun _ _ a=>tV 9 7 (qS X ((bg ix fs ws (n+1) d e).2.length) c1) (tV 10 8 (iV ((bg ix fs ws (n+1) d e).1)) (tN (cQ (ab a ae ?_))))))));cases za:(((bg ix fs ws (n+1) d e).1:Int) != (0:Int))
 .
  have zd:=aI za;refine lB 40 za (am (cK (cQ (ab a [.v (qP M 8),.o (qS A 2 c) 0 8 1,.v (iV 2),.v qF] (am (cQ (cR 9 [] mixed a ai ?_)))))));refine eO 0 55 [(1,0,3)] (.agg #[.iface 112 (.agg #[qS l fs.length x,qS j ws.length D,nV n]),.map (some i),qT]) a (eV 1 56 (qP M 8) (eO 2 57 [(0,8,1)] (qS A 2 c) a (eX 3 58 A 2 c 9 1 1 ((a.f.q.r.2.1).ok oM) (eH 4 59 (bu (([u,y]:List PTm).getD 1 bI)) a ((a.f.q.r.2.1).el 1 oM) (eC 5 60 a (fun _ _ a=>ih (([u,y]:List PTm).getD 1 bI) b _ _ a.g a.f.q.2.1 L S a.f.q.1 a.f.r.2.1 a.f.r.1 a.f.2.1) ?_)))));rintro _ _ _ _ _ a ⟨Q,c2,rfl,hS2⟩;replace a:=a.aS hS2;refine eV 6 54 (.tuple #[qS Q ((bg ix fs ws (n+1) d b).2.length) c2,iV ((bg ix fs ws (n+1) d b).1)]) (eV 7 61 (qS Q ((bg ix fs ws (n+1) d b).2.length) c2) (eV 8 62 (iV ((bg ix fs ws (n+1) d b).1)) (bA a (fun _ _ a=>tV 9 9 (qS Q ((bg ix fs ws (n+1) d b).2.length) c2) (tV 10 10 (iV ((bg ix fs ws (n+1) d b).1)) (tN (bY [(2,pB b1),(3,pB M),(4,sZ),(5,iV 0),(6,sZ),(7,qS X ((bg ix fs ws (n+1) d e).2.length) c1),(8,iV ((bg ix fs ws (n+1) d e).1)),(9,qS Q ((bg ix fs ws (n+1) d b).2.length) c2),(10,iV ((bg ix fs ws (n+1) d b).1))] ?_)))))));refine cQ (ab a ae ?_);cases Z:(((bg ix fs ws (n+1) d b).1:Int) != (0:Int))
  .
   have ze:=aI Z;refine lB 64 Z (am (cK (kQ (lL a [.o (.agg #[.iface 112 (.agg #[qS l fs.length x,qS j ws.length D,nV n]),.map (some i),qT]) 1 0 3,.o (bu ⟨op,z,q,s,A,2,c⟩) 0 0 9,.c,.c] (lC 72 a (t8 l fs.length x j ws.length D n hn i op z q s A 2 c (bg ix fs ws (n+1) d e).2 X c1 (eM V oM) (4*(2^d*bD d e)-3) (hz1).2 (by have:=B;omega) (bg ix fs ws (n+1) d b).2 Q c2 (eM L oM) (4*(2^d*bD d b)-3) (hz2).2 (by have:=C;omega) oM (by have:=B;omega) (by have:=C;omega) _ _ a.g a.f.2.1 a.f.1 a.f.r.1) ?_)))));rintro _ _ _ a ⟨Lr,Ar,cr,rfl,hSr,hRr⟩;replace a:=a.aS hSr;refine lL a [.c,.v (qS Ar Lr.length cr),.v (iV (dO op z ((bg ix fs ws (n+1) d e).2.getD 0 0) ((bg ix fs ws (n+1) d b).2.getD 0 0))),.c,.c] (ag (ab a ae ?_));cases Y:(((dO op z ((bg ix fs ws (n+1) d e).2.getD 0 0) ((bg ix fs ws (n+1) d b).2.getD 0 0)):Int) != (0:Int))
   .
    have zf:=aI Y;exact lB 76 Y (am (cK (ab a dG (ah a [] (.tuple #[qS Ar Lr.length cr,iV 0]) (by have O:=hRr oM;rw[jN oM oM,iN oM oM oM,<-O];exact ⟨_,_,rfl,a.f.1⟩)))))
   have zf:=aU Y;exact lB 76 Y (ar (ab a ll (ah a [] (.tuple #[sZ,iV (dO op z ((bg ix fs ws (n+1) d e).2.getD 0 0) ((bg ix fs ws (n+1) d b).2.getD 0 0))]) (by rw[jN oM oM,ja oM oM oM];exact ⟨none,0,rfl,SlO.nil⟩))))
  have ze:=aU Z;exact lB 64 Z (ar (ab a ll (ah a [] (.tuple #[sZ,iV ((bg ix fs ws (n+1) d b).1)]) (by rw[jN oM oM,mH oM oM];exact ⟨none,0,rfl,SlO.nil⟩))))
 have zd:=aU za;exact lB 40 za (ar (ab a ll (ah a [] (.tuple #[sZ,iV ((bg ix fs ws (n+1) d e).1)]) (by rw[jN oM oM,iQ oM];exact ⟨none,0,rfl,SlO.nil⟩))))
theorem wy (ok:ByteArray->Prop)(ix:ByteArray->Nat)(fs ws:List Rat)(u:Z9)(y:Nat)(l:Z9)(B:Nat)(n:Nat)(I:n<=12)(C:fs.length<=1000)(b:ws.length=fs.length)(f:Nat)(j:List MapEntry)(X:∀ i,LQ 1 (fs.getD i 0))(D:∀ i,LQ 1 (ws.getD i 0))(o:∀ s,ok s->ix s<fs.length/\∃ i,Instr.findNow .string (.string s) j 0=some (some (i,nV (ix s)))):∀ (d:Nat) (p:PTm) (t:Tm) (w:World) (h:Hp),d<=7->G w h->TmH d h p t->WfT1 ok d t->bD d t<=1000->Sq u fs h->Sq l ws h->MapS h f j->Tab h->Calls Tryz.prog 58 #[.agg #[.iface 112 (.agg #[.slice u fs.length y,.slice l ws.length B,nV n]),.map (some f),.bool true],bu p] w (Ret w h (fun v h1=>∃ (U:Z9)(c_:Nat),v=.tuple #[.slice U (bg ix fs ws (n+1) d t).2.length c_,iV (bg ix fs ws (n+1) d t).1]/\Sq U (bg ix fs ws (n+1) d t).2 h1))
  | 0,_,_,_,_,_,_,x,_,_,_,_,_,_=>x.elim
  | d + 1,p,t,w,h,hd,g,x,wf,hw,hF,hV,hM,tb=>by
    obtain ⟨op,z,q,s,A,c,ps,ks,rfl,rfl,hc,J,a⟩:=x.open;obtain ⟨w1,w2,w3,Y,w5,w6,L,K,F⟩:=wf;replace w1:fF op=(ks.length:Nat):=w1;replace L : -12<=z:=L;replace K:z<=12:=K;replace F:∀ i,i<ks.length->WfT1 ok d (ks.getD i dD):=F;have hac:=aN op;have W:=fun p t w h=>wy ok ix fs ws u y l B n I C b f j X D o d p t w h oM
    have O:∀ t,WfT1 ok d t->1<=bD d t/\SzR (4*(2^d*bD d t)-3) (bg ix fs ws (n+1) d t).2:=fun t k1=>n3 (Iq n) X D k1
    rcases e7 w1 with rfl|⟨t1,rfl⟩|⟨t1,t2,rfl⟩
    . simp only[Ju] at w1
      by_cases o1:op=1
      . subst o1;exact Av ok ix fs ws u y l B n I C b f j d z q s A c ps [] w h g J hF hV hM
      . obtain rfl:op=2:=by omega
        exact xI ok ix fs ws u y l B n I C b f j d z q s A c ps [] (o s (Y rfl)).1 (o s (Y rfl)).2 w h g J hF hV hM
    . obtain ⟨M,rfl⟩:=JW.1 (show ps.length=1 from a.len)
      simp only[yf,Ju] at w1
      have H:WfT1 ok d t1:=F 0 (Iq _);have Q:bD d t1<=1000:=oe hw
      have S:op=8->z.natAbs*bD d t1<=1000:=fun e8=>by
        have e:bD (d+1) (.mk op z q s [t1])=cO op z*(bD d t1+0):=by rw[jc (show [t1].length≠0 from Jt _)];show _*(0+bD d t1)=_;rw[yH,yw]
        have e2:cO op z=aZ z:=by unfold cO;rw[if_neg oM,if_pos e8]
        rw[e,e2,yw] at hw
        refine e4 (yI _ ?_) hw
        unfold aZ;split<;>omega
      exact Br ok ix fs ws u y l B n I C b f j d W op z q s A c M t1 H Q (O t1 H) oM oM oM ⟨L,K⟩ S w h g J (a.at_ 0 (Iq _)) hF hV hM tb
    . obtain ⟨M,p2,rfl⟩:=sD (show ps.length=2 from a.len)
      simp only[yf,Ju] at w1
      have H:WfT1 ok d t1:=F 0 (Iq _);have V:WfT1 ok d t2:=F 1 (by show 1<2;decide);obtain ⟨Q,Z⟩:=oP hw;exact BG ok ix fs ws u y l B n I C b f j d W op z q s A c M t1 H Q (O t1 H) p2 t2 V Z (O t2 V) oM oM oM ⟨L,K⟩ w h g J (a.at_ 0 (Iq _)) (a.at_ 1 (by show 1<2;decide)) hF hV hM tb
def tz (d:Nat)(t:Tm)(ns:List ByteArray)(fs ws:List Rat)(n:Nat)(e:Int)(L_:List Rat):Prop :=
  ∃ ec,DckR d t ns (fs.length=ns.length/\ws.length=ns.length) ec/\((ec≠0/\e=ec/\L_=[])\/(ec=0/\(e,L_)=bg (az ns) fs ws (n+1) d t))
theorem kw (d:Nat)(p:PTm)(t:Tm)(V:d<=7)(D:Z9)(y:Nat)(b:List ByteArray)(B:NsD b)(fs ws:List Rat)(l:Z9)(u:Nat)(j:Z9)(x:Nat)(n:Nat)(Z:n<=12)(S:fs.length<=1000)(F:ws.length=fs.length)(X:∀ i,LQ 1 (fs.getD i 0))(I:∀ i,LQ 1 (ws.getD i 0))(e:lJ cC d t/\(fs.length=b.length/\ws.length=b.length)/\(∀ i,i<b.length->cC (b.getD i ⟨#[]⟩)=true)/\(∀ s,fr d t s->s∈b)/\b.Nodup)(w:World)(h:Hp)(g:G w h)(Q:TmH d h p t)(W:SlO 1 dS ⟨#[]⟩ h D b)(U:Sq l fs h)(Y:Sq j ws h)(O:Tab h):CR 21 #[bu p,.slice D b.length y,.slice l fs.length u,.slice j ws.length x,nV n] w h (fun v h1=>∃ (M:Z9)(c_:Nat),v=.tuple #[.slice M (bg (az b) fs ws (n+1) d t).2.length c_,iV (bg (az b) fs ws (n+1) d t).1]/\Sq M (bg (az b) fs ws (n+1) d t).2 h1):=by
 have a:=((((((sS g).add (K:=fun C=>TmH d C p t) Q).aS W).aS U).aS Y).add (K:=fun C=>Tab C) O);refine go Tryz.func21 [(0,bu p),(1,qS D b.length y),(2,qS l fs.length u),(3,qS j ws.length x),(4,nV n)] rfl (aD (lA 5 32 (bH p) a (fun b1 w2 h3 a=>lL a aE (aK (lL a [.c,.c,.c,.v (.agg #[qS l fs.length u,qS j ws.length x,nV n]),.v (.iface 112 (.agg #[qS l fs.length u,qS j ws.length x,nV n])),.c] (lC 19 a (lg B e.2.2.1 D y _ _ a.g a.f.r.2.1) ?_))))));rintro _ w4 h5 a ⟨z,rfl,hM⟩;replace a:=(a.add (K:=fun C=>MapS C z (pU b)) hM);refine lL a [.v (.agg #[.iface 112 (.agg #[qS l fs.length u,qS j ws.length x,nV n]),.map (some z),qT])] (lA 12 116 ([.nilIface,.map none,qF]) a (fun b6 w7 h8 a=>lP 0 0 ([.iface 112 (.agg #[qS l fs.length u,qS j ws.length x,nV n]),.map (some z),qT]) a (fun w9 a=>aK (lL a [.o (.agg #[.iface 112 (.agg #[qS l fs.length u,qS j ws.length x,nV n]),.map (some z),qT]) 0 0 3,.o (bu p) 1 0 9] (lC 23 a (wy (fun s=>s∈b) (az b) fs ws l u j x n Z S F z (pU b) X I (Cq B e.2.2.2.2 e.2.1.1) d p t _ _ V a.g a.f.q.2.1 (kv e) e.1.2 a.f.r.2.1 a.f.r.1 a.f.1 a.f.2.1) ?_)))));rintro _ _ _ a ⟨J,L,rfl,H⟩;replace a:=a.aS H;exact lL a [.v (qS J ((bg (az b) fs ws (n+1) d t).2.length) L),.v (iV ((bg (az b) fs ws (n+1) d t).1)),.c,.c] (ah a [] (.tuple #[qS J ((bg (az b) fs ws (n+1) d t).2.length) L,iV ((bg (az b) fs ws (n+1) d t).1)]) (⟨_,_,rfl,a.f.1⟩))
theorem l6 (d:Nat)(p:PTm)(t:Tm)(hd:d<=7)(O:Z9)(z:Nat)(u:List ByteArray)(I:NsD u)(fs ws:List Rat)(D:Z9)(F:Nat)(C:Z9)(H:Nat)(n:Nat)(hn:n<=12)(hm:fs.length<=1000)(hmv:ws.length<=1000)(hq:∀ i,LQ 1 (fs.getD i 0))(W:∀ i,LQ 1 (ws.getD i 0))(w:World)(h:Hp)(g:G w h)(hT:TmH d h p t)(hS:SmT1 je d t)(hN:SlO 1 dS ⟨#[]⟩ h O u)(hF:Sq D fs h)(hV:Sq C ws h)(tb:Tab h):CR 10 #[bu p,.slice O u.length z,.slice D fs.length F,.slice C ws.length H,nV n] w h (fun v h1=>∃ (e:Int)(A_:Z9)(c_:Nat)(L_:List Rat),v=.tuple #[.slice A_ L_.length c_,iV e]/\Sq A_ L_ h1/\tz d t u fs ws n e L_):=by
 have a:=((((((sS g).add (K:=fun U=>TmH d U p t) hT).aS hN).aS hF).aS hV).add (K:=fun U=>Tab U) tb);refine go Tryz.func10 [(0,bu p),(1,qS O u.length z),(2,qS D fs.length F),(3,qS C ws.length H),(4,nV n)] rfl (aD (lA 5 32 (bH p) a (fun b1 w2 h3 a=>lL a aE (ag (ab a ae ?_)))));cases B:(decide ((n:Int)<(0:Int)))
 .
  have L:=oF B;refine lB 14 B (lL a aE ?_);cases x:(decide ((12:Int)<(n:Int)))
  .
   have J:=oF x;refine lB 17 x (lL a [.v qF] (am (cK (cQ (ab a [.o (bu p) 0 0 9,.c,.c,.c] (lR 23 46 2 ([qS D fs.length F,qS C ws.length H]) a (fun Y w7 h8 a=>?_)))))));replace a:=a.aS (SlO.of_flat (sz:=1) (f:=vc) (d:=undef) (b:=Y) (o:=0) (l:=([qS D fs.length F,qS C ws.length H]:List Value)) (fun _=>rfl) a.f.1);refine lC 24 a (sa d p t oM O z u I (sB Y) 2 D fs.length F C ws.length H oM oM _ _ a.g a.f.q.r.1 hS a.f.q.2.1 a.f.1) ?_;rintro _ _ _ a ⟨S,rfl,y⟩;refine lL a ae (aK (lL a ae ?_));cases Q:((S:Int) != (0:Int))
   .
    have zb:=aI Q;refine lB 26 Q (am (cK ?_));have j:=y.ok oM;have M:ws.length=fs.length:=j.2.1.2.trans j.2.1.1.symm;refine ab a [.o (bu p) 0 0 9,.c,.c,.c,.c] (lC 33 a (kw d p t hd O z u I fs ws D F C H n hn hm M hq W (y.ok oM) _ _ a.g a.f.q.r.1 a.f.q.2.1 a.f.q.1 a.f.r.2.1 a.f.r.1) ?_);rintro _ _ _ a ⟨X,Z,rfl,V⟩;replace a:=a.aS V;exact lL a [.v (qS X ((bg (az u) fs ws (n+1) d t).2.length) Z),.v (iV ((bg (az u) fs ws (n+1) d t).1)),.c,.c] (ah a [] (.tuple #[qS X ((bg (az u) fs ws (n+1) d t).2.length) Z,iV ((bg (az u) fs ws (n+1) d t).1)]) (⟨_,_,_,_,rfl,a.f.1,S,y,.inr ⟨by omega,rfl⟩⟩))
   have zb:=aU Q;exact lB 26 Q (ar (ab a dG (ah a [] (.tuple #[sZ,iV S]) (⟨_,none,0,[],rfl,SlO.nil,S,y,.inl ⟨by omega,rfl,rfl⟩⟩))))
  have J:=oT x;refine lB 17 x (lL a [.v qT] (ar (ab a aE (lN (kX ?_)))))
  exfalso;omega
 have L:=oT B;refine lB 14 B (lL a ae (lG 16 ?_));refine lG 17 (lL a [.v qT] (ar (ab a aE (lN (kX ?_)))))
 exfalso;omega
def cW (g:Nat->Rat)(w:List Rat):Nat->Rat
  | 0=>0
  | m+1=>cW g w m+g m*w.getD m 0
def dP (B:Nat->Nat->Rat)(w:List Rat)(m:Nat):Rat:=cW (fun i=>cW (B i) w m) w m
theorem eu (a b:Rat)(g h:Nat->Rat)(w:List Rat):∀ m,cW (fun i=>a*g i+b*h i) w m=a*cW g w m+b*cW h w m
  | 0=>by show (0:Rat)=a*0+b*0;grind
  | m+1=>by
    show cW _ w m+(a*g m+b*h m)*w.getD m 0=a*(cW g w m+g m*w.getD m 0)+b*(cW h w m+h m*w.getD m 0)
    rw[eu a b g h w m];grind
theorem iE (w:List Rat):∀ m,cW (fun _=>0) w m=0
 | 0=>rfl
 | m+1=>by show cW _ w m+0*w.getD m 0=0;rw[iE w m];grind
theorem gR {g h:Nat->Rat}{w:List Rat}:∀ {m:Nat},(∀ i,i<m->g i=h i)->cW g w m=cW h w m
 | 0,_=>rfl
 | m+1,e=>by show cW g w m+g m*_=cW h w m+h m*_;rw[gR fun i hi=>e i oM,e m (JD m)]
theorem oV {k:Nat}(w:List Rat):∀ m,cW (fun i=>if i=k then 1 else 0) w m=if k<m then w.getD k 0 else 0
  | 0=>by rw[if_neg (Jl k)];rfl
  | m + 1=>by
    show cW _ w m+(if m=k then (1:Rat) else 0)*w.getD m 0=_
    rw[oV w m]
    by_cases h:m=k
    . subst h;rw[if_neg (Nat.lt_irrefl m),if_pos rfl,if_pos (JD m)];grind
    . rw[if_neg h]
      by_cases h2:k<m
      . rw[if_pos h2,if_pos oM];grind
      . rw[if_neg h2,if_neg oM];grind
theorem kz (c:Rat)(g:Nat->Rat)(w:List Rat):∀ m,cW (fun i=>g i*c) w m=cW g w m*c
  | 0=>by show (0:Rat)=0*c;grind
  | m+1=>by
    show cW _ w m+g m*c*w.getD m 0=(cW g w m+g m*w.getD m 0)*c
    rw[kz c g w m];grind
theorem gC (a b:Rat)(B C:Nat->Nat->Rat)(w:List Rat)(m:Nat):dP (fun i j=>a*B i j+b*C i j) w m=a*dP B w m+b*dP C w m:=by
 unfold dP
 rw[<-eu];exact gR fun i _=>eu a b (B i) (C i) w m
def lE (g h:Nat->Rat)(i j:Nat):Rat:=(g i*h j+g j*h i)/2
theorem q7 (g h:Nat->Rat)(i j:Nat):lE g h i j=lE g h j i:=by unfold lE;rw[J6]
theorem oQ (g h:Nat->Rat)(w:List Rat)(m:Nat):dP (lE g h) w m=cW g w m*cW h w m:=by
 have e1:dP (lE g h) w m=cW (fun i=>(1/2)*(g i*cW h w m)+(1/2)*(h i*cW g w m)) w m:=by
  refine gR fun i _=>?_
  have:(fun j=>lE g h i j)=fun j=>(g i/2)*h j+(h i/2)*g j:=by
   funext j;unfold lE;rw[J7,J7,J7];grind
  show cW (fun j=>lE g h i j) w m=_
  rw[this,eu,J7,J7,J7];grind
 rw[e1,eu,kz,kz,J7];grind
def Q3 (m:Nat)(F:List Rat->List Rat):Prop:=∃ (v:Rat)(g:Nat->Rat)(B:Nat->Nat->Rat),(∀ i j,B i j=B j i)/\∀ w,F w=[v,cW g w m,dP B w m]
theorem mI (w:List Rat)(m:Nat):dP (fun _ _=>0) w m=0:=by
 unfold dP
 rw[gR (h:=fun _=>0) fun i _=>iE w m];exact iE w m
theorem Q3.num (m:Nat)(q:Rat):Q3 m (fun _=>bx 3 q):=⟨q,fun _=>0,fun _ _=>0,fun _ _=>rfl,fun w=>by
 dsimp only;rw[iE,mI];rfl⟩
theorem Q3.inp {m k:Nat}(hk:k<m)(x:Rat):Q3 m (fun w=>gk 3 x (w.getD k 0)):=⟨x,fun i=>if i=k then 1 else 0,fun _ _=>0,fun _ _=>rfl,fun w=>by
 dsimp only;rw[oV,if_pos hk,mI];rfl⟩
theorem Q3.add {m:Nat}{F G:List Rat->List Rat}(x:Q3 m F)(y:Q3 m G):Q3 m (fun w=>cV 3 (F w) (G w)):=by
 obtain ⟨v,g,B,s,e⟩:=x;obtain ⟨c,b,a,d,e2⟩:=y;refine ⟨v+c,fun i=>1*g i+1*b i,fun i j=>1*B i j+1*a i j,fun i j=>by dsimp only;rw[s i j,d i j],fun w=>?_⟩
 dsimp only
 rw[eu,gC,e,e2]
 show [v+c,cW g w m+cW b w m,dP B w m+dP a w m]=_
 simp[Rat.one_mul]
theorem Q3.scl {m:Nat}{F:List Rat->List Rat}(x:Q3 m F)(k:Rat):Q3 m (fun w=>cY 3 (F w) k):=by
 obtain ⟨v,g,B,s,e⟩:=x;refine ⟨v*k,fun i=>k*g i+0*g i,fun i j=>k*B i j+0*B i j,fun i j=>by dsimp only;rw[s i j],fun w=>?_⟩
 dsimp only
 rw[eu,gC,e]
 show [v*k,cW g w m*k,dP B w m*k]=_
 simp only[List.cons.injEq,and_true,true_and]
 exact ⟨by grind,by grind⟩
theorem Q3.mul {m:Nat}{F G:List Rat->List Rat}(x:Q3 m F)(y:Q3 m G):Q3 m (fun w=>de 3 (F w) (G w)):=by
 obtain ⟨v,g,B,s,e⟩:=x;obtain ⟨a,b,c,d,e2⟩:=y;refine ⟨v*a,fun i=>v*b i+a*g i,fun i j=>1*(v*c i j+a*B i j)+1*lE g b i j,fun i j=>by dsimp only;rw[s i j,d i j,q7 g b i j],fun w=>?_⟩
 dsimp only
 rw[eu,gC,gC,oQ,e,e2]
 show [0+v*a,0+v*cW b w m+cW g w m*a,0+v*dP c w m+cW g w m*cW b w m+dP B w m*a]=_
 simp only[List.cons.injEq,and_true]
 exact ⟨by grind,by grind,by grind⟩
theorem uY (a b c:Rat):bC 3 [a,b,c]=[1/a,-(1/a*b*(1/a)),-((1/a*c + -(1/a*b*(1/a))*b)*(1/a))]:=by
 show [1/a,-((0+1/a*b)*(1/a)),-((0+1/a*c + -((0+1/a*b)*(1/a))*b)*(1/a))]=_
 simp only[J8]
theorem Q3.inv {m:Nat}{F:List Rat->List Rat}(x:Q3 m F):Q3 m (fun w=>bC 3 (F w)):=by
 obtain ⟨v,g,B,s,e⟩:=x;refine ⟨1/v,fun i=>-(1/v*(1/v))*g i+0*g i,fun i j=>-(1/v*(1/v))*B i j+(1/v*(1/v)*(1/v))*lE g g i j,fun i j=>by dsimp only;rw[s i j,q7 g g i j],fun w=>?_⟩
 dsimp only
 rw[eu,gC,oQ,e,uY]
 generalize cW g w m=y
 generalize dP B w m=z
 generalize 1/v=u
 simp only[List.cons.injEq,and_true,true_and]
 exact ⟨by grind,by grind⟩
theorem Q3.pow_ {m:Nat}{F:List Rat->List Rat}(x:Q3 m F):∀ k,Q3 m (fun w=>fI 3 (F w) k)
 | 0=>Q3.num m _
 | k+1=>(Q3.pow_ x k).mul x
theorem Q3.fst {m:Nat}{F:List Rat->List Rat}(x:Q3 m F):∃ v,∀ w,(F w).getD 0 0=v:=by
 obtain ⟨v,g,B,s,e⟩:=x;exact ⟨v,fun w=>by rw[e];rfl⟩
theorem Q3.abs_ {m:Nat}{F:List Rat->List Rat}(x:Q3 m F):Q3 m (fun w=>dC 3 (F w)):=by
 obtain ⟨v,hv⟩:=x.fst
 unfold dC
 simp only[hv]
 by_cases h:v.num.sign<0
 ·simp only[if_pos h];exact x.scl _
 ·simp only[if_neg h];exact x
theorem Q3.pxq {m:Nat}{F:List Rat->List Rat}(x:Q3 m F)(n:Int):Q3 m (fun w=>px n 3 (F w)):=by
 unfold px
 by_cases h:n<0
 ·simp only[if_pos h];exact x.inv
 ·simp only[if_neg h];exact x
theorem Q3.node {m:Nat}{F G:List Rat->List Rat}(op n:Int)(b:3<=op/\op<=13)(x:Q3 m F)(y:(op=3\/op=4\/op=5\/op=6\/op=12\/op=13)->Q3 m G):Q3 m (fun w=>jM op n 3 (F w) (G w)):=by
 obtain ⟨v,hv⟩:=x.fst
 rcases ni b with rfl|rfl|rfl|rfl|rfl|rfl|rfl|rfl|rfl|rfl|rfl
 ·simp only[vr];exact x.add (y kD)
 ·simp only[wW];exact x.add ((y kD).scl _)
 ·simp only[uJ];exact x.mul (y kD)
 ·simp only[wF];exact x.mul (y kD).inv
 ·simp only[vE];exact x.scl _
 ·simp only[lz];exact (x.pxq n).pow_ _
 ·simp only[mg];exact x.abs_
 ·simp only[jv,hv]
  by_cases h:0<v.num.sign
  ·simp only[if_pos h];exact x
  ·simp only[if_neg h];exact Q3.num m 0
 ·simp only[jo];exact x.mul (x.abs_.add (Q3.num m _)).inv
 ·have z:=y kD
  obtain ⟨u,a⟩:=z.fst
  simp only[jr,hv,a]
  by_cases h:u<v
  ·simp only[if_pos h];exact x
  ·simp only[if_neg h];exact z
 ·have z:=y kD
  obtain ⟨u,a⟩:=z.fst
  simp only[ji,hv,a]
  by_cases h:u<v
  ·simp only[if_pos h];exact z
  ·simp only[if_neg h];exact x
section
variable {n:Int}{a b:List Rat}
theorem n4 (x:List Rat):∀ k,(fI 3 x k).getD 0 0=bU (x.getD 0 0) k/\(fI 3 x k).getD 1 0=((k:Int):Rat)*bU (x.getD 0 0) (k-1)*x.getD 1 0
  | 0=>⟨rfl,by show (0:Rat)=((0:Int):Rat)*_*_;rw[i0];grind⟩
  | k + 1=>by
    obtain ⟨h1,a⟩:=n4 x k;refine ⟨?_,?_⟩
    . show 0+(fI 3 x k).getD 0 0*x.getD 0 0=bU (x.getD 0 0) k*x.getD 0 0
      rw[h1];grind
    . show 0+(fI 3 x k).getD 0 0*x.getD 1 0+(fI 3 x k).getD 1 0*x.getD 0 0=(((k+1:Nat):Int):Rat)*bU (x.getD 0 0) k*x.getD 1 0
      rw[h1,a];have e:(((k+1:Nat):Int):Rat)=((k:Int):Rat)+1:=by push_cast;rfl
      have e2:((k:Int):Rat)*bU (x.getD 0 0) (k-1)*x.getD 0 0=((k:Int):Rat)*bU (x.getD 0 0) k:=by
        cases k with
        | zero=>show ((0:Int):Rat)*_*_=((0:Int):Rat)*_;rw[i0];grind
        | succ k=>show _*bU _ k*_=_*(bU _ k*_);grind
      rw[e];grind
theorem Ai (x:List Rat):(bC 3 x).getD 0 0=((1:Int):Rat)/x.getD 0 0/\(bC 3 x).getD 1 0 = -((0+((1:Int):Rat)/x.getD 0 0*x.getD 1 0)*(((1:Int):Rat)/x.getD 0 0)):=⟨rfl,rfl⟩
theorem Dt {op:Int}(C:3<=op/\op<=13)(c:dO op n (a.getD 0 0) (b.getD 0 0)=0):(jM op n 3 a b).getD 0 0=lp op n 0 (a.getD 0 0) (b.getD 0 0)/\(jM op n 3 a b).getD 1 0=DB op n (a.getD 0 0) (b.getD 0 0)*a.getD 1 0+DM op (a.getD 0 0) (b.getD 0 0)*b.getD 1 0:=by
  have I:xr op n (a.getD 0 0) (b.getD 0 0)/\¬FH op (a.getD 0 0) (b.getD 0 0):=by
    unfold dO at c
    split at c
    . exact absurd c kD
    . unfold cc at c
      split at c
      . rename_i h;split at c
        . exact absurd c kD
        . rename_i d;exact ⟨h,d⟩
      . exact absurd c kD
  have hB:op=11->a.getD 0 0≠0:=fun h e=>by unfold dO at c;rw[if_pos ⟨h,e⟩] at c;exact absurd c kD
  obtain ⟨l,k2⟩:=I
  rcases ni C with rfl|rfl|rfl|rfl|rfl|rfl|rfl|rfl|rfl|rfl|rfl
  . refine ⟨rfl,?_⟩
    show a.getD 1 0+b.getD 1 0=((1:Int):Rat)*_+((1:Int):Rat)*_
    rw[i1];grind
  . refine ⟨?_,?_⟩
    . show a.getD 0 0+b.getD 0 0*((-1:Int):Rat)=a.getD 0 0-b.getD 0 0
      rw[r8];grind
    . show a.getD 1 0+b.getD 1 0*((-1:Int):Rat)=((1:Int):Rat)*_ + -((1:Int):Rat)*_
      rw[r8,i1];grind
  . refine ⟨?_,?_⟩
    . show 0+a.getD 0 0*b.getD 0 0=a.getD 0 0*b.getD 0 0
      grind
    . show 0+a.getD 0 0*b.getD 1 0+a.getD 1 0*b.getD 0 0=b.getD 0 0*a.getD 1 0+a.getD 0 0*b.getD 1 0
      grind
  . have K:=l.1 rfl
    refine ⟨?_,?_⟩
    . show 0+a.getD 0 0*(((1:Int):Rat)/b.getD 0 0)=a.getD 0 0/b.getD 0 0
      rw[i1];grind
    . show 0+a.getD 0 0 * -((0+((1:Int):Rat)/b.getD 0 0*b.getD 1 0)*(((1:Int):Rat)/b.getD 0 0))+a.getD 1 0*(((1:Int):Rat)/b.getD 0 0)=((1:Int):Rat)/b.getD 0 0*a.getD 1 0 + -(a.getD 0 0*(((1:Int):Rat)/b.getD 0 0)*(((1:Int):Rat)/b.getD 0 0))*b.getD 1 0
      grind
  . refine ⟨?_,?_⟩
    . show a.getD 0 0*((-1:Int):Rat) = -a.getD 0 0
      rw[r8];grind
    . show a.getD 1 0*((-1:Int):Rat) = -((1:Int):Rat)*a.getD 1 0+0*_
      rw[r8,i1];grind
  . rw[lz]
    obtain ⟨u,H⟩:=n4 (px n 3 a) n.natAbs;rw[u,H]
    show _=fl _ n/\_=(if n=0 then (0:Rat) else fl (a.getD 0 0) (n-1)*((n:Int):Rat))*a.getD 1 0+0*b.getD 1 0
    by_cases hn:n<0
    . have ha:=l.2 rfl hn
      have j:px n 3 a=bC 3 a:=if_pos hn;obtain ⟨F,J⟩:=Ai a;rw[j,F,J,if_neg oM];refine ⟨pd ha hn rfl,?_⟩;obtain ⟨k,hk⟩:∃ k,n.natAbs=k+1:=⟨n.natAbs-1,by omega⟩;rw[<-pd (m:=k+2) ha oM oM,hk]
      have D:((n:Int):Rat) = -(((k+1:Nat):Int):Rat):=by
        have:n = -((k+1:Nat):Int):=by omega
        rw[this,Rat.intCast_neg]
      rw[D]
      show ((k+1:Nat):Int)*bU (((1:Int):Rat)/a.getD 0 0) k*_=bU (((1:Int):Rat)/a.getD 0 0) k*(((1:Int):Rat)/a.getD 0 0)*(((1:Int):Rat)/a.getD 0 0)*_*_+_
      grind
    . have j:px n 3 a=a:=if_neg hn
      rw[j];refine ⟨by unfold fl;rw[if_pos oM],?_⟩
      by_cases h0:n=0
      . subst h0;rw[if_pos rfl];show ((0:Int):Rat)*_*_=_;rw[i0];grind
      . rw[if_neg h0]
        have e:fl (a.getD 0 0) (n-1)=bU (a.getD 0 0) (n.natAbs-1):=by unfold fl;rw[if_pos oM,show (n-1).natAbs=n.natAbs-1 by omega]
        have i:((n.natAbs:Int):Rat)=((n:Int):Rat):=by congr 1;omega
        rw[e,i];grind
  . have ha:a.getD 0 0≠0:=fun e=>k2 (.inl ⟨.inl rfl,e⟩)
    rw[mg]
    unfold dC
    show _=cv (a.getD 0 0)/\_=(((a.getD 0 0).num.sign:Int):Rat)*a.getD 1 0+0*b.getD 1 0
    by_cases h:(a.getD 0 0).num.sign<0
    . rw[if_pos h,mG h]
      refine ⟨lj h,?_⟩
      show a.getD 1 0*((-1:Int):Rat)=_
      rw[r8];grind
    . rw[if_neg h,vF (by have h0:(a.getD 0 0).num.sign≠0:=fun e=>ha (oz e);omega)]
      refine ⟨lc h,?_⟩;rw[i1];grind
  . have ha:a.getD 0 0≠0:=fun e=>k2 (.inl ⟨.inr rfl,e⟩)
    rw[jv]
    show _=maxR (a.getD 0 0) 0/\_=((max (a.getD 0 0).num.sign 0:Int):Rat)*a.getD 1 0+0*b.getD 1 0
    unfold maxR
    by_cases h:0<(a.getD 0 0).num.sign
    . have d:=m8.1 h
      rw[if_pos h,vF h,if_neg (by grind)];refine ⟨rfl,?_⟩
      show _=((1:Int):Rat)*_+_
      rw[i1];grind
    . have d:a.getD 0 0<0:=by
        have:¬0<a.getD 0 0:=fun e=>h (m8.2 e)
        grind
      have B:max (a.getD 0 0).num.sign 0=0:=by omega
      rw[if_neg h,B,if_pos d];refine ⟨rfl,?_⟩
      show (0:Rat)=((0:Int):Rat)*_+_
      rw[i0];grind
  . have ha:=hB rfl
    rw[jo]
    show 0+a.getD 0 0*(((1:Int):Rat)/((dC 3 a).getD 0 0+((1:Int):Rat)))=a.getD 0 0/(cv (a.getD 0 0)+((1:Int):Rat))/\0+a.getD 0 0 * -((0+((1:Int):Rat)/((dC 3 a).getD 0 0+((1:Int):Rat))*((dC 3 a).getD 1 0+0))*(((1:Int):Rat)/((dC 3 a).getD 0 0+((1:Int):Rat))))+a.getD 1 0*(((1:Int):Rat)/((dC 3 a).getD 0 0+((1:Int):Rat)))=(((1:Int):Rat)/(((1:Int):Rat)+cv (a.getD 0 0)))*(((1:Int):Rat)/(((1:Int):Rat)+cv (a.getD 0 0)))*a.getD 1 0+0*b.getD 1 0
    have p:(dC 3 a).getD 0 0=cv (a.getD 0 0):=by
      unfold dC;split
      . rename_i h;exact lj h
      . rename_i h;exact lc h
    have o:=qw p
    have e1:a.getD 0 0*(dC 3 a).getD 1 0=cv (a.getD 0 0)*a.getD 1 0:=by
      unfold dC;split
      . rename_i h
        show a.getD 0 0*(a.getD 1 0*((-1:Int):Rat))=_
        rw[<-lj h];grind
      . rename_i h;rw[<-lc h]
    rw[p] at o ⊢
    generalize (dC 3 a).getD 1 0=z at *
    generalize cv (a.getD 0 0)=q at *
    generalize a.getD 0 0=x at *
    generalize a.getD 1 0=y at *
    rw[i1] at o ⊢
    refine ⟨by grind,?_⟩;have i:x * -((0+1/(q+1)*(z+0))*(1/(q+1))) = -(1/(q+1)*(1/(q+1)))*(q*y):=by rw[<-e1];grind
    rw[i,J6 1 q];grind
  . have f:a.getD 0 0≠b.getD 0 0:=fun e=>k2 (.inr ⟨.inl rfl,e⟩)
    rw[jr]
    show _=maxR (a.getD 0 0) (b.getD 0 0)/\_=(if b.getD 0 0<a.getD 0 0 then ((1:Int):Rat) else 0)*_+(if b.getD 0 0<a.getD 0 0 then 0 else ((1:Int):Rat))*_
    unfold maxR
    by_cases h:b.getD 0 0<a.getD 0 0
    . rw[if_pos h,if_pos h,if_pos h,if_neg (by grind)];exact ⟨rfl,by rw[i1];grind⟩
    . rw[if_neg h,if_neg h,if_neg h,if_pos (by grind)];exact ⟨rfl,by rw[i1];grind⟩
  . have f:a.getD 0 0≠b.getD 0 0:=fun e=>k2 (.inr ⟨.inr rfl,e⟩)
    rw[ji]
    show _=oG (a.getD 0 0) (b.getD 0 0)/\_=(if b.getD 0 0<a.getD 0 0 then 0 else ((1:Int):Rat))*_+(if b.getD 0 0<a.getD 0 0 then ((1:Int):Rat) else 0)*_
    unfold oG
    by_cases h:b.getD 0 0<a.getD 0 0
    . rw[if_pos h,if_pos h,if_pos h,if_pos h];exact ⟨rfl,by rw[i1];grind⟩
    . rw[if_neg h,if_neg h,if_neg h,if_neg h];exact ⟨rfl,by rw[i1];grind⟩
end
theorem wD {m:Nat}{op n:Int}{ws:List Rat}{a b:Int × List Rat}{x y:Int × Rat × List Rat}(i:3<=op/\op<=13)(u:a.1=0->x.1=0/\a.2.getD 0 0=x.2.1/\a.2.getD 1 0=bJ x.2.2 ws m)(e:b.1=0->y.1=0/\b.2.getD 0 0=y.2.1/\b.2.getD 1 0=bJ y.2.2 ws m)(h:(k8 3 op n a b).1=0) :
    (md m op n x y).1=0/\(k8 3 op n a b).2.getD 0 0=(md m op n x y).2.1/\(k8 3 op n a b).2.getD 1 0=bJ (md m op n x y).2.2 ws m:=by
  by_cases c1:a.1=0
  . obtain ⟨p,d,l⟩:=u c1
    by_cases c2:b.1=0
    . obtain ⟨y1,c,f⟩:=e c2
      by_cases c3:dO op n (a.2.getD 0 0) (b.2.getD 0 0)=0
      . obtain ⟨o,k2⟩:=Dt i c3
        have j:cc op n x.2.1 y.2.1=0:=by
          rw[<-d,<-c]
          unfold dO at c3
          split at c3
          . exact absurd c3 kD
          . exact c3
        rw[iN c1 c2 c3,l9 p y1 j];refine ⟨rfl,?_,?_⟩
        . show (jM op n 3 a.2 b.2).getD 0 0=lp op n 0 x.2.1 y.2.1
          rw[o,d,c]
        . show (jM op n 3 a.2 b.2).getD 1 0=bJ (jJ m op n x.2.1 y.2.1 x.2.2 y.2.2) ws m
          unfold jJ
          rw[k2,d,c,l,f,oE _ _ _ _ _ _ _ (ey m)]
      . rw[ja c1 c2 c3] at h;exact absurd h c3
    . rw[mH c1 c2] at h;exact absurd h c2
  . rw[iQ c1] at h;exact absurd h c1
section
variable {ix:ByteArray->Nat}{fs:List Rat}{ok:ByteArray->Prop}
theorem Q3.two {m:Nat}{op n:Int}{x y:List Rat->Int × List Rat}(o:3<=op/\op<=13)(p:∃ e,(∀ w,(x w).1=e)/\(e=0->Q3 m fun w=>(x w).2))(j:∃ e,(∀ w,(y w).1=e)/\(e=0->(op=3\/op=4\/op=5\/op=6\/op=12\/op=13)->Q3 m fun w=>(y w).2))(f:∃ b,∀ w,(x w).1=0->(y w).1=0->(y w).2.getD 0 0=b) :
    ∃ e,(∀ w,(k8 3 op n (x w) (y w)).1=e)/\(e=0->Q3 m fun w=>(k8 3 op n (x w) (y w)).2):=by
  obtain ⟨e1,c,l⟩:=p;obtain ⟨e2,d,u⟩:=j;obtain ⟨b,i⟩:=f
  by_cases c1:e1=0
  . subst c1
    by_cases c2:e2=0
    . subst c2
      have q:=l rfl;obtain ⟨a,ha⟩:=q.fst
      by_cases c3:dO op n a b=0
      . have e:∀ w,k8 3 op n (x w) (y w)=(0,jM op n 3 (x w).2 (y w).2):=fun w=>iN (c w) (d w) (by rw[ha w,i w (c w) (d w)];exact c3)
        simp only[e]
        exact ⟨0,fun _=>rfl,fun _=>q.node op n o (u rfl)⟩
      . have e:∀ w,k8 3 op n (x w) (y w)=(dO op n a b,[]):=fun w=>by
          rw[ja (c w) (d w) (by rw[ha w,i w (c w) (d w)];exact c3),ha w,i w (c w) (d w)]
        simp only[e]
        exact ⟨_,fun _=>rfl,fun h=>absurd h c3⟩
    . have e:∀ w,k8 3 op n (x w) (y w)=(e2,[]):=fun w=>by rw[mH (c w) (by rw[d w];exact c2),d w]
      simp only[e]
      exact ⟨_,fun _=>rfl,fun h=>absurd h c2⟩
  . have e:∀ w,k8 3 op n (x w) (y w)=(e1,[]):=fun w=>by rw[iQ (by rw[c w];exact c1),c w]
    simp only[e]
    exact ⟨_,fun _=>rfl,fun h=>absurd h c1⟩
theorem oX (a:∀ s,ok s->ix s<fs.length):∀ {d:Nat} {t:Tm},WfT1 ok d t->∃ e,(∀ w,(bg ix fs w 3 d t).1=e)/\(e=0->Q3 fs.length fun w=>(bg ix fs w 3 d t).2)
  | d + 1,.mk op n q s ks,⟨h1,h2,h3,h4,h5,h6,h7,h8,h9⟩=>by
    have l:=aN op;replace h1:fF op=(ks.length:Nat):=h1
    rcases e7 h1 with rfl|⟨t,rfl⟩|⟨t,u,rfl⟩
    . simp only[Ju] at h1
      by_cases o1:op=1
      . have e:∀ w,bg ix fs w 3 (d+1) (.mk op n q s [])=(0,bx 3 q):=fun w=>if_pos o1
        simp only[e]
        exact ⟨0,fun _=>rfl,fun _=>Q3.num _ q⟩
      . have f:op=2:=by omega
        have e:∀ w,bg ix fs w 3 (d+1) (.mk op n q s [])=(0,gk 3 (fs.getD (ix s) 0) (w.getD (ix s) 0)):=fun w=>(if_neg o1).trans (if_pos f)
        simp only[e]
        exact ⟨0,fun _=>rfl,fun _=>Q3.inp (a s (h4 f)) _⟩
    . simp only[yf,Ju] at h1
      have e:∀ w,bg ix fs w 3 (d+1) (.mk op n q s [t])=k8 3 op n (bg ix fs w 3 d t) (0,[]):=fun w=>kI oM oM
      simp only[e]
      exact Q3.two oM (oX a (h9 0 (Iq _))) ⟨0,fun _=>rfl,fun _ h=>by omega⟩ ⟨0,fun _ _ _=>rfl⟩
    . simp only[yf,Ju] at h1
      have e:∀ w,bg ix fs w 3 (d+1) (.mk op n q s [t,u])=k8 3 op n (bg ix fs w 3 d t) (bg ix fs w 3 d u):=fun w=>jN oM oM
      simp only[e]
      obtain ⟨e2,i,k2⟩:=oX a (h9 1 (by show 1<2;decide));refine Q3.two oM (oX a (h9 0 (Iq _))) ⟨e2,i,fun h _=>k2 h⟩ ?_
      by_cases c:e2=0
      . obtain ⟨b,j⟩:=(k2 c).fst
        exact ⟨b,fun w _ _=>j w⟩
      . exact ⟨0,fun w _ h=>absurd ((i w).symm.trans h) c⟩
theorem r7 {ws:List Rat}(a:∀ s,ok s->ix s<fs.length):∀ {d:Nat} {t:Tm},WfT1 ok d t->(bg ix fs ws 3 d t).1=0->(ba ix fs d t).1=0/\(bg ix fs ws 3 d t).2.getD 0 0=(ba ix fs d t).2.1/\(bg ix fs ws 3 d t).2.getD 1 0=bJ (ba ix fs d t).2.2 ws fs.length
  | d + 1,.mk op n q s ks,⟨h1,h2,h3,h4,h5,h6,h7,h8,h9⟩,h=>by
    have i:=aN op;replace h1:fF op=(ks.length:Nat):=h1
    rcases e7 h1 with rfl|⟨t,rfl⟩|⟨t,u,rfl⟩
    . simp only[Ju] at h1
      by_cases o1:op=1
      . have e:bg ix fs ws 3 (d+1) (.mk op n q s [])=(0,bx 3 q):=if_pos o1
        have e2:ba ix fs (d+1) (.mk op n q s [])=(0,q,yL fs.length 0):=if_pos o1;rw[e,e2];refine ⟨rfl,rfl,?_⟩;rw[jD];rfl
      . have b:op=2:=by omega
        have e:bg ix fs ws 3 (d+1) (.mk op n q s [])=(0,gk 3 (fs.getD (ix s) 0) (ws.getD (ix s) 0)):=(if_neg o1).trans (if_pos b);have e2:ba ix fs (d+1) (.mk op n q s [])=(0,fs.getD (ix s) 0,ef fs.length (ix s)):=(if_neg o1).trans (if_pos b);rw[e,e2];refine ⟨rfl,rfl,?_⟩
        show ws.getD (ix s) 0=bJ (ef _ _) ws _
        have f:ix s<fs.length:=a s (h4 b);rw[js,tk f]
    . simp only[yf,Ju] at h1
      have e2:ba ix fs (d+1) (.mk op n q s [t])=md fs.length op n (ba ix fs d t) (0,0,[]):=(if_neg (show op≠1 by omega)).trans (if_neg (show op≠2 by omega));rw[kI oM oM] at h ⊢
      rw[e2];have c:=r7 (ws:=ws) a (h9 0 (Iq _));replace c:(bg ix fs ws 3 d t).1=0->(ba ix fs d t).1=0/\(bg ix fs ws 3 d t).2.getD 0 0=(ba ix fs d t).2.1/\(bg ix fs ws 3 d t).2.getD 1 0=bJ (ba ix fs d t).2.2 ws fs.length:=c;refine wD (x:=ba ix fs d t) (y:=(0,0,[])) oM c (fun _=>⟨rfl,rfl,?_⟩) h;rw[oB];rfl
    . simp only[yf,Ju] at h1
      have e2:ba ix fs (d+1) (.mk op n q s [t,u])=md fs.length op n (ba ix fs d t) (ba ix fs d u):=(if_neg (show op≠1 by omega)).trans (if_neg (show op≠2 by omega));rw[jN oM oM] at h ⊢
      rw[e2];exact wD oM (r7 (ws:=ws) a (h9 0 (Iq _))) (r7 (ws:=ws) a (h9 1 (by show 1<2;decide))) h
end
def g7 (i j:Nat):List Rat:=((yL 3 (0:Rat)).set i ((1:Int):Rat)).set j ((1:Int):Rat)
theorem rF (g:Nat->Rat)(a b c:Rat):cW g [a,b,c] 3=g 0*a+g 1*b+g 2*c:=by
 show 0+g 0*a+g 1*b+g 2*c=_
 rw[J8]
theorem fg (B:Nat->Nat->Rat)(a b c:Rat):dP B [a,b,c] 3=(B 0 0*a+B 0 1*b+B 0 2*c)*a+(B 1 0*a+B 1 1*b+B 1 2*c)*b+(B 2 0*a+B 2 1*b+B 2 2*c)*c:=by
 unfold dP;rw[rF];simp only[rF]
theorem xC {F:List Rat->List Rat}(x:Q3 3 F){b:Nat->Nat->Rat}(h:∀ i j,b i j=(F (g7 i j)).getD 2 0)(f u1 d:Rat) :
    0 + b 0 0*2*f*f+(b 1 0-b 1 1-b 0 0)*f*u1+(b 2 0-b 2 2-b 0 0)*f*d
      + (b 1 0-b 1 1-b 0 0)*u1*f+b 1 1*2*u1*u1+(b 2 1-b 2 2-b 1 1)*u1*d
      + (b 2 0-b 2 2-b 0 0)*d*f+(b 2 1-b 2 2-b 1 1)*d*u1+b 2 2*2*d*d=(F [f,u1,d]).getD 2 0+(F [f,u1,d]).getD 2 0:=by
  obtain ⟨v,g,B,s,e⟩:=x;have w:∀ a b c:Rat,(F [a,b,c]).getD 2 0=dP B [a,b,c] 3:=fun a b c=>by rw[e];rfl
  have y:b 0 0=B 0 0:=by rw[h];show (F [1,0,0]).getD 2 0=_;rw[w,fg];grind
  have u:b 1 1=B 1 1:=by rw[h];show (F [0,1,0]).getD 2 0=_;rw[w,fg];grind
  have o:b 2 2=B 2 2:=by rw[h];show (F [0,0,1]).getD 2 0=_;rw[w,fg];grind
  have l:b 1 0=B 0 0+B 1 1+2*B 0 1:=by rw[h];show (F [1,1,0]).getD 2 0=_;rw[w,fg,s 1 0];grind
  have z:b 2 0=B 0 0+B 2 2+2*B 0 2:=by rw[h];show (F [1,0,1]).getD 2 0=_;rw[w,fg,s 2 0];grind
  have p:b 2 1=B 1 1+B 2 2+2*B 1 2:=by rw[h];show (F [0,1,1]).getD 2 0=_;rw[w,fg,s 2 1];grind
  rw[w,fg,y,u,o,l,z,p,s 1 0,s 2 0,s 2 1]
  grind
section
variable {M:Ms}{P:Program}{n:Nat}{N R:Po}{X:Nat->Po}{ops:Array Oper}{k k0:Nat}{hr:Hp}{AL:List Al}{L:Array Bool}{Γ:bW}{w:World}{h:Hp}{w0:World}{h0:Hp}{B:List Bx}{Rs:List Rw}{F:List (Hp->Prop)}
theorem tO (i t:Nat)(ps:List (Nat × Nat × Nat))(v:Value)(s:SS w0 h0 w h B Rs F)(H:AG M P n N R X ops k0 (L.setIfInBounds i true) ((t,v)::Γ) w)(a:cT n ops k0 L Γ i t=true:=by kernel_rfl)(b:bT B ps=true:=by kernel_rfl)(c:bO P (execOp (ev Γ) (ao ops i)) (cB B ps)=some (.value v,bG B ps):=by kernel_rfl):AG M P n N R X ops k0 L Γ w :=
 T.val i t v w (nz a).1 (nz a).2 (bM _ _ _ _ c (cl s.st.own ps b)) H
end
section laws
variable {M:Ms}{P:Program}{ops:Array Oper}{Q:Exit->Act->World->Prop}{k0:Nat}
structure Waits (ops:Array Oper) (k0 i:Nat) (late:List Nat):Prop where
  ev:∀ u∈late,∃ ou,ops[u]?=some ou/\∃ e∈ou.after,Region.binds .any e=true/\(e.on=i\/e.on∈late)
  tl:∀ j oj,ops[j]?=some oj->k0<=j->j∈late
end laws
theorem bV (a:Rat):dJ a a=0:=by unfold dJ d4;rw[if_neg oM,if_neg oM]
theorem t6 {ix:ByteArray->Nat}{fs:List Rat}:∀ {d:Nat} {t:Tm},(ba ix fs d t).1≠0->ba ix fs d t=((ba ix fs d t).1,0,[])
  | 0,_,h=>absurd rfl h
  | d + 1,t,h=>by
    by_cases o1:t.op=1
    . have e:ba ix fs (d+1) t=(0,t.q,yL fs.length 0):=if_pos o1
      rw[e] at h;exact absurd rfl h
    . by_cases o2:t.op=2
      . have e:ba ix fs (d+1) t=(0,fs.getD (ix t.s) 0,ef fs.length (ix t.s)):=(if_neg o1).trans (if_pos o2)
        rw[e] at h;exact absurd rfl h
      . have e:ba ix fs (d+1) t=md fs.length t.op t.n _ _:=(if_neg o1).trans (if_neg o2)
        rw[e] at h ⊢
        generalize (if 0<t.ks.length then ba ix fs d (t.ks.getD 0 dD) else (0,0,[]))=x at *
        generalize (if 1<t.ks.length then ba ix fs d (t.ks.getD 1 dD) else (0,0,[]))=y at *
        by_cases c1:x.1=0
        . by_cases c2:y.1=0
          . by_cases c3:cc t.op t.n x.2.1 y.2.1=0
            . rw[l9 c1 c2 c3] at h;exact absurd rfl h
            . rw[o8 c1 c2 c3]
          . rw[qI c1 c2]
        . rw[oc c1]
theorem GV (b:Bool)(c:Z9)(j e:Nat)(d:Z9)(a i:Nat)(w:World)(h:Hp)(g:G w h):CV 47 #[.agg #[.bool b,.slice c j e,.slice d a i]] w h (dQ ⟨1,0,b,c,j,e,d,a,i,⟨#[]⟩,none,0,0⟩):=by
 have f:=sS g;exact go Tryz.func47 [(0,.agg #[.bool b,qS c j e,qS d a i])] rfl (aD (lA 1 39 ([.bool b,qS c j e,qS d a i]) f (fun x w2 y f=>lA 2 42 (dq ⟨0,0,false,none,0,0,none,0,0,⟨#[]⟩,none,0,0⟩) f (fun l u p f=>aK (lL f [.o (.agg #[.bool b,qS c j e,qS d a i]) 1 0 3,.v (dQ ⟨1,0,b,c,j,e,d,a,i,⟨#[]⟩,none,0,0⟩)] (lP 0 0 (dq ⟨1,0,b,c,j,e,d,a,i,⟨#[]⟩,none,0,0⟩) f (fun z f=>ah f [(0,0,7)] (dQ ⟨1,0,b,c,j,e,d,a,i,⟨#[]⟩,none,0,0⟩) rfl)))))))
theorem Fp (op:Int)(a rb:RTm)(w:World)(h:Hp)(g:G w h):CR 48 #[iV op,dQ a,dQ rb] w h (fun v h1=>∃ b,v=dQ ⟨op,0,false,none,0,0,none,0,0,⟨#[]⟩,sB b,2,2⟩/\SlO 7 dq gH h1 (sB b) [a,rb]):=by
 have e:=sS g;refine go Tryz.func48 [(0,iV op),(1,dQ a),(2,dQ rb)] rfl (aD (lA 4 42 (dq a) e (fun C w2 z e=>lA 5 42 (dq rb) e (fun u x j e=>lA 6 42 (dq ⟨0,0,false,none,0,0,none,0,0,⟨#[]⟩,none,0,0⟩) e (fun B y p e=>aK (lL e [.c,.o (dQ a) 2 0 7,.o (dQ rb) 1 0 7] (lR 10 42 2 ([iV a.op,iV a.n,.bool a.neg,qS a.zA a.zn a.zc,qS a.dA a.dn a.dc,.string a.s,qS a.A a.m a.c,iV rb.op,iV rb.n,.bool rb.neg,qS rb.zA rb.zn rb.zc,qS rb.dA rb.dn rb.dc,.string rb.s,qS rb.A rb.m rb.c]) e (fun i _ _ e=>?_))))))));replace e:=e.aS (SlO.of_flat (sz:=7) (f:=dq) (d:=gH) (b:=i) (o:=0) (l:=([(⟨a.op,a.n,a.neg,a.zA,a.zn,a.zc,a.dA,a.dn,a.dc,a.s,a.A,a.m,a.c⟩:RTm),(⟨rb.op,rb.n,rb.neg,rb.zA,rb.zn,rb.zc,rb.dA,rb.dn,rb.dc,rb.s,rb.A,rb.m,rb.c⟩:RTm)]:List RTm)) (fun _=>rfl) e.f.1);exact lL e [.v (dQ ⟨op,0,false,none,0,0,none,0,0,⟨#[]⟩,sB i,2,2⟩)] (lP 0 0 (dq ⟨op,0,false,none,0,0,none,0,0,⟨#[]⟩,sB i,2,2⟩) e (fun _ e=>ah e [(0,0,7)] (dQ ⟨op,0,false,none,0,0,none,0,0,⟨#[]⟩,sB i,2,2⟩) (⟨_,rfl,e.f.1⟩)))
theorem vZ  (w:World)(h:Hp)(g:G w h):CR 6 #[] w h (fun v h1=>∃ b,v=.slice (sB b) 3 3/\SlO 1 dS ⟨#[]⟩ h1 (sB b) en):=by
 have a:=sS g;refine go Tryz.func6 [] rfl (ab a ae (aK (lR 1 9 3 ([.string (⟨#[120]⟩),.string (⟨#[121]⟩),.string (⟨#[122]⟩)]) a (fun c w2 e a=>?_))));replace a:=a.aS (SlO.of_flat (sz:=1) (f:=dS) (d:=⟨#[]⟩) (b:=c) (o:=0) (l:=en) (fun _=>rfl) a.f.1);exact lL a ae (ah a [] (qS (sB c) 3 3) (⟨_,rfl,a.f.1⟩))
theorem F2 (op:Int)(a:RTm)(w:World)(h:Hp)(g:G w h):CR 49 #[iV op,dQ a] w h (fun v h1=>∃ b,v=dQ ⟨op,0,false,none,0,0,none,0,0,⟨#[]⟩,sB b,1,1⟩/\SlO 7 dq gH h1 (sB b) [a]):=by
 have e:=sS g;refine go Tryz.func49 [(0,iV op),(1,dQ a)] rfl (aD (lA 3 42 (dq a) e (fun x w2 z e=>lA 4 42 (dq ⟨0,0,false,none,0,0,none,0,0,⟨#[]⟩,none,0,0⟩) e (fun j p u e=>aK (lL e [.c,.o (dQ a) 1 0 7] (lR 7 42 1 ([iV a.op,iV a.n,.bool a.neg,qS a.zA a.zn a.zc,qS a.dA a.dn a.dc,.string a.s,qS a.A a.m a.c]) e (fun i y B e=>?_)))))));replace e:=e.aS (SlO.of_flat (sz:=7) (f:=dq) (d:=gH) (b:=i) (o:=0) (l:=([(⟨a.op,a.n,a.neg,a.zA,a.zn,a.zc,a.dA,a.dn,a.dc,a.s,a.A,a.m,a.c⟩:RTm)]:List RTm)) (fun _=>rfl) e.f.1);exact lL e [.v (dQ ⟨op,0,false,none,0,0,none,0,0,⟨#[]⟩,sB i,1,1⟩)] (lP 0 0 (dq ⟨op,0,false,none,0,0,none,0,0,⟨#[]⟩,sB i,1,1⟩) e (fun _ e=>ah e [(0,0,7)] (dQ ⟨op,0,false,none,0,0,none,0,0,⟨#[]⟩,sB i,1,1⟩) (⟨_,rfl,e.f.1⟩)))
theorem Gf (a:RTm)(i:Int)(w:World)(h:Hp)(g:G w h):CR 50 #[dQ a,iV i] w h (fun v h1=>∃ b,v=dQ ⟨8,i,false,none,0,0,none,0,0,⟨#[]⟩,sB b,1,1⟩/\SlO 7 dq gH h1 (sB b) [a]):=by
 have e:=sS g;refine go Tryz.func50 [(0,dQ a),(1,iV i)] rfl (aD (lA 2 42 (dq a) e (fun y w2 B e=>lA 4 42 (dq ⟨0,0,false,none,0,0,none,0,0,⟨#[]⟩,none,0,0⟩) e (fun p u x e=>aK (lL e [.c,.o (dQ a) 1 0 7] (lR 7 42 1 ([iV a.op,iV a.n,.bool a.neg,qS a.zA a.zn a.zc,qS a.dA a.dn a.dc,.string a.s,qS a.A a.m a.c]) e (fun j z C e=>?_)))))));replace e:=e.aS (SlO.of_flat (sz:=7) (f:=dq) (d:=gH) (b:=j) (o:=0) (l:=([(⟨a.op,a.n,a.neg,a.zA,a.zn,a.zc,a.dA,a.dn,a.dc,a.s,a.A,a.m,a.c⟩:RTm)]:List RTm)) (fun _=>rfl) e.f.1);exact lL e [.v (dQ ⟨8,i,false,none,0,0,none,0,0,⟨#[]⟩,sB j,1,1⟩)] (lP 0 0 (dq ⟨8,i,false,none,0,0,none,0,0,⟨#[]⟩,sB j,1,1⟩) e (fun _ e=>ah e [(0,0,7)] (dQ ⟨8,i,false,none,0,0,none,0,0,⟨#[]⟩,sB j,1,1⟩) (⟨_,rfl,e.f.1⟩)))
section
variable {d:Nat}
theorem G9 (b:Bool)(f:Z9)(l a:Nat)(i:Z9)(c j:Nat){q:Rat}(w:World)(h:Hp)(g:G w h)(hz:RZ h (b,.slice f l a,.slice i c j) q):CR 47 #[.agg #[.bool b,.slice f l a,.slice i c j]] w h (fun v h1=>∃ r,v=dQ r/\RmH (d+1) h1 r (.mk 1 0 q ⟨#[]⟩ [])) :=
 (GV b f l a i c j w h g).mono fun e w' ⟨v,o,e1,u,e2⟩=>⟨v,o,e1,u,_,e2,Do (hz.gw u.gr.gw)⟩
theorem l8 (op:Int)(a rb:RTm)(t u:Tm)(w:World)(h:Hp)(g:G w h)(x:RmH d h a t)(y:RmH d h rb u):CR 48 #[iV op,dQ a,dQ rb] w h (fun v h1=>∃ r,v=dQ r/\RmH (d+1) h1 r (.mk op 0 0 ⟨#[]⟩ [t,u])) :=
 (Fp op a rb w h g).mono fun e w' ⟨v,c,e1,up,b,e2,f⟩=>⟨v,c,e1,up,_,e2,DV (x.gw up.gr.gw) (y.gw up.gr.gw) f⟩
theorem rv (op:Int)(a:RTm)(t:Tm)(w:World)(h:Hp)(g:G w h)(x:RmH d h a t):CR 49 #[iV op,dQ a] w h (fun v h1=>∃ r,v=dQ r/\RmH (d+1) h1 r (.mk op 0 0 ⟨#[]⟩ [t])) :=
 (F2 op a w h g).mono fun e w' ⟨v,c,e1,up,b,e2,f⟩=>⟨v,c,e1,up,_,e2,vo (x.gw up.gr.gw) f⟩
theorem EN (a:RTm)(t:Tm)(c:Int)(w:World)(h:Hp)(g:G w h)(x:RmH d h a t):CR 50 #[dQ a,iV c] w h (fun v h1=>∃ r,v=dQ r/\RmH (d+1) h1 r (.mk 8 c 0 ⟨#[]⟩ [t])) :=
 (Gf a c w h g).mono fun e w' ⟨v,f,e1,up,b,e2,i⟩=>⟨v,f,e1,up,_,e2,vo (x.gw up.gr.gw) i⟩
end
theorem vn (e:Nat)(A:Z9)(u:Nat)(x:List Int)(hl:x.length<=9223372036854775807)(hz:mM x)(j:Nat)(hdp:j<=1000)(I:∀ z:Int,z+1=(j:Nat)->0<=z->∀ at_:Nat,at_<=x.length->∀ (w:World) (h:Hp),G w h->Own w e 65 [.slice A x.length u,nV at_]->h[e]?=some aY->Si A x h->Calls Tryz.prog 17 #[pB e,iV z,.bool false] w (dN e w h (fun v w' h'=>∃ (r:RTm)(t:Tm)(at2:Nat),v=dQ r/\at2<=x.length/\Own w' e 65 [.slice A x.length u,nV at2]/\RmH j h' r t/\GrT j t)))(at_:Nat)(ha:at_<=x.length)(w:World)(h:Hp)(g:G w h)(ho:Own w e 65 [.slice A x.length u,nV at_])(hj:h[e]?=some aY)(hA:Si A x h):Calls Tryz.prog 17 #[pB e,nV j,.bool false] w (dN e w h (fun v w' h'=>∃ (r:RTm)(t:Tm)(at2:Nat),v=dQ r/\at2<=x.length/\Own w' e 65 [.slice A x.length u,nV at2]/\RmH (j+1) h' r t/\GrT (j+1) t)):=by
 have b:UpM [e] w h w h:=UpM.refl g;obtain ⟨wz,st,a⟩:=SS.at_ g ho hj;replace a:=a.aS hA;refine go Tryz.func17 [(0,pB e),(1,nV j),(2,qF)] rfl (aD (Gn 6 42 (dq ⟨0,0,false,none,0,0,none,0,0,⟨#[]⟩,none,0,0⟩) a (fun B w2 h3 u4 i a=>?_)));replace i:=e4 b.gr.size i;replace b:=b.trans (u4.m _);refine aK (lL a ae (fq 11 (wg A u x hl hz e at_ oM _ _ a.g (a.own 1) (a.jk 1) a.f.1) ?_));rintro _ w6 h7 u8 ⟨D,p,rfl,t0,mb,s0⟩;replace a:=(a.stepM 1 u8 s0).to [⟨B,42,dq ⟨0,0,false,none,0,0,none,0,0,⟨#[]⟩,none,0,0⟩⟩,⟨e,65,[qS A x.length u,nV p]⟩] [];replace b:=b.trans u8;have tb:=mb.1;have tq:=mb.2;refine jI 12 (mn (D) 19 oM oM _ _ a.g) ?_;rintro _ _ zr u12 rfl;replace b:=b.trans (u12.m _);replace a:=a.step u12;have lp9:=ew (D) 19 oM;refine lL a ae (ag (ab a aE (lG 15 ?_)));refine lG 16 ?_;refine lL a [.v qF] (am (cK (cQ (kZ (CG.join (fun Γ w_=>∃ (zq:Bool)(l:Hp),Γ=[(0,pB e),(1,nV j),(2,qF),(6,pB B),(7,nV (bX (D) 19)),(20,.bool zq)]/\SS wz st w_ l [⟨B,42,dq ⟨0,0,false,none,0,0,none,0,0,⟨#[]⟩,none,0,0⟩⟩,⟨e,65,[qS A x.length u,nV p]⟩] [] [Si A x]/\(zq=true->¬(1<=j/\2<=(bX (D) 19)/\(bX (D) 19)<17))/\(zq=false->(1<=j/\2<=(bX (D) 19)/\(bX (D) 19)<17))/\UpM [e] w h w_ l) ?_ ?_)))))
 .
  refine kQ (lL a ae ?_);cases zb:(decide ((j:Int)<(1:Int)))
  .
   have zu:=oF zb;refine lB 22 zb (lL a aE ?_);cases zc:(decide (((bX (D) 19:Nat):Int)<(2:Int)))
   .
    have zv:=oF zc;refine lB 25 zc (lL a [.v qF,.c,.c] ?_);cases zd:(decide ((17:Int)<=((bX (D) 19:Nat):Int)))
    .
     have zw:=oF zd;refine lB 29 zd (lL a [.v qF,.c] (lD ?_));intro a_ ka;exact ⟨_,⟨false,zr,rfl,a.to _ _,(fun l=>absurd l kD),(fun _=>by omega),b⟩,ka.to _ kR⟩
    have zw:=oT zd;refine lB 29 zd (lL a [.v qT,.c] (lD ?_));intro a_ ka;exact ⟨_,⟨true,zr,rfl,a.to _ _,(fun _=>by omega),(fun l=>absurd l kD),b⟩,ka.to _ kR⟩
   have zv:=oT zc;refine lB 25 zc (lL a [.v qT,.c] (lG 28 ?_));refine lG 29 (lL a [.v qT,.c] (lD ?_));intro a_ ka;exact ⟨_,⟨true,zr,rfl,a.to _ _,(fun _=>by omega),(fun l=>absurd l kD),b⟩,ka.to _ kR⟩
  have zu:=oT zb;refine lB 22 zb (lL a ae (lG 24 ?_));refine lG 25 (lL a [.v qT,.c] (lG 28 ?_));refine lG 29 (lL a [.v qT,.c] (lD ?_));intro a_ ka;exact ⟨_,⟨true,zr,rfl,a.to _ _,(fun _=>by omega),(fun l=>absurd l kD),b⟩,ka.to _ kR⟩
 rintro _ _ ⟨zq,_,rfl,a,t3,ss,b⟩;cases ze:(zq)
 .
  try rw[ze] at a
  try rw[ze]
  refine cD (aD ?_);have tv:=ss aM;refine lL a ae ?_;cases zf:(decide (((bX (D) 19:Nat):Int)<(4:Int)))
  .
   have zx:=oF zf;refine lB 49 zf (lL a ae (am (ab a ae ?_)));cases zg:(decide (((bX (D) 19:Nat):Int)<(5:Int)))
   .
    have zA:=oF zg;refine lB 63 zg (lL a ae (am (ab a ae ?_)));cases zi:(decide (((bX (D) 19:Nat):Int)<(7:Int)))
    .
     have zB:=oF zi;refine lB 77 zi (lL a ae (am (ab a ae ?_)));cases zj:(decide (((bX (D) 19:Nat):Int)<(8:Int)))
     .
      have zD:=oF zj;refine lB 91 zj (lL a ae (am (ab a ae ?_)));cases zk:(decide (((bX (D) 19:Nat):Int)<(9:Int)))
      .
       have zE:=oF zk;refine lB 100 zk (lL a ae (am (ab a ae ?_)));cases zl:(decide (((bX (D) 19:Nat):Int)<(11:Int)))
       .
        have zG:=oF zl;refine lB 117 zl (lL a ae (am (ab a ae ?_)));cases zm:(decide (((bX (D) 19:Nat):Int)<(12:Int)))
        .
         have zH:=oF zm;refine lB 131 zm (lL a ae (am (ab a ae ?_)));cases zn:(decide (((bX (D) 19:Nat):Int)<(13:Int)))
         .
          have zI:=oF zn;refine lB 140 zn (lL a ae (am (ab a ae ?_)));cases zo:(decide (((bX (D) 19:Nat):Int)<(15:Int)))
          .
           have zJ:=oF zo;refine lB 149 zo (lL a ae (am (ab a ae ?_)));cases zp:(decide (((bX (D) 19:Nat):Int)<(16:Int)))
           .
            have zK:=oF zp;refine lB 158 zp (lL a ae (am (cK (ab a aE (lI 172 ((j:Nat)-1) ?_)))));refine lL a ae (fq 174 (I ((j:Nat)-1) oM oM p oM _ _ a.g (a.own 1) (a.jk 1) a.f.1) ?_);rintro _ _ _ u44 ⟨mv,cr,bn,rfl,tp,n7,r2,r0⟩;replace a:=(a.stepM 1 u44 n7).to [⟨B,42,dq ⟨0,0,false,none,0,0,none,0,0,⟨#[]⟩,none,0,0⟩⟩,⟨e,65,[qS A x.length u,nV bn]⟩] [];replace b:=b.trans u44;replace a:=(a.add (K:=fun l=>RmH j l mv cr) r2);refine lL a aE (lI 177 ((j:Nat)-1) ?_);refine lL a ae (fq 179 (I ((j:Nat)-1) oM oM bn oM _ _ a.g (a.own 1) (a.jk 1) a.f.2.1) ?_);rintro _ _ _ u48 ⟨n2,cp,bz,rfl,qs,qq,sc,pl⟩;replace a:=(a.stepM 1 u48 qq).to [⟨B,42,dq ⟨0,0,false,none,0,0,none,0,0,⟨#[]⟩,none,0,0⟩⟩,⟨e,65,[qS A x.length u,nV bz]⟩] [];replace b:=b.trans u48;replace a:=(a.add (K:=fun l=>RmH j l n2 cp) sc);refine jI 180 (l8 13 mv n2 cr cp _ _ a.g a.f.2.1 a.f.1) ?_;rintro _ _ _ u52 ⟨r49,rfl,q4⟩;replace b:=b.trans (u52.m _);replace a:=a.step u52;replace a:=(a.add (K:=fun l=>RmH (j+1) l r49 (.mk 13 0 0 ⟨#[]⟩ [cr,cp])) q4);refine mF 0 0 (dq r49) a (fun _ y a=>?_);replace b:=b.put2 y i g a.g;refine lN (bY [(6,pB B)] ?_);exact kX (a.retM b [(0,0,7)] (dQ r49) ⟨_,_,bz,rfl,qs,a.own 1,a.f.1,r0.two pl rfl⟩)
           have zK:=oT zp;refine lB 158 zp (lL a ae (ar (ab a aE (lI 161 ((j:Nat)-1) ?_))));refine lL a ae (fq 163 (I ((j:Nat)-1) oM oM p oM _ _ a.g (a.own 1) (a.jk 1) a.f.1) ?_);rintro _ _ _ u57 ⟨n6,df,b2,rfl,s6,r4,q2,rl⟩;replace a:=(a.stepM 1 u57 r4).to [⟨B,42,dq ⟨0,0,false,none,0,0,none,0,0,⟨#[]⟩,none,0,0⟩⟩,⟨e,65,[qS A x.length u,nV b2]⟩] [];replace b:=b.trans u57;replace a:=(a.add (K:=fun l=>RmH j l n6 df) q2);refine lL a aE (lI 166 ((j:Nat)-1) ?_);refine lL a ae (fq 168 (I ((j:Nat)-1) oM oM b2 oM _ _ a.g (a.own 1) (a.jk 1) a.f.2.1) ?_);rintro _ _ _ u61 ⟨l0,cf,b0,rfl,q8,ql,p2,qb⟩;replace a:=(a.stepM 1 u61 ql).to [⟨B,42,dq ⟨0,0,false,none,0,0,none,0,0,⟨#[]⟩,none,0,0⟩⟩,⟨e,65,[qS A x.length u,nV b0]⟩] [];replace b:=b.trans u61;replace a:=(a.add (K:=fun l=>RmH j l l0 cf) p2);refine jI 169 (l8 12 n6 l0 df cf _ _ a.g a.f.2.1 a.f.1) ?_;rintro _ _ _ u65 ⟨r62,rfl,rf⟩;replace b:=b.trans (u65.m _);replace a:=a.step u65;replace a:=(a.add (K:=fun l=>RmH (j+1) l r62 (.mk 12 0 0 ⟨#[]⟩ [df,cf])) rf);refine mF 0 0 (dq r62) a (fun _ y a=>?_);replace b:=b.put2 y i g a.g;refine lN (bY [(0,pB e),(1,nV j),(2,qF),(6,pB B)] ?_);exact kX (a.retM b [(0,0,7)] (dQ r62) ⟨_,_,b0,rfl,q8,a.own 1,a.f.1,rl.two qb rfl⟩)
          have zJ:=oT zo;refine lB 149 zo (lL a ae (ar (ab a aE (lI 152 ((j:Nat)-1) ?_))));refine lL a ae (fq 154 (I ((j:Nat)-1) oM oM p oM _ _ a.g (a.own 1) (a.jk 1) a.f.1) ?_);rintro _ _ _ u70 ⟨nd,cw,b5,rfl,q5,sr,pb,p1⟩;replace a:=(a.stepM 1 u70 sr).to [⟨B,42,dq ⟨0,0,false,none,0,0,none,0,0,⟨#[]⟩,none,0,0⟩⟩,⟨e,65,[qS A x.length u,nV b5]⟩] [];replace b:=b.trans u70;replace a:=(a.add (K:=fun l=>RmH j l nd cw) pb);refine jI 155 (rv 11 nd cw _ _ a.g a.f.1) ?_;rintro _ _ _ u74 ⟨r71,rfl,q6⟩;replace b:=b.trans (u74.m _);replace a:=a.step u74;replace a:=(a.add (K:=fun l=>RmH (j+1) l r71 (.mk 11 0 0 ⟨#[]⟩ [cw])) q6);refine mF 0 0 (dq r71) a (fun _ y a=>?_);replace b:=b.put2 y i g a.g;exact lN (kX (a.retM b [(0,0,7)] (dQ r71) ⟨_,_,b5,rfl,q5,a.own 1,a.f.1,p1.one rfl (fun _=>rfl) kD kD⟩))
         have zI:=oT zn;refine lB 140 zn (lL a ae (ar (ab a aE (lI 143 ((j:Nat)-1) ?_))));refine lL a ae (fq 145 (I ((j:Nat)-1) oM oM p oM _ _ a.g (a.own 1) (a.jk 1) a.f.1) ?_);rintro _ _ _ u79 ⟨ls,cx,bm,rfl,q0,pw,sb,r1⟩;replace a:=(a.stepM 1 u79 pw).to [⟨B,42,dq ⟨0,0,false,none,0,0,none,0,0,⟨#[]⟩,none,0,0⟩⟩,⟨e,65,[qS A x.length u,nV bm]⟩] [];replace b:=b.trans u79;replace a:=(a.add (K:=fun l=>RmH j l ls cx) sb);refine jI 146 (rv 10 ls cx _ _ a.g a.f.1) ?_;rintro _ _ _ u83 ⟨r80,rfl,pk⟩;replace b:=b.trans (u83.m _);replace a:=a.step u83;replace a:=(a.add (K:=fun l=>RmH (j+1) l r80 (.mk 10 0 0 ⟨#[]⟩ [cx])) pk);refine mF 0 0 (dq r80) a (fun _ y a=>?_);replace b:=b.put2 y i g a.g;exact lN (kX (a.retM b [(0,0,7)] (dQ r80) ⟨_,_,bm,rfl,q0,a.own 1,a.f.1,r1.one rfl (fun _=>rfl) kD kD⟩))
        have zH:=oT zm;refine lB 131 zm (lL a ae (ar (ab a aE (lI 134 ((j:Nat)-1) ?_))));refine lL a ae (fq 136 (I ((j:Nat)-1) oM oM p oM _ _ a.g (a.own 1) (a.jk 1) a.f.1) ?_);rintro _ _ _ u88 ⟨k1,c6,b6,rfl,p3,rd,pc,p4⟩;replace a:=(a.stepM 1 u88 rd).to [⟨B,42,dq ⟨0,0,false,none,0,0,none,0,0,⟨#[]⟩,none,0,0⟩⟩,⟨e,65,[qS A x.length u,nV b6]⟩] [];replace b:=b.trans u88;replace a:=(a.add (K:=fun l=>RmH j l k1 c6) pc);refine jI 137 (rv 9 k1 c6 _ _ a.g a.f.1) ?_;rintro _ _ _ u92 ⟨r89,rfl,rs⟩;replace b:=b.trans (u92.m _);replace a:=a.step u92;replace a:=(a.add (K:=fun l=>RmH (j+1) l r89 (.mk 9 0 0 ⟨#[]⟩ [c6])) rs);refine mF 0 0 (dq r89) a (fun _ y a=>?_);replace b:=b.put2 y i g a.g;exact lN (kX (a.retM b [(0,0,7)] (dQ r89) ⟨_,_,b6,rfl,p3,a.own 1,a.f.1,p4.one rfl (fun _=>rfl) kD kD⟩))
       have zG:=oT zl;refine lB 117 zl (lL a ae (ar (ab a aE (lI 120 ((j:Nat)-1) ?_))));refine lL a ae (fq 122 (I ((j:Nat)-1) oM oM p oM _ _ a.g (a.own 1) (a.jk 1) a.f.1) ?_);rintro _ _ _ u97 ⟨ly,ds,b7,rfl,tt,q1,r3,q3⟩;replace a:=(a.stepM 1 u97 q1).to [⟨B,42,dq ⟨0,0,false,none,0,0,none,0,0,⟨#[]⟩,none,0,0⟩⟩,⟨e,65,[qS A x.length u,nV b7]⟩] [];replace b:=b.trans u97;replace a:=(a.add (K:=fun l=>RmH j l ly ds) r3);refine lL a aE (lI 125 ((j:Nat)-1) ?_);refine lL a ae (fq 127 (I ((j:Nat)-1) oM oM b7 oM _ _ a.g (a.own 1) (a.jk 1) a.f.2.1) ?_);rintro _ _ _ l4 ⟨mw,dn,bl,rfl,p0,r9,pv,qr⟩;replace a:=(a.stepM 1 l4 r9).to [⟨B,42,dq ⟨0,0,false,none,0,0,none,0,0,⟨#[]⟩,none,0,0⟩⟩,⟨e,65,[qS A x.length u,nV bl]⟩] [];replace b:=b.trans l4;replace a:=(a.add (K:=fun l=>RmH j l mw dn) pv);refine jI 128 (l8 6 ly mw ds dn _ _ a.g a.f.2.1 a.f.1) ?_;rintro _ _ _ l1 ⟨dy,rfl,kn⟩;replace b:=b.trans (l1.m _);replace a:=a.step l1;replace a:=(a.add (K:=fun l=>RmH (j+1) l dy (.mk 6 0 0 ⟨#[]⟩ [ds,dn])) kn);refine mF 0 0 (dq dy) a (fun _ y a=>?_);replace b:=b.put2 y i g a.g;exact lN (kX (a.retM b [(0,0,7)] (dQ dy) ⟨_,_,bl,rfl,p0,a.own 1,a.f.1,q3.two qr rfl⟩))
      have zE:=oT zk;refine lB 100 zk (lL a ae (ar (ab a ae (fq 102 (wg A u x hl hz e p oM _ _ a.g (a.own 1) (a.jk 1) a.f.1) ?_))));rintro _ _ _ nh ⟨S,H,rfl,s2,bq,fp⟩;replace a:=(a.stepM 1 nh fp).to [⟨B,42,dq ⟨0,0,false,none,0,0,none,0,0,⟨#[]⟩,none,0,0⟩⟩,⟨e,65,[qS A x.length u,nV H]⟩] [];replace b:=b.trans nh;have s1:=bq.1;have sy:=bq.2;refine jI 103 (mn (S) 6 oM oM _ _ a.g) ?_;rintro _ _ _ nn rfl;replace b:=b.trans (nn.m _);replace a:=a.step nn;have s9:=ew (S) 6 oM;refine lI 104 ((bX (S) 6:Nat)-2) (lL a ae (ag (ab a ae (am (cK (ab a aE (lI 110 ((j:Nat)-1) ?_)))))));refine lL a ae (fq 112 (I ((j:Nat)-1) oM oM H oM _ _ a.g (a.own 1) (a.jk 1) a.f.1) ?_);rintro _ _ _ nm ⟨cb,X,V,rfl,hh,ht,hd,j0⟩;replace a:=(a.stepM 1 nm ht).to [⟨B,42,dq ⟨0,0,false,none,0,0,none,0,0,⟨#[]⟩,none,0,0⟩⟩,⟨e,65,[qS A x.length u,nV V]⟩] [];replace b:=b.trans nm;replace a:=(a.add (K:=fun l=>RmH j l cb X) hd);refine lL a ae (jI 114 (EN cb X ((bX (S) 6:Nat)-2) _ _ a.g a.f.1) ?_);rintro _ _ _ ns ⟨c9,rfl,hq⟩;replace b:=b.trans (ns.m _);replace a:=a.step ns;replace a:=(a.add (K:=fun l=>RmH (j+1) l c9 (.mk 8 ((bX (S) 6:Nat)-2) 0 ⟨#[]⟩ [X])) hq);refine mF 0 0 (dq c9) a (fun _ y a=>?_);replace b:=b.put2 y i g a.g;exact lN (kX (a.retM b [(0,0,7)] (dQ c9) ⟨_,_,V,rfl,hh,a.own 1,a.f.1,j0.one rfl (fun l=>absurd rfl l) oM oM⟩))
     have zD:=oT zj;refine lB 91 zj (lL a ae (ar (ab a aE (lI 94 ((j:Nat)-1) ?_))));refine lL a ae (fq 96 (I ((j:Nat)-1) oM oM p oM _ _ a.g (a.own 1) (a.jk 1) a.f.1) ?_);rintro _ _ _ k3 ⟨c4,bd,U,rfl,f1,hn,h4,h8⟩;replace a:=(a.stepM 1 k3 hn).to [⟨B,42,dq ⟨0,0,false,none,0,0,none,0,0,⟨#[]⟩,none,0,0⟩⟩,⟨e,65,[qS A x.length u,nV U]⟩] [];replace b:=b.trans k3;replace a:=(a.add (K:=fun l=>RmH j l c4 bd) h4);refine jI 97 (rv 7 c4 bd _ _ a.g a.f.1) ?_;rintro _ _ _ m5 ⟨dc,rfl,j1⟩;replace b:=b.trans (m5.m _);replace a:=a.step m5;replace a:=(a.add (K:=fun l=>RmH (j+1) l dc (.mk 7 0 0 ⟨#[]⟩ [bd])) j1);refine mF 0 0 (dq dc) a (fun _ y a=>?_);replace b:=b.put2 y i g a.g;exact lN (kX (a.retM b [(0,0,7)] (dQ dc) ⟨_,_,U,rfl,f1,a.own 1,a.f.1,h8.one rfl (fun _=>rfl) kD kD⟩))
    have zB:=oT zi;refine lB 77 zi (lL a ae (ar (ab a aE (lI 80 ((j:Nat)-1) ?_))));refine lL a ae (fq 82 (I ((j:Nat)-1) oM oM p oM _ _ a.g (a.own 1) (a.jk 1) a.f.1) ?_);rintro _ _ _ mz ⟨c8,bk,F,rfl,s4,h9,hb,hc⟩;replace a:=(a.stepM 1 mz h9).to [⟨B,42,dq ⟨0,0,false,none,0,0,none,0,0,⟨#[]⟩,none,0,0⟩⟩,⟨e,65,[qS A x.length u,nV F]⟩] [];replace b:=b.trans mz;replace a:=(a.add (K:=fun l=>RmH j l c8 bk) hb);refine lL a aE (lI 85 ((j:Nat)-1) ?_);refine lL a ae (fq 87 (I ((j:Nat)-1) oM oM F oM _ _ a.g (a.own 1) (a.jk 1) a.f.2.1) ?_);rintro _ _ _ n1 ⟨b9,bb,Q,rfl,f9,f6,d0,fm⟩;replace a:=(a.stepM 1 n1 f6).to [⟨B,42,dq ⟨0,0,false,none,0,0,none,0,0,⟨#[]⟩,none,0,0⟩⟩,⟨e,65,[qS A x.length u,nV Q]⟩] [];replace b:=b.trans n1;replace a:=(a.add (K:=fun l=>RmH j l b9 bb) d0);refine jI 88 (l8 5 c8 b9 bk bb _ _ a.g a.f.2.1 a.f.1) ?_;rintro _ _ _ nj ⟨cz,rfl,fn⟩;replace b:=b.trans (nj.m _);replace a:=a.step nj;replace a:=(a.add (K:=fun l=>RmH (j+1) l cz (.mk 5 0 0 ⟨#[]⟩ [bk,bb])) fn);refine mF 0 0 (dq cz) a (fun _ y a=>?_);replace b:=b.put2 y i g a.g;exact lN (kX (a.retM b [(0,0,7)] (dQ cz) ⟨_,_,Q,rfl,f9,a.own 1,a.f.1,hc.two fm rfl⟩))
   have zA:=oT zg;refine lB 63 zg (lL a ae (ar (ab a aE (lI 66 ((j:Nat)-1) ?_))));refine lL a ae (fq 68 (I ((j:Nat)-1) oM oM p oM _ _ a.g (a.own 1) (a.jk 1) a.f.1) ?_);rintro _ _ _ mp ⟨c3,bf,L,rfl,s3,hw,d2,h5⟩;replace a:=(a.stepM 1 mp hw).to [⟨B,42,dq ⟨0,0,false,none,0,0,none,0,0,⟨#[]⟩,none,0,0⟩⟩,⟨e,65,[qS A x.length u,nV L]⟩] [];replace b:=b.trans mp;replace a:=(a.add (K:=fun l=>RmH j l c3 bf) d2);refine lL a aE (lI 71 ((j:Nat)-1) ?_);refine lL a ae (fq 73 (I ((j:Nat)-1) oM oM L oM _ _ a.g (a.own 1) (a.jk 1) a.f.2.1) ?_);rintro _ _ _ lb ⟨cm,W,M,rfl,kq,f3,dz,d3⟩;replace a:=(a.stepM 1 lb f3).to [⟨B,42,dq ⟨0,0,false,none,0,0,none,0,0,⟨#[]⟩,none,0,0⟩⟩,⟨e,65,[qS A x.length u,nV M]⟩] [];replace b:=b.trans lb;replace a:=(a.add (K:=fun l=>RmH j l cm W) dz);refine jI 74 (l8 4 c3 cm bf W _ _ a.g a.f.2.1 a.f.1) ?_;rintro _ _ _ mf ⟨c7,rfl,f8⟩;replace b:=b.trans (mf.m _);replace a:=a.step mf;replace a:=(a.add (K:=fun l=>RmH (j+1) l c7 (.mk 4 0 0 ⟨#[]⟩ [bf,W])) f8);refine mF 0 0 (dq c7) a (fun _ y a=>?_);replace b:=b.put2 y i g a.g;exact lN (kX (a.retM b [(0,0,7)] (dQ c7) ⟨_,_,M,rfl,kq,a.own 1,a.f.1,h5.two d3 rfl⟩))
  have zx:=oT zf;refine lB 49 zf (lL a ae (ar (ab a aE (lI 52 ((j:Nat)-1) ?_))));refine lL a ae (fq 54 (I ((j:Nat)-1) oM oM p oM _ _ a.g (a.own 1) (a.jk 1) a.f.1) ?_);rintro _ _ _ my ⟨cy,Z,O,rfl,s5,hy,h6,kx⟩;replace a:=(a.stepM 1 my hy).to [⟨B,42,dq ⟨0,0,false,none,0,0,none,0,0,⟨#[]⟩,none,0,0⟩⟩,⟨e,65,[qS A x.length u,nV O]⟩] [];replace b:=b.trans my;replace a:=(a.add (K:=fun l=>RmH j l cy Z) h6);refine lL a aE (lI 57 ((j:Nat)-1) ?_);refine lL a ae (fq 59 (I ((j:Nat)-1) oM oM O oM _ _ a.g (a.own 1) (a.jk 1) a.f.2.1) ?_);rintro _ _ _ m0 ⟨ch,Y,J,rfl,f7,h2,hx,hm⟩;replace a:=(a.stepM 1 m0 h2).to [⟨B,42,dq ⟨0,0,false,none,0,0,none,0,0,⟨#[]⟩,none,0,0⟩⟩,⟨e,65,[qS A x.length u,nV J]⟩] [];replace b:=b.trans m0;replace a:=(a.add (K:=fun l=>RmH j l ch Y) hx);refine jI 60 (l8 3 cy ch Z Y _ _ a.g a.f.2.1 a.f.1) ?_;rintro _ _ _ k4 ⟨cq,rfl,hp⟩;replace b:=b.trans (k4.m _);replace a:=a.step k4;replace a:=(a.add (K:=fun l=>RmH (j+1) l cq (.mk 3 0 0 ⟨#[]⟩ [Z,Y])) hp);refine mF 0 0 (dq cq) a (fun _ y a=>?_);replace b:=b.put2 y i g a.g;exact lN (kX (a.retM b [(0,0,7)] (dQ cq) ⟨_,_,J,rfl,f7,a.own 1,a.f.1,kx.two hm rfl⟩))
 try rw[ze] at a
 try rw[ze]
 refine bZ (ab a ae (fq 32 (wg A u x hl hz e p oM _ _ a.g (a.own 1) (a.jk 1) a.f.1) ?_));rintro _ _ _ mx ⟨o,C,rfl,b3,b4,f2⟩;replace a:=(a.stepM 1 mx f2).to [⟨B,42,dq ⟨0,0,false,none,0,0,none,0,0,⟨#[]⟩,none,0,0⟩⟩,⟨e,65,[qS A x.length u,nV C]⟩] [];replace b:=b.trans mx;have dx:=b4.1;have c5:=b4.2;have t2:=rJ o 3 oM dx c5;refine lL a ae (ag (ab a ae (jI 34 (mn (o) 3 oM oM _ _ a.g) ?_)));rintro _ _ _ m1 rfl;replace b:=b.trans (m1.m _);replace a:=a.step m1;have tn:=ew (o) 3 oM;cases za:(((bX (o) 3:Nat):Int) == (0:Int))
 .
  have zt:=aq za;refine lB 35 za (am (cK (aD (jI 40 (vZ _ _ a.g) ?_))));rintro _ _ _ lx ⟨bN,rfl,hN0⟩;replace b:=b.trans (lx.m _);replace a:=a.step lx;replace a:=a.aS hN0;have t1:en.length=3:=rfl;refine lL a ae (lV 42 (iV ((o).tdiv 3)) ?_ (hr:=rS (((o).tdiv 3)) kR (mP oM oM)));refine jI 43 (mn ((o).tdiv 3) 3 oM oM _ _ a.g) ?_;rintro _ _ _ m3 rfl;replace b:=b.trans (m3.m _);replace a:=a.step m3;have ts:=ew ((o).tdiv 3) 3 oM;refine lX 44 (sB bN) 3 3 1 (bX ((o).tdiv 3) 3:Nat) (bX ((o).tdiv 3) 3:Nat) ((a.f.1).ok oM) (lH 45 (.string (en.getD (bX ((o).tdiv 3) 3:Nat) ⟨#[]⟩)) a ((a.f.1).el (bX ((o).tdiv 3) 3:Nat) oM) (lL a [.v (dQ ⟨2,0,false,none,0,0,none,0,0,en.getD (bX ((o).tdiv 3) 3:Nat) ⟨#[]⟩,none,0,0⟩)] (mF 0 0 (dq ⟨2,0,false,none,0,0,none,0,0,en.getD (bX ((o).tdiv 3) 3:Nat) ⟨#[]⟩,none,0,0⟩) a (fun _ y a=>?_))));replace b:=b.put2 y i g a.g;exact lN (kX (a.retM b [(0,0,7)] (dQ ⟨2,0,false,none,0,0,none,0,0,en.getD (bX ((o).tdiv 3) 3:Nat) ⟨#[]⟩,none,0,0⟩) ⟨⟨2,0,false,none,0,0,none,0,0,en.getD (bX ((o).tdiv 3) 3:Nat) ⟨#[]⟩,none,0,0⟩,_,C,rfl,b3,a.own 1,AJ,GrT.name (Eh oM)⟩))
 have zt:=eq_of_beq za;refine lB 35 za (ar (ab a ae (lV 37 (iV ((o).tdiv 3)) ?_ (hr:=rS (((o).tdiv 3)) kR (mP oM oM)))));refine jI 38 (hR ((o).tdiv 3) oM oM _ _ a.g) ?_;rintro _ _ _ ms ⟨zQ,zR,zS,zU,rfl,zL,zM,zN,zP⟩;replace b:=b.trans (ms.m _);replace a:=a.step ms;replace a:=a.aP zN zP;refine jI 39 (G9 (d:=j) (ax (cX ((o).tdiv 3)).num) zQ ((lim (ac (cX ((o).tdiv 3)).num)).length) zR zS ((lim (cX ((o).tdiv 3)).den).length) zU _ _ a.g ⟨true,⟨_,_,_,_,rfl,zL,zM,a.f.2.1,a.f.1⟩,fun l=>(by cases l)⟩) ?_;rintro _ _ _ m4 ⟨cd,rfl,d1⟩;replace b:=b.trans (m4.m _);replace a:=a.step m4;replace a:=(a.add (K:=fun l=>RmH (j+1) l cd (.mk 1 0 (cX ((o).tdiv 3)) ⟨#[]⟩ [])) d1);refine mF 0 0 (dq cd) a (fun _ y a=>?_);replace b:=b.put2 y i g a.g;exact lN (kX (a.retM b [(0,0,7)] (dQ cd) ⟨_,_,C,rfl,b3,a.own 1,a.f.1,GrT.num (LQ.hand _)⟩))
end Go.Proofs.YtcbgbcghmndlmaaGreatDoor
