/- Laws of this claim, part 2. -/
import Derived.Test.YteipbelehcpooaaGreatDoorQl0
set_option maxRecDepth 100000
set_option maxHeartbeats 4000000
namespace Go.Proofs.YteipbelehcpooaaGreatDoor
open _root_.Array renaming getElem?_append_left -> yh, getElem?_append_right -> y8, getElem?_eq_none -> ew, getElem?_replicate -> y9, getElem?_setIfInBounds_ne -> oi, getElem?_setIfInBounds_self_of_lt -> zF, setIfInBounds_comm -> g1
open Bool renaming and_eq_true -> ov, true_and -> J8
open Int renaming fdiv -> J7, toNat_natCast -> y6
open List renaming all_eq_true -> o4, drop_eq_getElem_cons -> Gx, drop_eq_nil_of_le -> yT, drop_zero -> yL, eq_nil_of_length_eq_zero -> yU, flatMap_cons -> yJ, getD_eq_getElem?_getD -> A4, getElem?_append_left -> yC, getElem?_append_right -> yF, getElem?_drop -> yE, getElem?_eq_none -> x4, getElem?_map -> JP, getElem?_range -> JQ, length_append -> yR, length_drop -> A5, length_set -> JJ, length_take -> A2, lookup_cons -> oa, mem_cons -> hP, mem_map -> g8, mem_of_mem_eraseIdx -> z6, mem_range -> pR, mem_singleton -> vl, range -> po, replicate -> y2, set_set -> Kc, take_length -> yN, take_of_length_le -> JF, take_zero -> Ka
open Nat renaming add_comm -> yQ, add_mul -> JG, add_mul_div_left -> JB, add_mul_mod_self_left -> J6, add_sub_cancel -> JM, add_zero -> yK, div_add_mod -> JK, div_div_eq_div_mul -> JD, div_eq_of_lt -> Bs, div_eq_of_lt_le -> JX, div_le_self -> Bb, div_lt_iff_lt_mul -> Av, div_mul_le_self -> JV, eq_zero_or_pos -> zT, gcd_comm -> Kb, le_refl -> ey, le_trans -> e6, lt_div_mul_add -> JW, lt_of_le_of_lt -> A9, lt_of_lt_of_le -> e7, lt_of_mul_lt_mul_right -> JY, lt_or_ge -> ep, min_eq_left -> Ga, min_eq_right -> JO, mod_add_div -> J3, mod_eq_of_lt -> y4, mod_lt -> y5, mul_add -> D1, mul_add_div -> J5, mul_assoc -> Ft, mul_comm -> Az, mul_div_mul_right -> J0, mul_le_mul -> J1, mul_le_mul_left -> Jx, mul_le_mul_right -> yX, mul_left_comm -> JH, mul_lt_mul_of_pos_left -> JL, mul_lt_mul_of_pos_right -> JZ, mul_mod_mul_right -> J2, mul_one -> JN, mul_succ -> JS, mul_zero -> Gb, one_mul -> JI, pos_of_ne_zero -> JT, pow_add -> Jw, pow_le_pow_right -> Ju, pow_mul -> Jz, pow_pos -> JC, pow_succ -> B2, pow_zero -> J9, succ_pos -> Kd, two_pow_add_eq_or_of_lt -> JR, two_pow_pos -> H1, zero_add -> yW, zero_le -> JU, zero_mod -> J4, zero_mul -> yS
open Go.RowKit
theorem Cy {b:Nat}{l y:List Nat}{k m c X:Nat}(hi:k+y.length<l.length)(inv:aq b l+b^(k+y.length)*c=X+b^k*(m*aq b (y.take y.length)))(h0:l.getD (k+y.length) 0=0) :
  aq b (l.set (k+y.length) c)=X+b^k*(m*aq b y):=by
 have h1:=dx b c hi;rw[yN] at inv
 rw[h0] at h1
 omega
theorem BL {b:Nat}{x:List Nat}{i X Y:Nat}(h:X=aq b (x.take i)*Y):X+b^i*(x.getD i 0*Y)=aq b (x.take (i+1))*Y:=by
 rw[a8,JG,h,Ft]
theorem Cz {b:Nat}{l:List Nat}{i d r a q X:Nat}(hi:i<l.length)(inv:X=d*(b^(i+1)*aq b (l.drop (i+1)))+(b^(i+1)*r+aq b (l.take (i+1))))(e:r*b+l.getD i 0=d*q+a) :
  X=d*(b^i*aq b ((l.set i q).drop i))+(b^i*a+aq b ((l.set i q).take i)):=by
 have e1:(l.set i q).take i=l.take i:=by rw[List.take_set_of_le (ey _)]
 have e2:aq b ((l.set i q).drop i)=q+b*aq b (l.drop (i+1)):=by
  rw[fN b (by simpa using hi),bO hi,if_pos rfl,List.drop_set_of_lt oM]
 rw[e1,e2,inv,aW b hi,B2];have c:b^i*(r*b+l.getD i 0)=b^i*(d*q+a):=by rw[e]
 have f:d*(b^i*(q+b*aq b (l.drop (i+1))))=b^i*(d*q)+d*(b^i*b*aq b (l.drop (i+1))):=by
  rw[D1,D1,<-Ft (b^i) b,JH d (b^i) q]
 have h:b^i*b*r=b^i*(r*b):=by rw[Ft,Az b r]
 rw[f,h]
 simp only[D1] at c
 omega
theorem B4 {b:Nat}{u v:List Nat}{j i G c c' a bo' t s X:Nat}(hi:j+i<u.length)(inv:aq b u+b^j*(G*aq b (v.take i))=X+b^(j+i)*(c+a))(e1:t+b*c'=G*v.getD i 0+c)(e2:s+t+a=u.getD (j+i) 0+b*bo') :
  aq b (u.set (j+i) s)+b^j*(G*aq b (v.take (i+1)))=X+b^(j+(i+1))*(c'+bo'):=by
 have h1:=dx b s hi;rw[a8,<-Nat.add_assoc,B2];have h:b^(j+i)=b^j*b^i:=Jw _ _ _
 have e:b^j*(G*(aq b (v.take i)+b^i*v.getD i 0))=b^j*(G*aq b (v.take i))+b^(j+i)*(G*v.getD i 0):=by
  rw[h,D1,D1,<-Ft G,Az G (b^i),Ft (b^i),<-Ft (b^j) (b^i)]
 rw[e];have f:b^(j+i)*(t+b*c')=b^(j+i)*(G*v.getD i 0+c):=by rw[e1]
 have d:b^(j+i)*(s+t+a)=b^(j+i)*(u.getD (j+i) 0+b*bo'):=by rw[e2]
 generalize b^(j+i)=P at *
 generalize aq b (u.set (j+i) s)=S at *
 generalize b^j*(G*aq b (v.take i))=Y at *
 simp only[D1,<-Ft] at f d inv ⊢
 omega
theorem FA {b:Nat}{u v:List Nat}{j G c a bo' s X:Nat}(hi:j+v.length<u.length)(inv:aq b u+b^j*(G*aq b (v.take v.length))=X+b^(j+v.length)*(c+a))(e2:s+c+a=u.getD (j+v.length) 0+b*bo') :
  aq b (u.set (j+v.length) s)+b^j*(G*aq b v)=X+b^(j+v.length+1)*bo':=by
 have h1:=dx b s hi;rw[yN] at inv
 rw[B2];have d:b^(j+v.length)*(s+c+a)=b^(j+v.length)*(u.getD (j+v.length) 0+b*bo'):=by rw[e2]
 generalize b^(j+v.length)=P at *
 generalize aq b (u.set (j+v.length) s)=S at *
 generalize b^j*(G*aq b v)=Y at *
 simp only[D1,<-Ft] at d inv ⊢
 omega
theorem B3 {b:Nat}{u v:List Nat}{j i c c' s X:Nat}(hi:j+i<u.length)(inv:aq b u+b^(j+i)*c=X+b^j*aq b (v.take i))(e:s+b*c'=u.getD (j+i) 0+v.getD i 0+c) :
  aq b (u.set (j+i) s)+b^(j+(i+1))*c'=X+b^j*aq b (v.take (i+1)):=by
 have:=p7 (b:=b) (l:=u) (y:=v) (k:=j) (j:=i) (m:=1) (c:=c) (c':=c') (s:=s) (X:=X) hi (by rw[JI];exact inv) (by rw[JI];exact e);rw[JI] at this
 exact this
theorem Fp {b:Nat}{u v:List Nat}{j c c' s X:Nat}(hi:j+v.length<u.length)(inv:aq b u+b^(j+v.length)*c=X+b^j*aq b (v.take v.length))(e:s+b*c'=u.getD (j+v.length) 0+c) :
  aq b (u.set (j+v.length) s)+b^(j+v.length+1)*c'=X+b^j*aq b v:=by
 have h1:=dx b s hi;rw[yN] at inv
 rw[B2];have a:b^(j+v.length)*(s+b*c')=b^(j+v.length)*(u.getD (j+v.length) 0+c):=by rw[e]
 generalize b^(j+v.length)=P at *
 generalize aq b (u.set (j+v.length) s)=S at *
 generalize b^j*aq b v=Y at *
 simp only[D1,<-Ft] at a inv ⊢
 omega
def Above (u u0:List Nat)(k:Nat):Prop:=u.length=u0.length/\∀ i,k<=i->u.getD i 0=u0.getD i 0
theorem Above.refl (u:List Nat)(k:Nat):Above u u k:=⟨rfl,fun _ _=>rfl⟩
theorem Above.set {u a:List Nat}{k i x:Nat}(h:Above u a k)(hi:i<k)(b:i<u.length):Above (u.set i x) a k:=⟨by rw[JJ];exact h.1,fun j c=>by rw[bO b,if_neg oM];exact h.2 j c⟩
theorem jE {b:Nat}(d:0<b){u a:List Nat}{k:Nat}(h:Above u a k)(hd:Dg b u)(c:Dg b a)(hk:k<=u.length)(h0:aq b a<b^k):aq b u<b^k:=by
 have e:=cn b hk;have h1:=cC (hd.take k);rw[A2,Ga hk] at h1
 have hz:aq b (u.drop k)=0:=ip b (fun i=>by
  rw[bL,h.2 _ oM];exact (iM b (l:=a) (k:=k) (m:=0) (by rw[<-h.1];exact hk) d c h0).2 _ oM)
 rw[hz] at e
 omega
theorem kE {b n j R v d G f:Nat}(F:2<=b)(H:2<=n)(o:b^(n-1)<=v)(c:v<b^n)(hR:R<b^(j+1)*v)(x:d<b^(j+n+1))(e:d+b^j*(G*v)=R+b^(j+n+1)*f)(C:f<=1)
    (hG:R/(b^j*v)<=G/\G<=R/(b^j*v)+1) :
    (f=0->G=R/(b^j*v)/\d=R-b^j*(G*v)/\d<b^j*v/\b^j*(G*v)<=R)/\(f=1->G=R/(b^j*v)+1/\d+b^j*v=(R-b^j*((G-1)*v))+b^(j+n+1)/\R-b^j*((G-1)*v)<b^j*v/\b^j*((G-1)*v)<=R):=by
  have p:0<b^j:=JC oM;have i:0<v:=e7 (JC oM) o;have z:0<b^j*v:=Nat.mul_pos p i;have k:∀ g,b^j*(g*v)=g*(b^j*v):=fun g=>by rw[<-Ft,Az (b^j) g,Ft]
  have l:=JK R (b^j*v);have y:=y5 R z;rw[Az] at l
  rw[k] at e
  have u:b^j*v<b^(j+n+1):=by
    have h1:b^j*v<b^j*b^n:=JL c p;rw[<-Jw] at h1
    have D:b^(j+n)<=b^(j+n+1):=Ju oM oM
    omega
  have B:R<b^(j+n+1):=by
    have h1:b^(j+1)*v<b^(j+1)*b^n:=JL c (JC oM);rw[<-Jw,show j+1+n=j+n+1 by omega] at h1
    omega
  generalize b^(j+n+1)=T at *
  generalize hWe:b^j*v=W at *
  generalize hQ:R/W=Q at *
  refine ⟨fun h=>?_,fun h=>?_⟩
  . subst h
    rw[k]
    have a:G=Q:=by
      rcases ep Q G with h1|h1
      . exfalso
        have:G=Q+1:=by omega
        subst this;rw[JG] at e
        omega
      . omega
    subst a
    omega
  . subst h
    have a:G=Q+1:=by
      rcases ep Q G with h1|h1
      . omega
      . exfalso
        have:G=Q:=by omega
        subst this
        omega
    subst a;rw[k,JM];rw[JG] at e
    omega
theorem vj {b n j G:Nat}{u v:List Nat}(K:2<=b)(L:2<=n)(J:v.length=n)(h:Dg b v)(z:Dg b u)(M:j+n<u.length)(H:v.getD (n-1) 0≠0)(hR:aq b u<b^(j+1)*aq b v)
  (hG:G*(v.getD (n-1) 0*b+v.getD (n-2) 0)<=u.getD (j+n) 0*b*b+u.getD (j+n-1) 0*b+u.getD (j+n-2) 0)
  (p:G+1=b\/u.getD (j+n) 0*b*b+u.getD (j+n-1) 0*b+u.getD (j+n-2) 0<(G+1)*(v.getD (n-1) 0*b+v.getD (n-2) 0))(x:G<b) :
  aq b u/(b^j*aq b v)<=G/\G<=aq b u/(b^j*aq b v)+1:=by
 have e:=cC h;rw[J] at e
 have B:0<b^(j+n-2):=JC oM
 have y:aq b u<b^(j+n-2+3):=by
  have h1:b^(j+1)*aq b v<b^(j+1)*b^n:=JL e (JC oM);rw[<-Jw,show j+1+n=j+n-2+3 by omega] at h1
  omega
 have d:∀ {l:List Nat} {k:Nat},k+3<=l.length->aq b ((l.drop k).take 3)=l.getD (k+2) 0*b*b+l.getD (k+1) 0*b+l.getD k 0:=fun {l k} hk=>by
  rw[a8,a8,a8,bL,bL,bL]
  simp[aq,B2]
  rw[Az b (l[k+1]?.getD 0),Az (b*b) (l[k+2]?.getD 0),Ft]
  omega
 have two:∀ {l:List Nat} {k:Nat},k+2<=l.length->aq b ((l.drop k).take 2)=l.getD (k+1) 0*b+l.getD k 0:=fun {l k} hk=>by
  rw[a8,a8,bL,bL]
  simp[aq]
  rw[Az b (l[k+1]?.getD 0)]
  omega
 have C:=(iM b (l:=u) (k:=j+n-2) (m:=3) oM oM z y).1;have D:=(iM b (l:=v) (k:=n-2) (m:=2) oM oM h (by rw[show n-2+2=n by omega];exact e)).1;rw[d oM,show j+n-2+2=j+n by omega,show j+n-2+1=j+n-1 by omega] at C
 rw[two oM,show n-2+1=n-1 by omega] at D
 have a:b^(j+n-2)=b^j*b^(n-2):=by rw[<-Jw];congr 1;omega
 have o:0<b^(n-2):=JC oM;have f:=JK (aq b u) (b^(j+n-2));have F:=y5 (aq b u) B;have i:=JK (aq b v) (b^(n-2));have I:=y5 (aq b v) o;rw[C] at f
 rw[D] at i
 have c:b^(n-1)<=aq b v:=by
  have:=aW b (l:=v) (k:=n-1) oM;rw[show n-1+1=v.length by omega,yN] at this
  have O:b^(n-1)*1<=b^(n-1)*v.getD (n-1) 0:=Jx _ oM
  omega
 generalize hU:u.getD (j+n) 0*b*b+u.getD (j+n-1) 0*b+u.getD (j+n-2) 0=U at *
 generalize hV:v.getD (n-1) 0*b+v.getD (n-2) 0=V at *
 generalize aq b u%b^(j+n-2)=mu at *
 generalize aq b v%b^(n-2)=mv at *
 refine v7 (b:=b) (P:=b^(j+n-2)) (U:=U) (V:=V) B ?_ ?_ ?_ ?_ ?_ ?_ hG p x
 ·rw[Az];omega
 ·rw[JG,JI,Az U];omega
 ·rw[a,Az V,Ft]
  exact Jx _ oM
 ·rw[a,Az (V+1),Ft,D1,JN]
  exact JL oM (JC oM)
 ·rw[a,Az b (b^j*b^(n-2)),Ft]
  refine Jx _ ?_;rw[<-B2,show (n-2).succ=n-1 by omega];exact c
 ·rw[B2] at hR
  rw[<-Ft,Az b (b^j)];exact hR
def bC (s:ByteArray)(i:Nat):Nat:=(s.data.toList.getD i 0).toNat
theorem dM (s:ByteArray)(i:Nat):bC s i<256:=UInt8.toNat_lt _
def wv (s:ByteArray):Nat:=bC s 0+bC s 1*256+bC s 2*65536+bC s 3*16777216+bC s 4*4294967296+bC s 5*1099511627776+bC s 6*281474976710656+bC s 7*72057594037927936
theorem DS (s:ByteArray):wv s<18446744073709551616:=by
 have h0:=dM s 0;have h1:=dM s 1;have c:=dM s 2;have e:=dM s 3;have b:=dM s 4;have a:=dM s 5;have d:=dM s 6;have f:=dM s 7
 unfold wv;omega
section ops
variable {P:Program}{Γ:cH}{o:Oper}
theorem gG {tx:TypeId}{x i:Operand}{k:IntKind}{s:ByteArray}{n:Nat}{j:Int}(c:o.op=.index tx x i)(f:ev Γ x=.string s)(hi:ev Γ i=.int k j)(d:P.underlying tx=some .string)(e:j=(n:Int))(b:n<s.size)(w:World) :
  (execOp (ev Γ) o).run P w=.ok (.value (.int .u8 (bC s n:Nat))) w:=by
 unfold execOp;simp only[c];rw[f,hi,e]
 have h0:(0:Int)<=(n:Int):=Int.natCast_nonneg n;have a:n<s.data.size:=b
 have h1:s[n]?=some (s.data.toList.getD n 0):=by
  simp[b,a,ByteArray.getElem_eq_getElem_data]
 simp[Instr.index,asIntOf,run_underlying d,h1,bC,Result.andThen]
theorem qG {tx:TypeId}{x i:Operand}{k:IntKind}{s:ByteArray}{n:Nat}{j:Int}(a:o.op=.slice tx x (some i) none none)(e:ev Γ x=.string s)(hi:ev Γ i=.int k j)(c:P.underlying tx=some .string)(d:j=(n:Int))(b:n<=s.size)(w:World) :
  (execOp (ev Γ) o).run P w=.ok (.value (.string (s.extract n s.size))) w:=by
 unfold execOp;simp only[a]
 subst d;have h0:(n:Int)<=(s.size:Int):=by omega
 simp[Instr.sliceAt,e,hi,Instr.slice,run_underlying c,Instr.sliceBounds,Instr.sliceBound,asIntOf,Result.andThen,h0,b]
theorem iO {t u:TypeId}{x y:Operand}{ky:IntKind}{a n:Nat}(b:o.op=.binOp .shl t x y u)(f:ev Γ x=.int .u64 (a:Int))(c:ev Γ y=.int ky (n:Int))(w:World) :
    (execOp (ev Γ) o).run P w=.ok (.value (.int .u64 ((a*2^n%18446744073709551616:Nat):Int))) w:=by
  unfold execOp;simp only[b];rw[f,c]
  have hz:¬((n:Int)<0):=by omega
  have e:IntKind.wrap .u64 ((a:Int)*2^(min n IntKind.u64.bits))=((a*2^n%18446744073709551616:Nat):Int):=by
    have e1:(a:Int)*2^(min n IntKind.u64.bits)=((a*2^(min n 64):Nat):Int):=by
      rw[show IntKind.u64.bits=64 from rfl];push_cast;rfl
    rw[e1,AW]
    rcases ep n 64 with h|h
    . rw[Ga oM]
    . rw[JO h]
      have e2:(2:Nat)^n=18446744073709551616*2^(n-64):=by
        rw[show (18446744073709551616:Nat)=2^64 from rfl,<-Jw];congr 1;omega
      have d:a*2^n%18446744073709551616=0:=by rw[e2,<-Ft,Az a,Ft,Nat.mul_mod_right]
      rw[d,show (2:Nat)^64=18446744073709551616 from rfl,Nat.mul_mod_left]
  simp[binOp,eqGuard,Op.shift,Result.andThen,hz,e]
theorem ig {t u:TypeId}{x y:Operand}{ky:IntKind}{a n:Nat}(b:o.op=.binOp .shr t x y u)(f:ev Γ x=.int .u64 (a:Int))(c:ev Γ y=.int ky (n:Int))(i:a<18446744073709551616)(w:World) :
  (execOp (ev Γ) o).run P w=.ok (.value (.int .u64 ((a/2^n:Nat):Int))) w:=by
 unfold execOp;simp only[b];rw[f,c]
 have hz:¬((n:Int)<0):=by omega
 have d:(0:Int)<=2^(min n IntKind.u64.bits):=Int.pow_nonneg kD
 have e:(a:Int)/2^(min n IntKind.u64.bits)=((a/2^n:Nat):Int):=by
  have e1:(a:Int)/2^(min n IntKind.u64.bits)=((a/2^(min n 64):Nat):Int):=by
   rw[show IntKind.u64.bits=64 from rfl];push_cast;rfl
  rw[e1]
  rcases ep n 64 with h|h
  ·rw[Ga oM]
  ·have h1:(2:Nat)^64<=2^n:=Ju oM h
   rw[JO h,Bs oM,Bs oM]
 simp[binOp,eqGuard,Op.shift,Result.andThen,hz,Int.fdiv_eq_ediv_of_nonneg _ d,e]
theorem xq {t u:TypeId}{x y:Operand}{a:Nat}{m:Int}(p:Nat)(c:o.op=.binOp .and t x y u)(h:ev Γ x=.int .u64 (a:Int))(d:ev Γ y=.int .u64 m)(i:a<18446744073709551616)(b:p<=64/\m=((2^p-1:Nat):Int))(w:World) :
  (execOp (ev Γ) o).run P w=.ok (.value (.int .u64 ((a%2^p:Nat):Int))) w:=by
 unfold execOp;simp only[c];rw[h,d,b.2]
 have f:(2^p-1:Nat)<2^64:=by
  have:(2:Nat)^p<=2^64:=Ju oM b.1;have:=H1 p
  omega
 have e:bits .and .u64 (a:Int) ((2^p-1:Nat):Int)=((a%2^p:Nat):Int):=by
  unfold bits
  have h1:(BitVec.ofInt 64 (a:Int) &&& BitVec.ofInt 64 ((2^p-1:Nat):Int)).toNat=a%2^p:=by
   rw[BitVec.toNat_and,<-Nat.and_two_pow_sub_one_eq_mod]
   congr 1
   ·simp[BitVec.toNat_ofInt];omega
   ·rw[BitVec.toNat_ofInt,<-Int.natCast_emod,y6,y4 f]
  show IntKind.wrap .u64 (((BitVec.ofInt 64 (a:Int) &&& BitVec.ofInt 64 ((2^p-1:Nat):Int)).toNat:Nat):Int)=_
  rw[h1,AW];have:a%2^p<=a:=Nat.mod_le _ _;rw[y4 oM]
 simp[binOp,eqGuard,Result.andThen,intBits_and,e]
end ops
theorem xz (a b:Nat):IntKind.wrap .u64 ((a:Int)+(b:Int))=(((a+b)%18446744073709551616:Nat):Int):=by rw[IntKind.wrap_u64];omega
theorem DN (a b:Nat)(h:b<=18446744073709551616):IntKind.wrap .u64 ((a:Int)-(b:Int))=(((a+(18446744073709551616-b))%18446744073709551616:Nat):Int):=by rw[IntKind.wrap_u64];omega
theorem mM (a b:Nat):IntKind.wrap .u64 ((a:Int)*(b:Int))=((a*b%18446744073709551616:Nat):Int):=by
 rw[<-Int.natCast_mul,AW]
theorem mR (a b:Nat)(h:a*b<18446744073709551616):IntKind.wrap .u64 ((a:Int)*(b:Int))=((a*b:Nat):Int):=by rw[mM,y4 h]
theorem gM (a b:Nat)(h:b<=a)(c:a<18446744073709551616):IntKind.wrap .u64 ((a:Int)-(b:Int))=((a-b:Nat):Int):=by rw[IntKind.wrap_u64];omega
theorem ji (a b:Nat)(h:a+b<18446744073709551616):IntKind.wrap .u64 ((a:Int)+(b:Int))=((a+b:Nat):Int):=by rw[IntKind.wrap_u64];omega
theorem iu {s:ByteArray}(h:s=⟨#[]⟩):(s.toList == (⟨#[]⟩:ByteArray).toList)=true:=by rw[h,Lib.toList_data];rfl
theorem nH {s:ByteArray}(h:s.size≠0):s.data.toList≠[]:=fun e=>h (by
 have:s.data.size=s.data.toList.length:=by simp
 show s.data.size=0
 rw[this,e];rfl)
theorem ja {s:ByteArray}(h:s.size≠0):(s.toList == (⟨#[]⟩:ByteArray).toList)=false:=by
 rw[Lib.toList_data,Lib.toList_data];have:=nH h;cases e:s.data.toList with
 | nil=>exact absurd e this
 | cons a l=>rfl
theorem HK {s:ByteArray}(h:s=⟨#[]⟩):(!(s.toList == (⟨#[]⟩:ByteArray).toList))=false:=by rw[iu h];rfl
theorem Hr {s:ByteArray}(h:s.size≠0):(!(s.toList == (⟨#[]⟩:ByteArray).toList))=true:=by rw[ja h];rfl
theorem qB (s:ByteArray)(k i:Nat):bC (s.extract k s.size) i=bC s (k+i):=by
 unfold bC
 rw[Lib.extract_to_end]
 simp only[A4,yE]
def uJ (s t:ByteArray):Bool:=s.toList == t.toList
def p5 (s t:ByteArray):Bool:=!(s.toList == t.toList)
theorem AD {s t:ByteArray}(h:uJ s t=true):s=t:=by
 have e:=eq_of_beq (show (s.toList == t.toList)=true from h);rw[Lib.toList_data,Lib.toList_data] at e
 cases s;cases t;congr 1;exact Array.toList_inj.1 e
theorem As {s t:ByteArray}(h:uJ s t=false):¬s=t:=fun e=>by
 subst e;have:uJ s s=true:=beq_self_eq_true _;rw[this] at h;cases h
theorem BI {s t:ByteArray}(h:p5 s t=true):¬s=t:=As (by unfold p5 at h;unfold uJ;cases e:(s.toList == t.toList)<;>rw[e] at h<;>first|rfl|cases h)
theorem CX {s t:ByteArray}(h:p5 s t=false):s=t:=AD (by unfold p5 at h;unfold uJ;cases e:(s.toList == t.toList)<;>rw[e] at h<;>first|rfl|cases h)
def wds (n:Nat):List Nat:=jt 18446744073709551616 n
def aE (l:List Nat):Nat:=aq 18446744073709551616 l
def Wd (l:List Nat):Prop:=Dg 18446744073709551616 l
theorem aI (n:Nat):aE (wds n)=n:=nh kD n
theorem Wd.wds (n:Nat):Wd (wds n):=wH kD n
theorem Wd.get {l:List Nat}(h:Wd l)(k:Nat):l.getD k 0<18446744073709551616:=Dg.getD h kD k
theorem wM {p : Prop} (h : p := by first | omega | exact Wd.get (by assumption) _ | exact DS _) : p := h
theorem oS (n k:Nat):(wds n).getD k 0<18446744073709551616:=(Wd.wds n).get k
def b8 (x:Nat):List UInt8:=(po 8).map (fun k=>UInt8.ofNat (x/256^k))
theorem km (x:Nat):(b8 x).length=8:=rfl
theorem Ep (m:Nat):b8 (m%18446744073709551616)=b8 m:=by
 unfold b8
 apply List.map_congr_left
 intro k hk;have a:k<8:=pR.1 hk
 apply UInt8.toNat_inj.1
 show (m%18446744073709551616/256^k)%256=(m/256^k)%256
 have:k=0\/k=1\/k=2\/k=3\/k=4\/k=5\/k=6\/k=7:=by omega
 rcases this with rfl|rfl|rfl|rfl|rfl|rfl|rfl|rfl<;>omega
theorem xK:∀ (f m:Nat),m<=f->wb f m=(jt 18446744073709551616 m).flatMap b8
  | 0,m,h=>by
    have:m=0:=by omega
    subst this;rfl
  | f+1,m,h=>by
    unfold wb
    split
    . rename_i h0;subst h0;rfl
    . rw[eA kD oM,yJ,Ep,xK f _ oM];rfl
theorem Cq (n:Nat):jt 18446744073709551616 (n/18446744073709551616)=(jt 18446744073709551616 n).drop 1:=by
 rcases zT n with h|h
 ·subst h;rfl
 ·conv=>rhs;rw[eA kD h]
  rfl
theorem oY (n:Nat):(hi n).data.toList=((wds n).drop 1).flatMap b8:=by
 unfold hi wds
 rw[xK _ _ oM,Cq]
theorem oJ (l:List Nat):(l.flatMap b8).length=8*l.length:=by
 induction l with
 | nil=>rfl
 | cons x l ih=>rw[yJ,yR,ih,km,List.length_cons];omega
theorem iR (n:Nat):(hi n).size=8*((wds n).length-1):=by
 have:(hi n).size=(hi n).data.toList.length:=by rw[Array.length_toList];rfl
 rw[this,oY,oJ,A5]
theorem nZ:∀ (l:List Nat) (j k:Nat),j<l.length->k<8->(l.flatMap b8).getD (8*j+k) 0=(b8 (l.getD j 0)).getD k 0
  | [],j,k,hj,_=>by simp at hj
  | x::l,0,k,hj,hk=>by
    rw[yJ]
    simp only[A4]
    rw[yC (by rw[km];omega)]
    simp
  | x::l,j+1,k,hj,hk=>by
    rw[yJ,List.getD_cons_succ,<-nZ l j k (by simpa using hj) hk]
    simp only[A4]
    rw[yF (by rw[km];omega),km]
    congr 2
    omega
theorem Fi (x k:Nat)(hk:k<8):((b8 x).getD k 0).toNat=x/256^k%256:=by
 unfold b8
 simp only[A4,JP,JQ hk]
 rfl
theorem FC (n j k:Nat)(a:j+1<(wds n).length)(hk:k<8):bC (hi n) (8*j+k)=(wds n).getD (j+1) 0/256^k%256:=by
 unfold bC
 rw[oY,nZ _ _ _ (by rw[A5];omega) hk,Fi _ _ hk,bL,yQ 1 j]
theorem HS {s:ByteArray}{x:Nat}(a:x<18446744073709551616)(h:∀ k,k<8->bC s k=x/256^k%256):wv s=x:=by
 unfold wv
 rw[h 0 oM,h 1 oM,h 2 oM,h 3 oM,h 4 oM,h 5 oM,h 6 oM,h 7 oM]
 simp only[Nat.reducePow,Nat.div_one]
 omega
theorem jl (n j:Nat)(a:j+1<(wds n).length):wv ((hi n).extract (8*j) (hi n).size)=(wds n).getD (j+1) 0 :=
 HS (oS n _) (fun k hk=>by rw[qB,FC n j k a hk])
theorem dR {n:Nat}(h:n<18446744073709551616):hi n=⟨#[]⟩:=mA h
theorem dg {n:Nat}(h:18446744073709551616<=n):2<=(wds n).length:=by
 rcases ep (wds n).length 2 with h1|h1
 ·have a:=jw (b:=18446744073709551616) kD n
  have:(18446744073709551616:Nat)^(jt 18446744073709551616 n).length<=18446744073709551616^1:=Ju kD (by show (wds n).length<=1;omega)
  omega
 ·exact h1
theorem fw {n:Nat}(h:18446744073709551616<=n):(hi n).size≠0:=by rw[iR];have:=dg h;omega
theorem kj {n:Nat}(h0:0<n)(h:n<18446744073709551616):wds n=[n]:=by
 unfold wds
 rw[eA kD h0,y4 h,Bs h,jG]
theorem rC:wds 0=[]:=rfl
theorem ll {n:Nat}:0<(wds n).length↔0<n:=ud kD
theorem su (n:Nat):lo n=(((wds n).getD 0 0:Nat):Int):=by
 unfold lo wds
 rcases zT n with h|h
 ·subst h;rfl
 ·rw[eA kD h];rfl
theorem pH {l:List Nat}(h:Wd l):wds (aE l)=l.take (tl l l.length):=EW kD h
theorem l9 {n:Nat}(h:0<n):(wds n).getD ((wds n).length-1) 0≠0:=qU kD n h
theorem GV {n:Nat}{l:List UInt8}(h:l=((wds n).drop 1).flatMap b8):(⟨l.toArray⟩:ByteArray)=hi n:=by
 have:(hi n).data.toList=l:=by rw[oY,h]
 cases e:hi n with
 | mk d=>rw[e] at this;rw[<-this]
theorem dH (n:Nat):n<18446744073709551616^(wds n).length:=jw kD n
theorem dh {a b:Nat}(h:a<=b):(wds a).length<=(wds b).length:=fW kD (A9 h (dH b))
theorem iJ {a b:Nat}(k:Nat)(h:a<2^k):a ||| b*2^k=a+b*2^k:=by
 have:=JR h b;rw[Nat.or_comm,Az b,<-this];omega
def cA (a b:Nat):Int:=if a<b then -1 else if b<a then 1 else 0
theorem dW {a b:Nat}(h:a<b):cA a b = -1:=by simp[cA,h]
theorem fE {a b:Nat}(h:b<a):cA a b=1:=by unfold cA;rw[if_neg oM,if_pos h]
theorem iS {a b:Nat}(h:a=b):cA a b=0:=by unfold cA;rw[if_neg oM,if_neg oM]
theorem gB {a b:Nat}(h:b<=a):cA a b=0\/cA a b=1:=by
 unfold cA
 rw[if_neg oM]
 split<;>simp
theorem gm {a b:Nat}(h:(wds a).length<(wds b).length):a<b:=by
 rcases ep a b with hl|hl
 ·exact hl
 ·have:=dh hl;omega
theorem mr {a b k:Nat}(d:(wds a).length=(wds b).length)(hk:k<(wds a).length)(hd:(wds a).drop (k+1)=(wds b).drop (k+1))(c:(wds a).getD k 0<(wds b).getD k 0):a<b:=by
 have f:=cn 18446744073709551616 (l:=wds a) (k:=k+1) oM;have i:=cn 18446744073709551616 (l:=wds b) (k:=k+1) oM;have e1:aq 18446744073709551616 (wds a)=a:=aI a;have e2:aq 18446744073709551616 (wds b)=b:=aI b;have o:=aW 18446744073709551616 (l:=wds a) (k:=k) hk;have j:=aW 18446744073709551616 (l:=wds b) (k:=k) oM;have e:=cC (Dg.take (Wd.wds a) k);rw[A2,Ga oM] at e
 have h:18446744073709551616^k*(wds a).getD k 0+18446744073709551616^k<=18446744073709551616^k*(wds b).getD k 0:=by
  rw[<-JS];exact Jx _ c
 rw[hd] at f
 omega
theorem lM {a b k:Nat}(c:(wds a).length=(wds b).length)(hk:k<(wds a).length)(hd:(wds a).drop (k+1)=(wds b).drop (k+1))(d:(wds a).getD k 0≠(wds b).getD k 0):cA ((wds a).getD k 0) ((wds b).getD k 0)=cA a b:=by
 rcases ep ((wds a).getD k 0) ((wds b).getD k 0) with h|h
 ·rw[dW h,dW (mr c hk hd h)]
 ·rw[fE oM,fE (mr c.symm oM hd.symm oM)]
theorem fI {l m:List Nat}{k:Nat}(b:l.length=m.length)(hk:k<l.length)(hd:l.drop (k+1)=m.drop (k+1))(a:l.getD k 0=m.getD k 0):l.drop k=m.drop k:=by
 rw[Gx hk,Gx (l:=m) (i:=k) oM,hd]
 simp[hk,show k<m.length by omega] at a
 rw[a]
theorem tS (n:Nat):n%18446744073709551616=(wds n).getD 0 0:=Int.ofNat.inj (su n)
theorem oX {a b:Nat}(c:(wds a).length=(wds b).length)(hd:(wds a).drop 1=(wds b).drop 1):cA (a%18446744073709551616) (b%18446744073709551616)=cA a b:=by
  rw[tS,tS]
  by_cases h:(wds a).getD 0 0=(wds b).getD 0 0
  . have:a=b:=by
      rcases zT (wds a).length with h0|h0
      . have e1:=aI a
        have e2:=aI b;have d:wds a=[]:=yU h0;have e:wds b=[]:=yU oM;rw[d] at e1
        rw[e] at e2
        exact e1.symm.trans e2
      . have:=fI c h0 hd h
        simp only[yL] at this
        rw[<-aI a,<-aI b,this]
    rw[h,iS rfl,iS this]
  . refine lM c ?_ hd h
    rcases zT (wds a).length with h0|h0
    . exfalso;apply h
      have e1:wds a=[]:=yU h0;have e2:wds b=[]:=yU oM;rw[e1,e2]
    . exact h0
theorem tI {n:Nat}(h:(wds n).length<=1):n<18446744073709551616:=by
 rcases ep n 18446744073709551616 with h1|h1
 ·exact h1
 ·have:=dg h1;omega
theorem qi {a b:Nat}(c:(wds a).length-1=(wds b).length-1)(hd:(wds a).drop 1=(wds b).drop 1):cA (a%18446744073709551616) (b%18446744073709551616)=cA a b:=by
 rcases ep 1 (wds a).length with h|h
 ·exact oX oM hd
 ·rw[y4 (tI h),y4 (tI oM)]
theorem vV {n:Nat}(h:0<n):nb n=64*((wds n).length-1)+nb ((wds n).getD ((wds n).length-1) 0):=by
 have b:=ll.2 h;have e:=aW 18446744073709551616 (l:=wds n) (k:=(wds n).length-1) oM;rw[show (wds n).length-1+1=(wds n).length by omega,yN] at e
 have e1:aq 18446744073709551616 (wds n)=n:=aI n;have a:=cC (Dg.take (Wd.wds n) ((wds n).length-1));rw[A2,Ga oM] at a
 have e2:(18446744073709551616:Nat)^((wds n).length-1)=2^(64*((wds n).length-1)):=by rw[Jz]
 rw[e1,e2] at e
 rw[e2] at a
 have:=xW a (JT (l9 h));rw[<-e] at this
 exact this
theorem im {n:Nat}(h:n<18446744073709551616):Value.agg #[.int .u64 (n:Int),.string ⟨#[]⟩]=nv n:=by unfold nv;rw[jC h,mA h]
theorem ej {n:Nat}:(wds n).length<=1↔n<18446744073709551616:=by
 constructor
 ·intro h
  rcases ep n 18446744073709551616 with h1|h1
  ·exact h1
  ·have:=dg h1;omega
 ·intro h
  rcases zT n with h0|h0
  ·subst h0;simp[rC]
  ·rw[kj h0 h];simp
section bld
variable {P:Program}{n:Nat}{N R:Po}{X:Nat->Po}{ops:Array Oper}{k:Nat}{Γ:cH}{w0:World}{h0:Hp}{B:List Bx}{Rs:List Rw}{F:List (Hp->Prop)}{wB:World}{hB:Hp}
theorem SS.liftJ (s:SS w0 h0 wB hB B Rs F){w:World}(x:Ext wB w):∃ h',SS w0 h0 w h' B Rs F/\∀ b,wB.heap.size<=b->b<w.heap.size->h'[b]?=some bc:=by
 have c:=x.size;have e0:=s.g.size;refine ⟨hB++Array.replicate (w.heap.size-wB.heap.size) bc,s.step ⟨x,⟨by simp,fun b a=>yh a⟩,⟨by simp;omega,fun b=>?_⟩⟩,fun b h1 d=>?_⟩
 ·rcases ep b hB.size with a|a
  ·rw[yh a]
   have e:=Below.block x b oM
   rcases s.g.blk b with h1|h1
   ·exact .inl (h1.trans e.symm)
   ·exact .inr h1
  ·rw[y8 a,y9]
   by_cases hl:b<w.heap.size
   ·right;rw[if_pos oM]
   ·left;rw[if_neg oM,ew oM]
 ·rw[y8 oM,y9,if_pos oM]
theorem Jp (t:Nat)(ty:TypeId)(vs:List Value){w:World}{h:Hp}(s:SS w0 h0 w h B Rs F)(H:∀ w',Ext w w'->w.heap.size<=w'.heap.size->w'.heap[w.heap.size]?=some (.cells vs.toArray ty (0,0))->LG P n N R X ops (k+1) ((t,.pointer (some ⟨w.heap.size,0,none⟩))::Γ) w')(a:cL ops Γ k t n=true:=by kernel_rfl)
  (hr:(execOp (ev Γ) (am ops k)).run P w=.ok (.value (.pointer (some ⟨w.heap.size,0,none⟩))) (w.alloc (.cells vs.toArray ty (0,0))):=by kernel_rfl):LG P n N R X ops k Γ w :=
 LG.val t _ (w.alloc (.cells vs.toArray ty (0,0))) (bF a).1 (bF a).2 hr (H _ ((Ext.refl _).alloc _) (by rw[heap_alloc];simp) (by rw[heap_alloc];simp))
theorem IW (t:Nat){f:FuncId}{args:Array Value}{V:Value}{Q:World->Prop}{w:World}(s:SS w0 h0 wB hB B Rs F)(x:Ext wB w)(c:Calls P f args w fun e w'=>e=.returned V/\(Q w'/\Below wB.heap.size w w'))(H:∀ w' h',SS w0 h0 w' h' B Rs F->Ext wB w'->Q w'->LG P n N R X ops (k+1) ((t,V)::Γ) w')(a:cL ops Γ k t n=true:=by kernel_rfl)
  (hr:(execOp (ev Γ) (am ops k)).run P w=.ok (.enter f args) w:=by kernel_rfl):LG P n N R X ops k Γ w :=
 LG.call t f args (bF a).1 (bF a).2 hr (c.mono fun e w' ⟨i,q,b⟩=>by
  have d:Ext wB w':=Below.trans x b;obtain ⟨h',h,_⟩:=s.liftJ d;exact ⟨V,i,H w' h' h d q⟩)
def CW (a b:Nat):List Nat:=(po b).filter (fun c=>decide (a<=c))
theorem md {a b c:Nat}:c∈CW a b↔a<=c/\c<b:=by
 unfold CW;rw[List.mem_filter,pR];simp;omega
theorem A.takeK {M:Ms}{Q:Exit->Act->World->Prop}{k0:Nat}{L:Array Bool}{a:Act}{w:World}{i:Nat}{o:Oper}{v:Value}{S:World->Prop}
  (hi:ops[i]?=some o)(hk:i<k0)(d:Region.noSelect ops=true)(hf:Region.free .any ops L i=true)(hr:i∈Region.ready .any ops L)(z:∀ c a w,¬Q (.panic c) a w)
  (k:∀ w w',S w->Mo M.l w w'->S w')(x:S w)(y:YieldsIf P ops S o v a)
  (b:(∀ w,S w)\/(∀ w w',S w->Tl M w w'->S w')\/∀ j f,ops[j]?=some f->k0<=j->j≠i->∃ e∈f.after,Region.binds .any e=true/\e.on=i)
  (H:A M P ops Q k0 (L.setIfInBounds i true) (a.put o.dst v) w):A M P ops Q k0 L a w:=by
 unfold A at *
 rw[fL hr]
 exact ni hi (Region.noSelect_spec d) (fun c a w B=>absurd B (z _ _ _)) k _ _ _ _
  (fun j f u p h=>Region.free_spec hi hf j f u p h) b hr y x H hk
variable {M:Ms}{k0:Nat}{L:Array Bool}{w:World}
theorem aV (i t:Nat)(v:Value)(H:AG M P n N R X ops k0 (L.setIfInBounds i true) ((t,v)::Γ) w)(e:cE n ops k0 [] L Γ i t=true:=by kernel_rfl)(hv:∀ w,(execOp (ev Γ) (am ops i)).run P w=.ok (.value v) w:=by intro _;kernel_rfl):AG M P n N R X ops k0 L Γ w:=by
 obtain ⟨b,f⟩:=jq e;rw[ov] at b
 have c:=dy b.1;intro a d;have e1:=d.exec (Region.noSelect_spec c.sel i _ · · c.get) b.2;refine A.takeK (v:=v) (S:=fun _=>True) c.get c.lt c.sel c.free c.ready (fun _ _ _ h=>h) (fun _ _ _ _=>trivial) trivial (.inl ⟨d.want f,fun w _=>by rw[e1];exact hv w⟩) (.inl fun _=>trivial) ?_;rw[c.dst];exact H _ (d.put c.tn v)
theorem aL (i t:Nat)(v:Value)(hr:∀ w',Mo M.l w w'->(execOp (ev Γ) (am ops i)).run P w'=.ok (.value v) w')(H:AG M P n N R X ops k0 (L.setIfInBounds i true) ((t,v)::Γ) w)(p:CH n ops k0 [] L Γ i t=true:=by kernel_rfl):AG M P n N R X ops k0 L Γ w:=by
 obtain ⟨b,k⟩:=jY p;rw[ov,ov] at b
 obtain ⟨⟨f,h⟩,d⟩:=b;have c:=dy f;intro a e;have e1:=e.exec (Region.noSelect_spec c.sel i _ · · c.get) h;refine A.takeK (v:=v) (S:=fun w'=>Mo M.l w w') c.get c.lt c.sel c.free c.ready (fun _ _ _ o=>o) (fun _ _ h1 j=>h1.trans j) (Mo.refl _ _) (.inl ⟨e.want k,fun w' u=>by rw[e1];exact hr w' u⟩) (.inr (.inr (jU d))) ?_;rw[c.dst];exact H _ (e.put c.tn v)
theorem aH (i t:Nat)(v:Value){h:Hp}{b o:Nat}{cs:List Value}(s:SS w0 h0 w h B Rs F)(sg:Seg h b o cs)(H:AG M P n N R X ops k0 (L.setIfInBounds i true) ((t,v)::Γ) w)(hM:∀ b∈M.l,h[b]?=some bc)(a:CH n ops k0 [] L Γ i t=true:=by kernel_rfl)(d:bW P (execOp (ev Γ) (am ops i)) cs=some (.value v,lj b o cs.length):=by kernel_rfl):AG M P n N R X ops k0 L Γ w :=
 aL i t v (fun _ c=>Seg.runM sg s.g hM c d) H a
def GZ (ops:Array Oper)(k0:Nat)(L:Array Bool)(i:Nat):Bool:=decide (i<ops.size) && decide (i<k0) && Region.noSelect ops && (Region.ready .any ops L == [i])
theorem aC (i t:Nat){f:FuncId}{args:Array Value}(c:Calls P f args w fun e w'=>∃ v,e=.returned v/\Mo M.l w w'/\AG M P n N R X ops k0 (L.setIfInBounds i true) ((t,v)::Γ) w')(h:(GZ ops k0 L i && bx Γ (am ops i) && ((am ops i).dst == some t) && decide (t<n))=true:=by kernel_rfl)(x:bp ops Γ (am ops i)=some true:=by kernel_rfl)
  (hr:(execOp (ev Γ) (am ops i)).run P w=.ok (.enter f args) w:=by kernel_rfl):AG M P n N R X ops k0 L Γ w:=by
 simp only[ov,decide_eq_true_eq,beq_iff_eq] at h
 obtain ⟨⟨⟨h1,p⟩,y⟩,u⟩:=h
 unfold GZ at h1
 simp only[ov,decide_eq_true_eq,beq_iff_eq] at h1
 have k:=bH (ops:=ops) h1.1.1.1;intro a b;refine A.intro (fun h0=>by rw[h1.2] at h0;cases h0) (fun j d=>?_);rw[h1.2,vl] at d
 subst d;refine OpR.wpOp (R:=fun v w'=>Mo M.l w w'/\AG M P n N R X ops k0 (L.setIfInBounds j true) ((t,v)::Γ) w') k ⟨b.want x,.inr (.inr ⟨f,args,?_,c⟩)⟩ (fun v w' o=>⟨Rl.mo h1.1.1.2 o.1,?_⟩)
 ·rw[b.exec (Region.noSelect_spec h1.1.2 j _ · · k) p];exact hr
 ·rw[y];exact o.2 _ (b.put u v)
theorem Bd {id:Nat}(M:Ms)(k0:Nat)(b:P.follows .mixedOrders=true)(H:AG M P n N R X ops k0 (Array.replicate ops.size false) Γ w.drew):CG P n N R X (.region id ops true) Γ w:=by
 intro a c;refine wp_region_any b ?_;have h1:=H a c
 unfold A at h1
 rw[jc] at h1
 exact mH _ _ _ _ _ _ _ _ _ h1
theorem SS.drew {h:Hp}(s:SS w0 h0 w h B Rs F):SS w0 h0 w.drew h B Rs F:=s.step (Up.drew (Up.refl s.g))
theorem xk {K:Nat}{w w':World}(x:Below K w w'):Mo (CW K w.heap.size) w w':=⟨x.os,x.tape,x.output,x.size,fun c b a=>by
 rcases ep c K with h|h
 ·exact Below.block x c h
 ·exact absurd (md.2 ⟨h,b⟩) a⟩
theorem r7 {K:Nat}{T e:TypeId}{b:Nat}{bs:List Value}{w w1:World}(h:Lib.IsBuilder T e K b bs w)(x:Ext w w1):Lib.IsBuilder T e K b bs w1:=by
 have key:∀ p,Lib.BuilderAt T e K b p bs w->Lib.BuilderAt T e K b p bs w1:=by
  rintro p ⟨h1,v,a,f,i⟩
  have d:b<w.heap.size:=by
   rcases ep b w.heap.size with h'|h'
   ·exact h'
   ·rw[ew h'] at a;cases a
  exact ⟨h1,v,(Below.block x b d).trans a,eT f (fun c j=>Below.block x c (kw f j)),i⟩
 rcases h with h|h
 ·exact .inl (key _ h)
 ·exact .inr (key _ h)
theorem aX (i t:Nat)(A:Z9)(len b sz:Nat)(x:Int)(j:Nat)(d:A=some ⟨aB A,aO A,none⟩)(H:AG M P n N R X ops k0 (L.setIfInBounds i true) ((t,.pointer (some ⟨aB A,aO A+j*sz,none⟩))::Γ) w)(c:cE n ops k0 [] L Γ i t=true:=by kernel_rfl)(e:Ba P (ev Γ) (am ops i)=some (.slice A len b,.int .i64 x,sz):=by kernel_rfl)(hk:x=j:=by omega)(a:j<len:=by omega):AG M P n N R X ops k0 L Γ w :=
 aV i t _ H c (fun w=>gq e d hk a w)
theorem se {P:List UInt8}{x m:Nat}(a:m<8):Lib.byteCells (P++(b8 x).take m)++[.int .u8 ((x/2^(8*m)%256:Nat):Int)]=Lib.byteCells (P++(b8 x).take (m+1)):=by
 have e:(b8 x).take (m+1)=(b8 x).take m++[UInt8.ofNat (x/256^m)]:=by
  rw[List.take_add_one]
  congr 1
  unfold b8
  rw[JP,JQ a];rfl
 rw[e,<-List.append_assoc]
 unfold Lib.byteCells
 rw[List.map_append (l₁:=P++_)]
 congr 1
 show _=[Value.int .u8 ((x/256^m%256:Nat):Int)]
 rw[Jz]
theorem vg {l:List Nat}{k:Nat}(hk:k<l.length):((l.take k).flatMap b8)++(b8 (l.getD k 0)).take 8=(l.take (k+1)).flatMap b8:=by
 have e:(b8 (l.getD k 0)).take 8=b8 (l.getD k 0):=JF (by rw[km];omega);rw[iK hk,List.flatMap_append,e];simp
theorem vm {l:List Nat}{k m x:Nat}(hk:k<=l.length)(a:m<=8)(b:l.length<=1099511627776):(Lib.byteCells ((l.take k).flatMap b8++(b8 x).take m)).length+1<=140737488355328:=by
 rw[Lib.byteCells_length,yR,oJ,A2,A2,km];omega
theorem Dq {l:List Nat}(h:tl l l.length=0):Value.agg #[.int .u64 0,.string ⟨#[]⟩]=nv (aE l):=by
 have e:=jF 18446744073709551616 l l.length (ey _);rw[h,yN] at e
 have:aE l=0:=e.symm;rw[this];rfl
theorem FD {l:List Nat}(hd:Wd l)(h:tl l l.length=1):Value.agg #[.int .u64 (l.getD 0 0:Nat),.string ⟨#[]⟩]=nv (aE l):=by
 have e:=jF 18446744073709551616 l l.length (ey _);have a:=jf l l.length;rw[h,yN,a8] at e
 have e2:aE l=l.getD 0 0:=by show aq _ l=_;rw[<-e];simp[aq]
 rw[e2];have:=hd.get 0
 unfold nv
 rw[jC this,mA this]
theorem C5 {l:List Nat}(hd:Wd l)(h:0<tl l l.length):Value.agg #[.int .u64 (l.getD 0 0:Nat),.string ⟨(((l.drop 1).take (tl l l.length-1)).flatMap b8).toArray⟩]=nv (aE l):=by
 have e:=pH hd;have e1:((l.drop 1).take (tl l l.length-1))=(wds (aE l)).drop 1:=by rw[e,List.drop_take]
 unfold nv
 rw[GV (n:=aE l) (by rw[e1]),su,e,jj h]
end bld
theorem sH {B:List Bx}:∀ (c:List (Nat × Nat × Nat)) (q:Nat) (a:Addr),(bS B c)[q]?=some a->∃ p∈c,a.block=(aw B p.1).b:=by
  intro c
  induction c with
  | nil=>intro q a h;simp[bS] at h
  | cons p c ih =>
    intro q a h
    unfold bS at h
    rcases ep q (lj (aw B p.1).b p.2.1 p.2.2).length with hl|hl
    . rw[yC hl] at h
      exact ⟨p,by simp,by rw[eE _ _ _ _ _ h]⟩
    . rw[yF hl] at h
      obtain ⟨f,d,e⟩:=ih _ _ h;exact ⟨f,by simp[d],e⟩
section
variable {M:Ms}{P:Program}{n:Nat}{N R:Po}{X:Nat->Po}{ops:Array Oper}{k k0:Nat}{L:Array Bool}{Γ:cH}{w:World}{h:Hp}{w0:World}{h0:Hp}{B:List Bx}{Rs:List Rw}{F:List (Hp->Prop)}
theorem Hz {α:Type}(j:Nat)(l:List α)(f:α->List Value)(sz e:Nat)(x:α)(s:SS w0 h0 w h B Rs F)(hk:e<l.length)(H:∀ w',Put (aw B j).b w w'->SS w0 h0 w' h (gL B j ((l.set e x).flatMap f)) Rs F->LG P n N R X ops (k+1) Γ w')(c:cS ops Γ k=true:=by kernel_rfl)
  (a:decide (j<B.length)=true:=by kernel_rfl)(hB:(aw B j).vs=l.flatMap f:=by kernel_rfl)(hf:∀ x,(f x).length=sz:=by intro _;rfl)
  (i:dU P (execOp (ev Γ) (am ops k))=some (.skip,nL (aw B j).b (0+e*sz) (f x)):=by kernel_rfl):LG P n N R X ops k Γ w :=
 LG.putA j l f sz e x s.st s.g0 (gi c).1 (gi c).2 a hB hf hk i (fun w' p d=>H w' p (s.put0 (oT a) p d (jr (oT a))))
theorem Jg {α:Type}(i j:Nat)(l:List α)(f:α->List Value)(sz e:Nat)(x:α)(s:SS w0 h0 w h B Rs F)(hk:e<l.length)(H:∀ w',Put (aw B j).b w w'->SS w0 h0 w' h (gL B j ((l.set e x).flatMap f)) Rs F->AG M P n N R X ops k0 (L.setIfInBounds i true) Γ w')(c:Hm ops k0 L Γ i=true:=by kernel_rfl)
  (a:decide (j<B.length)=true:=by kernel_rfl)(hB:(aw B j).vs=l.flatMap f:=by kernel_rfl)(hf:∀ x,(f x).length=sz:=by intro _;rfl)
  (k:dU P (execOp (ev Γ) (am ops i))=some (.skip,nL (aw B j).b (0+e*sz) (f x)):=by kernel_rfl)(hz:∀ K bs,M.z=some (K,bs)->K<=(aw B j).b\/(aw B j).b∈bs:=by intro _ _ e;cases e):AG M P n N R X ops k0 L Γ w :=
 T.putA i j l f sz e x s.st s.g0 (nN c).1 (nN c).2 a hB hf hk k (fun w' p d=>H w' p (s.put0 (oT a) p d (jr (oT a)))) hz
theorem aQ {α:Type}(i t j:Nat)(l:List α)(f:α->List Value)(sz:Nat)(d:α)(e:Nat)(v:Value)(s:SS w0 h0 w h B Rs F)(hk:e<l.length)(H:AG M P n N R X ops k0 (L.setIfInBounds i true) ((t,v)::Γ) w)(hM:(aw B j).b ∉ M.l:=by exact List.not_mem_nil)(p:CH n ops k0 [] L Γ i t=true:=by kernel_rfl)
  (o:decide (j<B.length)=true:=by kernel_rfl)(hB:(aw B j).vs=l.flatMap f:=by kernel_rfl)(hf:∀ x,(f x).length=sz:=by intro _;rfl)
  (C:bW P (execOp (ev Γ) (am ops i)) (f (l.getD e d))=some (.value v,lj (aw B j).b (0+e*sz) (f (l.getD e d)).length):=by kernel_rfl):AG M P n N R X ops k0 L Γ w :=
 aL i t v (fun w' k=>bY _ _ _ _ C (fun q a u y c=>by
  rw[eE _ _ _ _ _ y,((s.st.own _ (br (oT o))).mo k hM).cell,hB];rw[<-eP hf d l e hk] at c
  have z:q<sz:=by
   rcases ep q sz with hl|hl
   ·exact hl
   ·rw[x4 (by simp;omega)] at c;cases c
  rw[List.getElem?_take_of_lt z,yE] at c
  rw[yW];exact c)) H p
theorem Bh (t j:Nat){f:FuncId}{args:Array Value}{Φ:Value->Prop}(s:SS w0 h0 w h B Rs F)(c:∀ hp,G w hp->AllF F hp->Seg hp (aw B j).b 0 (aw B j).vs->Calls P f args w (Ret w hp (fun v _=>Φ v)))(H:∀ v w' h',Up w h w' h'->SS w0 h0 w' h' B Rs F->Φ v->LG P n N R X ops (k+1) ((t,v)::Γ) w')(e:decide (j<B.length)=true:=by kernel_rfl)(d:cL ops Γ k t n=true:=by kernel_rfl)(hr:(execOp (ev Γ) (am ops k)).run P w=.ok (.enter f args) w:=by kernel_rfl):LG P n N R X ops k Γ w :=
 od t (s.lends (oT e) c) (fun v w' h' u a=>H v w' h' u (s.step u) a) d hr
theorem SS.lends2 (s:SS w0 h0 w h B Rs F){i j:Nat}(hi:i<B.length)(H:j<B.length)(p:i≠j){f:FuncId}{args:Array Value}{Φ:Value->Prop}(c:∀ a,G w a->AllF F a->Seg a (aw B i).b 0 (aw B i).vs->Seg a (aw B j).b 0 (aw B j).vs->Calls P f args w (Ret w a (fun v _=>Φ v))):Calls P f args w (Ret w h (fun v _=>Φ v)):=by
 have C:=br hi;have l:=br H;have K:(aw B j).b≠(aw B i).b:=bJ s.st (decide_eq_true H) (decide_eq_true hi) (by simpa using p.symm);obtain ⟨a,g,gw,sg,I⟩:=BA s.g (s.st.jk _ C) (s.st.own _ C);have k:a[(aw B j).b]?=some bc:=by rw[I _ K];exact s.st.jk _ l
 obtain ⟨o,D,d,y,z⟩:=BA g k (s.st.own _ l);refine (c o D ((s.f.gw s.mo gw).gw s.mo d) (sg.gw d) y).mono ?_;rintro e w' ⟨v,h',M,u,x⟩;obtain ⟨h1,u1⟩:=rY k z (g.sz D) u;obtain ⟨J,L⟩:=rY (s.st.jk _ C) I (s.g.sz g) u1;exact ⟨v,J,M,L,x⟩
theorem Ix (t i j:Nat){f:FuncId}{args:Array Value}{Φ:Value->Prop}(s:SS w0 h0 w h B Rs F)(c:∀ hp,G w hp->AllF F hp->Seg hp (aw B i).b 0 (aw B i).vs->Seg hp (aw B j).b 0 (aw B j).vs->Calls P f args w (Ret w hp (fun v _=>Φ v)))(H:∀ v w' h',SS w0 h0 w' h' B Rs F->Φ v->LG P n N R X ops (k+1) ((t,v)::Γ) w')(a:(decide (i<B.length) && decide (j<B.length) && (i != j))=true:=by kernel_rfl)(d:cL ops Γ k t n=true:=by kernel_rfl)(hr:(execOp (ev Γ) (am ops k)).run P w=.ok (.enter f args) w:=by kernel_rfl):LG P n N R X ops k Γ w:=by
 simp only[ov,decide_eq_true_eq,bne_iff_ne,ne_eq] at a
 exact lC t s (s.lends2 a.1.1 a.1.2 a.2 c) H d hr
theorem B5 {w w':World}{h f h':Hp}{b:Nat}{M:List Nat}(k:h[b]?=some bc)(l:∀ c,c≠b->f[c]?=h[c]?)(i:f.size=h.size)(u:UpM M w f w' h'):∃ d,UpM M w h w' d/\(∀ c,c≠b->d[c]?=h'[c]?):=by
 have o:=aF k;have a:b<h'.size:=e7 oM u.gr.size;refine ⟨h'.setIfInBounds b bc,⟨u.mo,⟨by simp;rw[<-i];exact u.gr.size,fun c j=>?_⟩,⟨by simp;exact u.g.size,fun c=>?_⟩⟩,fun c j=>oi (Ne.symm j)⟩
 ·by_cases e:b=c
  ·subst e;rw[zF a,k]
  ·rw[oi e,u.gr.blk c oM,l c (Ne.symm e)]
 ·by_cases e:b=c
  ·subst e;right;rw[zF a]
  ·rw[oi e];exact u.g.blk c
theorem G6 (t i j:Nat){f:FuncId}{args:Array Value}{Φ:Value->World->Prop}(s:SS w0 h0 w h B Rs F)(c:∀ d,G w d->AllF F d->d[(aw B i).b]?=some bc->Seg d (aw B j).b 0 (aw B j).vs->Calls P f args w (iw (aw B i).b w d (fun v w' _=>Φ v w')))(H:∀ v w' h',UpM [(aw B i).b] w h w' h'->Φ v w'->LG P n N R X ops (k+1) ((t,v)::Γ) w')(a:(decide (i<B.length) && decide (j<B.length) && (i != j))=true:=by kernel_rfl)(C:cL ops Γ k t n=true:=by kernel_rfl)(hr:(execOp (ev Γ) (am ops k)).run P w=.ok (.enter f args) w:=by kernel_rfl):LG P n N R X ops k Γ w:=by
 simp only[ov,decide_eq_true_eq,bne_iff_ne,ne_eq] at a
 have o:=br a.1.2;have z:(aw B i).b≠(aw B j).b:=bJ s.st (decide_eq_true a.1.1) (decide_eq_true a.1.2) (by simpa using a.2);obtain ⟨d,g,gw,sg,x⟩:=BA s.g (s.st.jk _ o) (s.st.own _ o);refine jg (rb:=(aw B i).b) (Φ:=fun v w' _=>Φ v w') (h:=h) t ((c d g (s.f.gw s.mo gw) (by rw[x _ z];exact s.st.jk _ (br a.1.1)) sg).mono ?_) (fun v w' h' u l=>H v w' h' u l) C hr;rintro e w' ⟨v,h',D,u,l⟩;obtain ⟨p,y,_⟩:=B5 (s.st.jk _ o) x (s.g.sz g) u;exact ⟨v,p,D,y,l⟩
theorem Je {α:Type}(t j:Nat)(x y:Operand)(D e:TypeId)(f:α->List Value)(d:α)(A:Z9)(l2:List α)(m m2 c S:Nat)(s:SS w0 h0 w h B Rs F)(so:SlO 1 f d h A l2)(K:l2.length=m2)(M:m2=m)(Q:0<m)(i:(aw B j).vs.length=m)
  (H:∀ w',SS w0 h0 w' h (gL B j (l2.flatMap f)) Rs F->LG P n N R X ops (k+1) ((t,.int .i64 (m:Nat))::Γ) w')(V:m<=1099511627776:=by omega)(I:cL ops Γ k t n=true:=by kernel_rfl)(W:decide (j<B.length)=true:=by kernel_rfl)
  (hf:∀ x,(f x).length=1:=by intro _;rfl)(h1:∀ x,(f x).all (·.oneCell')=true:=by intro _;kernel_rfl)(Y:(am ops k).op=.call { callee:=.builtin .copy,args:=#[x,y],argTypes:=#[D,D] }:=by kernel_rfl)(hx:ev Γ x=.slice (some ⟨(aw B j).b,0,none⟩) m S:=by kernel_rfl)(U:ev Γ y=.slice A m2 c:=by kernel_rfl)
  (O:P.underlying D=some (.slice e):=by kernel_rfl)(hi:(P.info? e).map (·.size)=some 1:=by kernel_rfl):LG P n N R X ops k Γ w:=by
 subst M;have hm:=K;have o:=oT W;have z:=s.st.own _ (br o);have C:(l2.flatMap f).length=m2:=by rw[eJ hf,hm];omega
 rw[so.ok oM] at U
 have l:=run_copy_row (P:=P) w D D (am ops k).type e (aw B j).b 0 m2 S ⟨aB A,aO A,none⟩ m2 c (aw B j).vs.toArray (aw B j).t (l2.flatMap f) O hi z (by rw[C];exact (Nat.min_self m2).symm) (uI s.g (so.flat hf)) (by rw[C];simp[i]) (fun u O=>by
  obtain ⟨a,_,ha⟩:=List.mem_flatMap.1 O;exact (o4.1 (h1 a)) u ha)
 have e1:((aw B j).vs.toArray.toList.take 0++l2.flatMap f++(aw B j).vs.toArray.toList.drop (0+(l2.flatMap f).length)).toArray=(l2.flatMap f).toArray:=by
  rw[C];simp[yT,i]
 rw[e1,C] at l
 have p:Put (aw B j).b w (w.setRow (aw B j).b (l2.flatMap f).toArray):=⟨rfl,rfl,rfl,by simp,fun c I=>setRow_other _ _ _ _ I⟩
 have L:Own (w.setRow (aw B j).b (l2.flatMap f).toArray) (aw B j).b (aw B j).t (fz (aw B j).vs 0 (l2.flatMap f)):=by
  have e2:fz (aw B j).vs 0 (l2.flatMap f)=l2.flatMap f:=by
   have:=kG (l2.flatMap f) (aw B j).vs [] (by rw[i,C])
   simpa using this
  rw[e2];exact setRow_heap _ _ _ _ _ _ z
 have J:=s.st.put s.g0 o p L
 have e2:fz (aw B j).vs 0 (l2.flatMap f)=l2.flatMap f:=by
  have:=kG (l2.flatMap f) (aw B j).vs [] (by rw[i,C])
  simpa using this
 unfold gE at J
 rw[e2] at J
 refine LG.val t _ _ (bF I).1 (bF I).2 ?_ (H _ (s.put0 o p J (jr o)))
 unfold execOp
 have Z:goInt m2=.int .i64 (m2:Nat):=rfl;rw[Z] at l
 simp only[Y,resolve,invoke,builtin,Sem.run_bind,Sem.run_pure,Result.andThen_ok,List.map_toArray,List.map_cons,List.map_nil,hx,U,l]
theorem qI {Q:Exit->Act->World->Prop}{i:Nat}{y:Oper}{v:Value}{S:World->Prop}(hi:ops[i]?=some y)(p:∀ (j:Nat) (o:Oper) cs b,ops[j]?=some o->o.op≠.select cs b)
    (hQ:∀ c a w,Q (.panic c) (a.put y.dst v) w->Q (.panic c) a w)(V:∀ w w',S w->Tl M w w'->S w') :
    ∀ (n:Nat) (L:Array Bool) (a:Act) (w:World),
      (∀ j x,ops[j]?=some x->j≠i->L.getD j true=false->(∀ e∈x.after,Region.binds .any e=true->e.on≠i)->y.apart ops x=true) ->
      i∈Region.ready .any ops L->YieldsIf P ops S y v a->S w->sL M P ops Q 0 n (L.setIfInBounds i true) (a.put y.dst v) w->sL M P ops Q 0 (n+1) L a w:=by
  intro n
  induction n with
  | zero =>
    intro L a w _ hr I F H;refine ⟨fun h=>(by rw[h] at hr;cases hr),fun j D=>?_⟩
    by_cases hji:j=i
    . subst hji;exact I.wpOp hi F ⟨Rl.refl _ _ _ _,H⟩
    . have:=ready_mono D hji
      rw[H.1] at this
      cases this
  | succ n ih =>
    intro L a w d hr I F H;refine ⟨fun h=>(by rw[h] at hr;cases hr),fun j D=>?_⟩
    by_cases hji:j=i
    . subst hji;exact I.wpOp hi F ⟨Rl.refl _ _ _ _,H⟩
    . have h1:=H.2 j (ready_mono D hji)
      obtain ⟨l,x,u,C⟩:=mem_ready.1 D
      have z:∀ e∈x.after,Region.binds .any e=true->e.on≠i:=fun e he Z W=>by
        have h1:=C e he Z;have h0:=(mem_ready.1 hr).1;rw[W] at h1
        obtain ⟨Y,U⟩:=Gt h0
        simp[Array.getD,Y,U] at h1
      have X:=wpOp_putIf u (d j x u hji l z) (fun cs b=>p i y cs b hi) (fun cs b=>p j x cs b u) hQ I h1
      have f:∀ k ok,ops[k]?=some ok->k≠i->(L.setIfInBounds j true).getD k true=false ->
          (∀ e∈ok.after,Region.binds .any e=true->e.on≠i)->y.apart ops ok=true:=fun k ok hk O B K=>by
        refine d k ok hk O ?_ K
        by_cases hjk:j=k
        . subst hjk;exact l
        . rw[getD_set_ne true hjk] at B;exact B
      refine wpOp_mono (fun a' w' J=>⟨J.2.1,ih (L.setIfInBounds j true) a' w' f (ready_mono hr (Ne.symm hji)) J.1 (V _ _ F (J.2.1.2 (JU _))) ?_⟩) X;rw[g1 _ _ hji];exact J.2.2
def BT (n:Nat)(ops:Array Oper)(L:Array Bool)(Γ:cH)(i t:Nat):Bool :=
  decide (i<ops.size) && Region.noSelect ops && Region.free .any ops L i && (Region.ready .any ops L).contains i && ((am ops i).dst == some t) && decide (t<n) && bx Γ (am ops i) && (bp ops Γ (am ops i) == some true)
theorem DR (i t:Nat)(v:Value){S:World->Prop}(f:∀ w w',S w->Tl M w w'->S w')(B:S w)(hv:∀ w',S w'->(execOp (ev Γ) (am ops i)).run P w'=.ok (.value v) w')(H:AG M P n N R X ops 0 (L.setIfInBounds i true) ((t,v)::Γ) w)(e:BT n ops L Γ i t=true):AG M P n N R X ops 0 L Γ w:=by
 unfold BT at e
 simp only[ov,decide_eq_true_eq,beq_iff_eq] at e
 obtain ⟨⟨⟨⟨⟨⟨⟨h1,o⟩,I⟩,z⟩,p⟩,C⟩,D⟩,y⟩:=e;have hr:i∈Region.ready .any ops L:=by simpa using z
 have h:=bH (ops:=ops) h1;intro a d;have e1:=d.exec (Region.noSelect_spec o i _ · · h) D;have F:=H _ (d.put C v)
 unfold A at *
 rw[fL hr];refine qI (S:=S) h (Region.noSelect_spec o) (fun c a w J=>J.elim) f _ _ _ _ (fun j u x k b=>Region.free_spec h I j u x k b) hr (.inl ⟨d.want y,fun w' l=>by rw[e1];exact hv w' l⟩) B ?_;rw[p];exact F
theorem zV (i t:Nat)(v:Value)(H:AG M P n N R X ops 0 (L.setIfInBounds i true) ((t,v)::Γ) w)(a:BT n ops L Γ i t=true:=by kernel_rfl)(hv:∀ w,(execOp (ev Γ) (am ops i)).run P w=.ok (.value v) w:=by intro _;kernel_rfl):AG M P n N R X ops 0 L Γ w :=
 DR i t v (S:=fun _=>True) (fun _ _ _ _=>trivial) trivial (fun w' _=>hv w') H a
theorem zO {K:Nat}(i t:Nat)(c:List (Nat × Nat × Nat))(v:Value)(hz:M.z=some (K,[]))(I:K<=w.heap.size)(s:SS w0 h0 w h B Rs F)(e:∀ p∈c,(aw B p.1).b<K)(H:AG M P n N R X ops 0 (L.setIfInBounds i true) ((t,v)::Γ) w)(J:BT n ops L Γ i t=true:=by kernel_rfl)(o:cB B c=true:=by kernel_rfl)(D:bW P (execOp (ev Γ) (am ops i)) (dq B c)=some (.value v,bS B c):=by kernel_rfl):AG M P n N R X ops 0 L Γ w :=
 DR i t v (S:=fun w'=>K<=w'.heap.size/\∀ b,b<K->w'.heap[b]?=w.heap[b]?) (fun w1 w2 d y=>by
  obtain ⟨h1,C⟩:=y K [] hz;exact ⟨e6 d.1 h1,fun b k=>(C b k List.not_mem_nil).trans (d.2 b k)⟩) ⟨I,fun _ _=>rfl⟩ (fun w' d=>bY _ _ _ _ D (fun q a u l O=>by
  obtain ⟨p,f,j⟩:=sH c q a l;have:=dE (fun x Q=>s.st.own x Q) c o q a u l O;rw[<-this]
  unfold World.cell?
  rw[d.2 _ (j▸e p f)])) H J
theorem zC (i t:Nat){f:FuncId}{args:Array Value}(c:Calls P f args w fun e w'=>∃ v,e=.returned v/\Tl M w w'/\AG M P n N R X ops 0 (L.setIfInBounds i true) ((t,v)::Γ) w')(h:(jm ops 0 L i && bx Γ (am ops i) && ((am ops i).dst == some t) && decide (t<n))=true:=by kernel_rfl)(o:bp ops Γ (am ops i)=some true:=by kernel_rfl)
  (hr:(execOp (ev Γ) (am ops i)).run P w=.ok (.enter f args) w:=by kernel_rfl):AG M P n N R X ops 0 L Γ w:=by
 simp only[ov,decide_eq_true_eq,beq_iff_eq] at h
 obtain ⟨⟨⟨h1,k⟩,u⟩,l⟩:=h;obtain ⟨j,p⟩:=mj h1;intro a b;refine A.one h1 j (R':=fun v w'=>Tl M w w'/\AG M P n N R X ops 0 (L.setIfInBounds i true) ((t,v)::Γ) w') ⟨b.want o,.inr (.inr ⟨f,args,?_,c⟩)⟩ (fun v w' d=>d.1) (fun v w' d=>?_)
 ·rw[b.exec (Region.noSelect_spec p i _ · · j) k];exact hr
 ·rw[u];exact d.2 _ (b.put l v)
theorem Ev {K:Nat}{w':World}(hz:M.z=some (K,[]))(c:K<=w.heap.size)(x:Ext w w'):Tl M w w':=fun a bs e=>by
 rw[hz] at e
 injection e with e;injection e with e1 e2
 subst e1 e2;exact ⟨x.size,fun b d _=>Below.block x b oM⟩
theorem Hx {K b:Nat}{w':World}(hz:M.z=some (K,[]))(d:K<=w.heap.size)(h:K<=b)(x:Mo [b] w w'):Tl M w w':=fun a bs e=>by
 rw[hz] at e
 injection e with e;injection e with e1 e2
 subst e1 e2;exact ⟨x.size,fun c f _=>x.blk c oM (by simp;omega)⟩
theorem sF {K:Nat}(i t:Nat){f:FuncId}{args:Array Value}{Φ:Value->Hp->Prop}(c:Calls P f args w (Ret w h Φ))(hz:M.z=some (K,[]))(b:K<=w.heap.size)(H:∀ v w' h',Up w h w' h'->K<=w'.heap.size->Φ v h'->AG M P n N R X ops 0 (L.setIfInBounds i true) ((t,v)::Γ) w')(k:(jm ops 0 L i && bx Γ (am ops i) && ((am ops i).dst == some t) && decide (t<n))=true:=by kernel_rfl)(d:bp ops Γ (am ops i)=some true:=by kernel_rfl)
  (hr:(execOp (ev Γ) (am ops i)).run P w=.ok (.enter f args) w:=by kernel_rfl):AG M P n N R X ops 0 L Γ w :=
 zC i t (c.mono fun e w' ⟨v,h',j,u,a⟩=>⟨v,j,Ev hz b u.ext,H v w' h' u (e6 b u.ext.size) a⟩) k d hr
theorem Jd {K rb:Nat}(i t:Nat){f:FuncId}{args:Array Value}{Φ:Value->World->Hp->Prop}(c:Calls P f args w (iw rb w h Φ))(hz:M.z=some (K,[]))(d:K<=w.heap.size)(a:K<=rb)(H:∀ v w' h',UpM [rb] w h w' h'->K<=w'.heap.size->Φ v w' h'->AG M P n N R X ops 0 (L.setIfInBounds i true) ((t,v)::Γ) w')(k:(jm ops 0 L i && bx Γ (am ops i) && ((am ops i).dst == some t) && decide (t<n))=true:=by kernel_rfl)(j:bp ops Γ (am ops i)=some true:=by kernel_rfl)
  (hr:(execOp (ev Γ) (am ops i)).run P w=.ok (.enter f args) w:=by kernel_rfl):AG M P n N R X ops 0 L Γ w :=
 zC i t (c.mono fun e w' ⟨v,h',l,u,b⟩=>⟨v,l,Hx hz d a u.mo,H v w' h' u (e6 d u.mo.size) b⟩) k j hr
theorem ft (s:SS w0 h0 w h B Rs F)(j:Nat)(a:decide (j<B.length)=true:=by kernel_rfl):(aw B j).b<w.heap.size:=by rw[s.g.size];exact aF (s.jk j a)
theorem Gq (t b o len c sz:Nat)(i:Int)(j e:Nat)(H:LG P n N R X ops (k+1) ((t,.pointer (some ⟨b,0+e*sz,none⟩))::Γ) w)(f:cL ops Γ k t n=true:=by kernel_rfl)(h:Ba P (ev Γ) (am ops k)=some (.slice (some ⟨b,o,none⟩) len c,.int .i64 i,sz):=by kernel_rfl)(hk:i=j:=by omega)(a:j<len:=by omega)(d:o+j*sz=0+e*sz:=by omega):LG P n N R X ops k Γ w :=
 LG.val t _ w (bF f).1 (bF f).2 (d▸gq h rfl hk a w) H
theorem IY (i t b o len c sz:Nat)(x:Int)(j e:Nat)(H:AG M P n N R X ops k0 (L.setIfInBounds i true) ((t,.pointer (some ⟨b,0+e*sz,none⟩))::Γ) w)(f:cE n ops k0 [] L Γ i t=true:=by kernel_rfl)(h:Ba P (ev Γ) (am ops i)=some (.slice (some ⟨b,o,none⟩) len c,.int .i64 x,sz):=by kernel_rfl)(hk:x=j:=by omega)(a:j<len:=by omega)(d:o+j*sz=0+e*sz:=by omega):AG M P n N R X ops k0 L Γ w :=
 aV i t _ H f (fun w=>d▸gq h rfl hk a w)
theorem Jf (i t b o len c sz:Nat)(x:Int)(j e:Nat)(H:AG M P n N R X ops k0 (L.setIfInBounds i true) ((t,.pointer (some ⟨b,0+e*sz,none⟩))::Γ) w)(f:cT n ops k0 L Γ i t=true:=by kernel_rfl)(h:Ba P (ev Γ) (am ops i)=some (.slice (some ⟨b,o,none⟩) len c,.int .i64 x,sz):=by kernel_rfl)(hk:x=j:=by omega)(a:j<len:=by omega)(d:o+j*sz=0+e*sz:=by omega):AG M P n N R X ops k0 L Γ w :=
 T.val i t _ w (uR f).1 (uR f).2 (d▸gq h rfl hk a w) H
theorem I7 (t b o len a sz:Nat)(i:Int)(j d:Nat)(H:LG P n N R X ops (k+1) ((t,.slice (some ⟨b,d,none⟩) (len-j) (a-j))::Γ) w)(p:cL ops Γ k t n=true:=by kernel_rfl)(u:FU P (ev Γ) (am ops k)=some (.slice (some ⟨b,o,none⟩) len a,some (.int .i64 i),none,sz):=by kernel_rfl)(hk:i=j:=by omega)(f:j<=len:=by omega)(c:a≠j:=by omega)(l:d=o+j*sz:=by omega):LG P n N R X ops k Γ w:=by
 have h:=q9 j u hk f w;rw[if_neg c] at h
 have e:(some (⟨b,o,none⟩:Addr)).map (·.add (j*sz))=some ⟨b,d,none⟩:=by subst l;simp[Addr.add]
 rw[e] at h
 exact LG.val t _ w (bF p).1 (bF p).2 h H
theorem SS.torow {α:Type}(s:SS w0 h0 w h B Rs F)(j:Nat)(f:α->List Value)(l:List α)(sz m:Nat)(z:l.length=m)(C:m<=1099511627776)(hB:(aw B j).vs=l.flatMap f:=by kernel_rfl)(hf:∀ x,(f x).length=sz:=by intro _;rfl)(u:decide (j<B.length)=true:=by kernel_rfl) :
    SS w0 h0 w h (B.eraseIdx j) (⟨(aw B j).t,sz,some ⟨(aw B j).b,0,none⟩,m,m,l.flatMap f⟩::Rs) F:=by
  have k:=oT u;have d:=br k;have H:=s.st.own _ d
  have y:∀ x∈B.eraseIdx j,x.b≠(aw B j).b:=by
    intro x a c;obtain ⟨i,hi,p⟩:=List.mem_iff_getElem.1 a;rw[List.getElem_eraseIdx] at p
    rw[List.length_eraseIdx_of_lt k] at hi
    split at p
    . rename_i D
      refine bJ s.st (i:=i) (j:=j) (decide_eq_true oM) u (by simp;omega) ?_;rw[<-c,<-p];simp[aw,show i<B.length by omega]
    . rename_i D
      refine bJ s.st (i:=i+1) (j:=j) (decide_eq_true oM) u (by simp;omega) ?_;rw[<-c,<-p];simp[aw,show i+1<B.length by omega]
  refine ⟨s.g0,⟨s.st.up,fun x a=>s.st.own x (z6 a),fun x a=>s.st.jk x (z6 a),fun x a=>s.st.lo x (z6 a),s.st.nd.sublist ((List.eraseIdx_sublist B j).map (·.b))⟩,?_,?_,s.mo,s.f⟩
  . intro r hr
    rcases hP.1 hr with rfl|hr
    . refine ⟨⟨by rw[eJ hf,z],.inr ⟨(aw B j).b,m,(aw B j).vs.toArray,rfl,s.st.lo _ d,H,ey _,by unfold maxLen;omega,by rw[hB];simp[eJ hf,z],by rw[hB];simp[JF,eJ hf,z]⟩⟩,?_,?_⟩
      . intro b c
        have:(aw B j).b=b:=by simpa [Rw.v,Value.ownBlock] using c
        rw[<-this];exact s.st.jk _ d
      . intro b c o
        have:(aw B j).b=b:=by simpa [Rw.v,Value.ownBlock] using c
        obtain ⟨x,a,e⟩:=g8.1 o;exact y x a (e.trans this.symm)
    . exact (s.ro r hr).sub _ (fun b c=>by
        obtain ⟨x,a,e⟩:=g8.1 c;exact g8.2 ⟨x,z6 a,e⟩)
  . refine List.pairwise_cons.2 ⟨fun r hr b c hv=>?_,s.ap⟩
    have:(aw B j).b=b:=by simpa [Rw.v,Value.ownBlock] using c
    exact (s.ro r hr).ap b hv (this▸g8.2 ⟨_,d,rfl⟩)
theorem HU {α:Type}(t j m J:Nat)(l:List α)(f:α->List Value)(d x:α)(e:Nat)(z:Value)(s:SS w0 h0 w h B Rs F)(sg:Seg h J 0 (f x))(D:l.length=m)(I:m<=1000000000)
  (H:∀ a c' w' h',SS w0 h0 w' h' (B.eraseIdx j) Rs ((fun h=>SlO 1 f d h a (l++[x]))::F)->m+1<=c'->LG P n N R X ops (k+1) ((t,.slice a (m+1) c')::Γ) w')(O:cL ops Γ k t n=true:=by kernel_rfl)(M:decide (j<B.length)=true:=by kernel_rfl)(hB:(aw B j).vs=l.flatMap f:=by kernel_rfl)
  (S:Gv P (ev Γ) (am ops k)=some (.slice (some ⟨(aw B j).b,0,none⟩) m m,.slice (some ⟨J,0,none⟩) 1 1,(aw B j).t,z,1,e):=by kernel_rfl)(p:z.cells.size=1:=by kernel_rfl)(hf:∀ x,(f x).length=1:=by intro _;rfl)(h1:(f x).all (·.oneCell')=true:=by kernel_rfl)(o:e<=100:=by decide):LG P n N R X ops k Γ w:=by
 have C:=s.torow j f l 1 m D oM hB hf M
 refine IS t 0 (f x) C (mI C.g sg) (hf x) (fun u Q=>(o4.1 h1) u Q) (by simp) rfl O S p kD oM (by
  have:(m+1)*e<=(m+1)*100:=Jx _ o
  omega) (fun a c' w' h' y=>?_)
 have e1:m+1=(l++[x]).length:=by simp[D]
 have e2:l.flatMap f++f x=(l++[x]).flatMap f:=by simp
 rw[e2,List.set_cons_zero] at y
 have L:SS w0 h0 w' h' (B.eraseIdx j) (⟨(aw B j).t,1,a,c',(l++[x]).length,(l++[x]).flatMap f⟩::Rs) F:=by rw[<-e1];exact y
 obtain ⟨i,K,c⟩:=L.pubr 0 d hf rfl (by simp);exact H a c' w' i K (by rw[e1];exact c)
theorem SS.perm (s:SS w0 h0 w h B Rs F){B':List Bx}(p:B.Perm B'):SS w0 h0 w h B' Rs F :=
 ⟨s.g0,⟨s.st.up,fun x a=>s.st.own x (p.mem_iff.2 a),fun x a=>s.st.jk x (p.mem_iff.2 a),fun x a=>s.st.lo x (p.mem_iff.2 a),(p.map (·.b)).nodup_iff.1 s.st.nd⟩,
  fun r hr=>(s.ro r hr).sub _ (fun b c=>(p.map (·.b)).mem_iff.2 c),s.ap,s.mo,s.f⟩
end
section laws
variable {M:Ms}{P:Program}{n:Nat}{N R:Po}{X:Nat->Po}{ops:Array Oper}{k k0:Nat}{hr:Hp}{AL:List Al}{L:Array Bool}{Γ:cH}{w:World}{h:Hp}{w0:World}{h0:Hp}{B:List Bx}{Rs:List Rw}{F:List (Hp->Prop)}
theorem I4 (t:Nat)(ty:TypeId)(vs:List Value)(s:SS w0 h0 w h B Rs F)(H:∀ b w' h',Up w h w' h'->h.size<=b->SS w0 h0 w' h' (⟨b,ty,vs⟩::B) Rs F->LG P n N R X ops (k+1) ((t,.pointer (some ⟨b,0,none⟩))::Γ) w')(a:cL ops Γ k t n=true:=by kernel_rfl)
  (hr:(execOp (ev Γ) (am ops k)).run P w=.ok (.value (.pointer (some ⟨w.heap.size,0,none⟩))) (w.alloc (.cells vs.toArray ty (0,0))):=by kernel_rfl):LG P n N R X ops k Γ w :=
 LG.var t ty vs s.st (bF a).1 (bF a).2 hr (fun b w' h' c u d=>H b w' h' u c (s.new u c d))
theorem UpM.put2 {d:List Nat}{wa w':World}{a:Hp}{b:Nat}(u:UpM d wa a w h)(p:Put b w w')(j:a.size<=b)(ga:G wa a)(g:G w' h):UpM d wa a w' h :=
 ⟨⟨p.os.trans u.mo.os,p.tape.trans u.mo.tape,p.output.trans u.mo.output,by rw[p.size];exact u.mo.size,fun c i f=>(p.blk c (fun e=>by subst e;have:=ga.size;omega)).trans (u.mo.blk c i f)⟩,u.gr,g⟩
end laws
section lawsQ
variable {M:Ms}{P:Program}{ops:Array Oper}{Q:Exit->Act->World->Prop}{k0:Nat}
theorem E.eventQ {h0:Hp}{AL:List Al}{L:Array Bool}{a:Act}{w:World}{h:Hp}{i:Nat}{o:Oper}{F:Nat}{p:Oper}
    (hi:ops[i]?=some o)(U:ops[F]?=some p)(hk:i<k0)(hk2:F<k0)(z:Region.noSelect ops=true)(hun:L.getD i true=false)
    (J:∀ j Z,ops[j]?=some Z->L.getD j true=false->j≠i->j≠F->(∀ x∈AL,x.i≠j)->∃ e∈Z.after,Region.binds .any e=true/\L.getD e.on false=false/\∀ x∈AL,x.i≠e.on)
    (X:∀ e∈o.after,Region.binds .any e=true->L.getD e.on false=true)
    (hal:∀ x∈AL,x.i≠i/\x.t ∉ o.looksAt ops/\o.dst≠some x.t)(I:∀ x∈AL,x.i≠F/\x.t ∉ p.looksAt ops/\p.dst≠some x.t)(oks:∀ x∈AL,AlOk P ops k0 x)(hM:∀ b∈M.l,b<h0.size)(g:G w h)(hsz:h0.size<=h.size)
    (H:∀ w' h',Up w h w' h'->OpR P ops o a w' (fun v f=>∃ d,UpM M.l w' h' f d/\E M P ops Q k0 h0 AL (L.setIfInBounds i true) (a.put o.dst v) f d))
    (H2:∀ w' h',Up w h w' h'->OpR P ops p a w' (fun v f=>∃ d,UpM M.l w' h' f d/\E M P ops Q k0 h0 AL (L.setIfInBounds F true) (a.put p.dst v) f d)):E M P ops Q k0 h0 AL L a w h:=by
  have key:∀ (m:Nat) (T:List Al),T.length=m->∀ w' h',Up w h w' h'->∀ (S:List SA),(S.map (·.1)++T).Perm AL->(∀ s∈S,Blk h0 w' h' s)->(S.map (·.2)).Nodup ->
      A M P ops Q k0 (ee L S) (addA a S) w':=by
    intro m
    induction m using Nat.strongRecOn with
    | _ m ih =>
      intro T hT w' h' u S k K V;have y:∀ s∈S,s.1.i≠i/\s.1.t ∉ o.looksAt ops/\o.dst≠some s.1.t:=fun s c=>hal _ (gy k c)
      have C:∀ s∈S,s.1.i≠F/\s.1.t ∉ p.looksAt ops/\p.dst≠some s.1.t:=fun s c=>I _ (gy k c)
      refine A.intro (fun h0'=>?_) (fun j hj=>?_)
      . exfalso
        have:i∈Region.ready .any ops (ee L S):=mem_ready.2 ⟨by rw[iY true (fun s c=>(y s c).1)];exact hun,o,hi,fun e Y B=>kp (X e Y B)⟩;rw[h0'] at this
        cases this
      . by_cases hji:j=i
        . subst hji
          refine OpR.wpOp hi ((H w' h' u).addA (Region.noSelect_spec z j o · · hi) S (fun s c=>(y s c).2.1)) ?_;rintro v f ⟨d,D,H3⟩;refine ⟨Rl.mo hk D.mo,?_⟩;rw[<-jy L S j (fun s c=>(y s c).1),<-jK a S o.dst v (fun s c=>(y s c).2.2)];exact H3 f d (Up.refl D.g) S T k (fun s c=>(K s c).up D hM) V
        . by_cases hj2:j=F
          . subst hj2
            refine OpR.wpOp U ((H2 w' h' u).addA (Region.noSelect_spec z j p · · U) S (fun s c=>(C s c).2.1)) ?_;rintro v f ⟨d,D,H3⟩;refine ⟨Rl.mo hk2 D.mo,?_⟩;rw[<-jy L S j (fun s c=>(C s c).1),<-jK a S p.dst v (fun s c=>(C s c).2.2)];exact H3 f d (Up.refl D.g) S T k (fun s c=>(K s c).up D hM) V
          . obtain ⟨W,Z,hoj,O⟩:=mem_ready.1 hj
            have hx:∃ x∈AL,x.i=j:=by
              refine Classical.byContradiction fun hno=>?_
              obtain ⟨e,Y,B,hf,hne⟩:=J j Z hoj (iz W) hji hj2 (fun x hx Y=>hno ⟨x,hx,Y⟩);have:=O e Y B;rw[iY false (fun s c=>hne _ (gy k c)),hf] at this
              cases this
            obtain ⟨x,hxA,rfl⟩:=hx;have hxT:=iP k hxA hj;exact o8 oks hM u.g (e6 hsz u.gr.size) k K V hxT (fun w1 h1 S1 T1 u1 hp1 hb1 hn1 hlt=>ih T1.length oM T1 rfl w1 h1 (u.trans u1) S1 hp1 hb1 hn1)
  exact fun w' h' u S T k K V=>key _ T rfl w' h' u S k K V
end lawsQ
section stepsQ
variable {M:Ms}{P:Program}{n:Nat}{N R:Po}{X:Nat->Po}{ops:Array Oper}{k0:Nat}{hr0:Hp}{AL:List Al}{L:Array Bool}{Γ:cH}{w:World}{h:Hp}
def rV (n:Nat)(ops:Array Oper)(k0:Nat)(AL:List Al)(L:Array Bool)(Γ:cH)(i t i2 t2:Nat):Bool :=
  decide (i<ops.size) && decide (i2<ops.size) && decide (i<k0) && decide (i2<k0) && Region.noSelect ops && (L.getD i true == false) &&
  ((po ops.size).all fun j=>L.getD j true || j == i || j == i2 || AL.any (·.i == j) || (am ops j).after.any fun e=>Region.binds .any e && (L.getD e.on false == false) && AL.all (·.i != e.on)) &&
  ((am ops i).after.all fun e=>!Region.binds .any e || L.getD e.on false) &&
  qQ ops AL i (am ops i) && qQ ops AL i2 (am ops i2) && ((am ops i).dst == some t) && decide (t<n) && ((am ops i2).dst == some t2) && decide (t2<n) && bx Γ (am ops i) && bx Γ (am ops i2) && (bp ops Γ (am ops i) == some true) && (bp ops Γ (am ops i2) == some true)
theorem Rg.callNew (i t J t2 f:Nat)(args:Array Value)(hc:rV n ops k0 AL L Γ i t J t2=true)
  (hr:∀ w',(execOp (ev Γ) (am ops i)).run P w'=.ok (.enter f args) w')
  (H:∀ w' h',Up w h w' h'->Calls P f args w' (fun e c=>∃ v b,e=.returned v/\UpM M.l w' h' c b/\EG M P n N R X ops k0 hr0 AL (L.setIfInBounds i true) ((t,v)::Γ) c b))
  (H2:∀ w' h',Up w h w' h'->∃ v c b,(execOp (ev Γ) (am ops J)).run P w'=.ok (.value v) c/\UpM M.l w' h' c b/\EG M P n N R X ops k0 hr0 AL (L.setIfInBounds J true) ((t2,v)::Γ) c b) :
  EG M P n N R X ops k0 hr0 AL L Γ w h:=by
 unfold rV at hc
 simp only[ov,decide_eq_true_eq,beq_iff_eq] at hc
 obtain ⟨⟨⟨⟨⟨⟨⟨⟨⟨⟨⟨⟨⟨⟨⟨⟨⟨h1,h2⟩,h3⟩,h4⟩,K⟩,h6⟩,h7⟩,h8⟩,h9⟩,W⟩,h11⟩,Q⟩,h13⟩,Z⟩,h15⟩,O⟩,h17⟩,V⟩:=hc;have o:=bH (ops:=ops) h1;have d:=bH (ops:=ops) h2;intro z hM g p a C;have e1:=C.exec (Region.noSelect_spec K i _ · · o) h15;have e2:=C.exec (Region.noSelect_spec K J _ · · d) O;refine E.eventQ o d h3 h4 K h6 ?_ ?_ (gZ h9) (gZ W) z hM g p ?_ ?_
 ·intro j oj hj U hji D S
  have F:=(Array.getElem?_eq_some_iff.1 hj).1;have e:oj=am ops j:=by have:=bH (ops:=ops) F;rw[hj] at this;injection this
  have:=(o4.1 h7) j (pR.2 F)
  simp only[Bool.or_eq_true,U,Bool.false_eq_true,false_or,beq_iff_eq,hji,D,List.any_eq_true,Array.any_eq_true,ov] at this
  rcases this with ⟨x,hx,hxe⟩|⟨x,hx,⟨Y,hL⟩,hno⟩
  ·exact absurd hxe (S x hx)
  ·rw[e]
   refine ⟨_,Array.getElem_mem hx,Y,hL,fun y hy=>?_⟩;have:=(o4.1 hno) y hy
   simpa using this
 ·intro e he Y
  have:=(Array.all_eq_true_iff_forall_mem.1 h8) e he
  simpa [Y] using this
 ·intro w' h' u
  refine ⟨C.want h17,?_⟩;rw[e1];exact .inr (.inr ⟨f,args,hr w',(H w' h' u).mono fun e c ⟨v,b,he,B,k⟩=>⟨v,he,b,B,by rw[h11];exact k z hM B.g (e6 p (e6 u.gr.size B.gr.size)) _ (C.put Q v)⟩⟩)
 ·intro w' h' u
  obtain ⟨v,c,b,I,B,k⟩:=H2 w' h' u;refine ⟨C.want V,?_⟩;rw[e2];refine .inl ⟨v,c,I,b,B,?_⟩;rw[h13];exact k z hM B.g (e6 p (e6 u.gr.size B.gr.size)) _ (C.put Z v)
theorem EG.swapQ {t u:Nat}{x y:Value}(c:(t == u)=false)(hd:fe ((u,y)::(t,x)::Γ)=fe ((t,x)::(u,y)::Γ))(k:EG M P n N R X ops k0 hr0 AL L ((t,x)::(u,y)::Γ) w h):EG M P n N R X ops k0 hr0 AL L ((u,y)::(t,x)::Γ) w h :=
  fun d hM g f a i=>k d hM g f a (i.mono (fun s v b=>by
    rw[oa,oa] at b ⊢
    by_cases e:s=t
    . subst e
      rw[c];simp at b ⊢;exact b
    . have j:(s == t)=false:=by simp[e]
      rw[j] at b ⊢
      exact b) hd.symm)
variable {w0:World}{h0:Hp}{B:List Bx}{Rs:List Rw}{F:List (Hp->Prop)}
theorem SS.swapF {p q:Hp->Prop}(s:SS w0 h0 w h B Rs (p::q::F)):SS w0 h0 w h B Rs (q::p::F) :=
 ⟨s.g0,s.st,s.ro,s.ap,fun r hr=>s.mo r (by simp only[hP] at hr ⊢;rcases hr with h|h|h;exact .inr (.inl h);exact .inl h;exact .inr (.inr h)),⟨s.f.2.1,s.f.1,s.f.2.2⟩⟩
theorem I1 {χ:Type}(i t d a:Nat)(ty:TypeId)(m:Nat)(cs:List Value){f:FuncId}{args:Array Value}(gv:χ->Value)(K:χ->Hp->Prop)(V:∀ x h h',Gw h h'->K x h->K x h')(s:SS w0 h0 w h B Rs F)
  (c:∀ w1 h1,SS w0 h0 w1 h1 B Rs F->Calls P f args w1 (Ret w1 h1 (fun v h'=>∃ x,v=gv x/\K x h')))
  (H:∀ x b w' h',SS w0 h0 w' h' B Rs ((fun h=>Seg h b 0 cs)::(fun h=>K x h)::F)->EG M P n N R X ops k0 hr0 AL ((L.setIfInBounds i true).setIfInBounds d true) ((a,.slice (some ⟨b,0,none⟩) m m)::(t,gv x)::Γ) w' h')
  (hc:rV n ops k0 AL L Γ i t d a=true:=by kernel_rfl)(I:(i == d)=false:=by kernel_rfl)(D:(a == t)=false:=by kernel_rfl)
  (hd:∀ x b,fe ((a,.slice (some ⟨b,0,none⟩) m m)::(t,gv x)::Γ)=fe ((t,gv x)::(a,.slice (some ⟨b,0,none⟩) m m)::Γ):=by intro _ _;kernel_rfl)
  (hv:∀ w,(execOp (ev Γ) (am ops i)).run P w=.ok (.enter f args) w:=by intro _;kernel_rfl)
  (U:∀ w,(execOp (ev Γ) (am ops d)).run P w=.ok (.value (.slice (some ⟨w.heap.size,0,none⟩) m m)) (w.alloc (.cells cs.toArray ty (0,0))):=by intro _;kernel_rfl)
  (J:∀ b,BU n ops k0 AL (L.setIfInBounds d true) ((a,.slice (some ⟨b,0,none⟩) m m)::Γ) i t=true:=by intro _;kernel_rfl)
  (Q:∀ b w,(execOp (ev ((a,.slice (some ⟨b,0,none⟩) m m)::Γ)) (am ops i)).run P w=.ok (.enter f args) w:=by intro _ _;kernel_rfl)
  (O:∀ x,BU n ops k0 AL (L.setIfInBounds i true) ((t,gv x)::Γ) d a=true:=by intro _;kernel_rfl)
  (S:∀ x w,(execOp (ev ((t,gv x)::Γ)) (am ops d)).run P w=.ok (.value (.slice (some ⟨w.heap.size,0,none⟩) m m)) (w.alloc (.cells cs.toArray ty (0,0))):=by intro _ _;kernel_rfl) :
  EG M P n N R X ops k0 hr0 AL L Γ w h:=by
 have C:i≠d:=by simpa using I
 refine Rg.callNew i t d a f args hc hv (fun w1 h1 u=>?_) (fun w1 h1 u=>?_)
 ·have y:=s.step u
  refine (c w1 h1 y).mono fun e w' ⟨v,h',he,z,x,k,j⟩=>?_
  subst k;exact ⟨_,h',he,z.m M.l,eR d a ty m cs ((y.step z).add (K:=fun h=>K x h) j (V x)) (fun b w' h' hs=>H x b w' h' hs) (O x) (S x)⟩
 ·have y:=s.step u
  have z:Up w1 h1 (w1.alloc (.cells cs.toArray ty (0,0))) (h1.push (.cells cs.toArray ty (0,0))):=Up.allocAny y.g _ _ (.inl rfl);refine ⟨_,_,_,U w1,z.m M.l,?_⟩;have s2:SS w0 h0 _ _ B Rs ((fun h=>Seg h w1.heap.size 0 cs)::F):=(y.step z).a_Seg (by rw[y.g.size];exact Seg.new cs ty);refine eC i t s2 (fun w3 W o=>c w3 W ⟨o.g0,o.st,o.ro,o.ap,fun p Z=>o.mo p (List.mem_cons_of_mem _ Z),o.f.2⟩) (fun w3 W v w4 h4 Y ⟨x,k,j⟩=>?_) (J _) (Q _);subst k;rw[g1 _ _ (Ne.symm C)];exact EG.swapQ D (hd x _).symm (H x _ w4 h4 (Y.add (K:=fun h=>K x h) j (V x)).swapF)
end stepsQ
structure HalfQ (Y y1 y0 u u1 q r:Nat):Prop where
  e:q*y1+r=u
  lt:u*4294967296+u1<(q+1)*Y
  qb:q<=4294967297
theorem mq {Y y1 y0 u u1:Nat}(d:Y=y1*4294967296+y0)(h1:u1<4294967296)(f:2147483648<=y1)(h0:y0<4294967296)(i:u<Y):HalfQ Y y1 y0 u u1 (u/y1) (u-u/y1*y1):=by
 have e:u/y1*y1<=u:=JV u y1
 have c:u<(u/y1+1)*y1:=by
  have:=JW (a:=u) (b:=y1) oM;rw[JG,JI];exact this
 refine ⟨by omega,?_,?_⟩
 ·have:(u/y1+1)*Y=(u/y1+1)*y1*4294967296+(u/y1+1)*y0:=by rw[d,D1,Ft]
  omega
 ·have h:u/y1<4294967298:=by
   rw[Av oM]
   omega
  omega
theorem oI {u y1:Nat}(h:0<y1):u-u/y1*y1<y1:=by
 have:=JW (a:=u) (b:=y1) h;have c:u/y1*y1<=u:=JV u y1
 omega
theorem HalfQ.dec {Y y1 y0 u u1 q r:Nat}(h:HalfQ Y y1 y0 u u1 q r)(b:Y=y1*4294967296+y0)(h1:u1<4294967296)(c:u<Y)(a:4294967296<=q\/4294967296*r+u1<q*y0):HalfQ Y y1 y0 u u1 (q-1) (r+y1):=by
 have d:0<q:=by
  rcases a with h2|h2
  ·omega
  ·rcases zT q with h3|h3
   ·subst h3;omega
   ·exact h3
 obtain ⟨p,rfl⟩:∃ p,q=p+1:=⟨q-1,by omega⟩;have e:=h.e;rw[JG,JI] at e
 refine ⟨by rw[JM];omega,?_,by have:=h.qb;omega⟩;rw[JM]
 rcases a with h2|h2
 ·have:4294967296*Y<=(p+1)*Y:=yX _ h2
  omega
 ·have:(p+1)*Y=(p+1)*y1*4294967296+(p+1)*y0:=by rw[b,D1,Ft]
  rw[JG p 1 y1,JI] at this
  omega
theorem HalfQ.fin {Y y1 y0 u u1 q r:Nat}(h:HalfQ Y y1 y0 u u1 q r)(c:Y=y1*4294967296+y0)(d:¬4294967296*r+u1<q*y0):q=(u*4294967296+u1)/Y/\(u*4294967296+u1)-q*Y=(u*4294967296+u1)%Y/\q*Y<=u*4294967296+u1:=by
 have a:q*Y<=u*4294967296+u1:=by
  have:q*Y=q*y1*4294967296+q*y0:=by rw[c,D1,Ft]
  have:=h.e
  omega
 have b:q=(u*4294967296+u1)/Y:=(JX a h.lt).symm;have hd:=JK (u*4294967296+u1) Y;rw[<-b,Az] at hd
 exact ⟨b,by omega,a⟩
theorem HalfQ.brk {Y y1 y0 u u1 q r:Nat}(h:HalfQ Y y1 y0 u u1 q r)(a:Y=y1*4294967296+y0)(h0:y0<4294967296)(hr:4294967296<=r)(b:q<=4294967296):q=(u*4294967296+u1)/Y/\(u*4294967296+u1)-q*Y=(u*4294967296+u1)%Y/\q*Y<=u*4294967296+u1 :=
 h.fin a (by
  have:q*y0<=4294967296*y0:=yX _ b
  omega)
theorem nQ {A y s Y Q R:Nat}(a:Y=y*2^s)(d:A*2^s=Y*Q+R)(f:R<Y):A=y*Q+R/2^s/\R/2^s<y:=by
 have c:0<2^s:=H1 s;have e:y*Q*2^s=Y*Q:=by rw[a];ac_rfl
 have h:y*Q<=A:=by
  have:y*Q*2^s<=A*2^s:=by rw[d,e];omega
  exact Nat.le_of_mul_le_mul_right this c
 have b:R=(A-y*Q)*2^s:=by rw[Nat.sub_mul,d,e];omega
 rw[b,Nat.mul_div_cancel _ c];refine ⟨by omega,?_⟩;have:(A-y*Q)*2^s<y*2^s:=by rw[<-b,<-a];exact f
 exact JY this
theorem vh {A y s a c Y u1 f u h k R:Nat}(b:Y=y*2^s)(j:A*2^s=a*18446744073709551616+c)(d:c=u1*4294967296+f)(l:0<y)
  (e1:u=(a*4294967296+u1)/Y)(e2:h=(a*4294967296+u1)%Y)(o:k=(h*4294967296+f)/Y)(i:R=(h*4294967296+f)%Y) :
  A=y*(u*4294967296+k)+R/2^s/\R/2^s<y:=by
 have e:0<Y:=by rw[b];exact Nat.mul_pos l (H1 s)
 have x:=JK (a*4294967296+u1) Y;have z:=JK (h*4294967296+f) Y;rw[<-e1,<-e2] at x
 rw[<-o,<-i] at z
 have p:R<Y:=by rw[i];exact y5 _ e
 refine nQ b ?_ p;rw[j,d,D1,<-Ft]
 clear e1 e2 o i j d p b e l
 omega
theorem tJ {y:Nat}(h0:0<y)(h:y<18446744073709551616):9223372036854775808<=y*2^(64-nb y)/\y*2^(64-nb y)<18446744073709551616:=by
 obtain ⟨c,b,d⟩:=cW h0;have a:nb y<=64:=mK (k:=64) h
 have e1:(2:Nat)^(nb y-1)*2^(64-nb y)=9223372036854775808:=by
  rw[<-Jw,show nb y-1+(64-nb y)=63 by omega]
 have e2:(2:Nat)^nb y*2^(64-nb y)=18446744073709551616:=by
  rw[<-Jw,show nb y+(64-nb y)=64 by omega]
 have f:=yX (2^(64-nb y)) c;have e:=JZ b (H1 (64-nb y))
 omega
theorem CK {hi lo s:Nat}(c:s<=64)(b:lo<18446744073709551616):(hi*18446744073709551616+lo)*2^s=(hi*2^s+lo/2^(64-s))*18446744073709551616+lo*2^s%18446744073709551616/\lo/2^(64-s)<2^s:=by
 have e:(18446744073709551616:Nat)=2^(64-s)*2^s:=by rw[<-Jw,show 64-s+s=64 by omega]
 have h1:lo*2^s/18446744073709551616=lo/2^(64-s):=by
  rw[e,J0 _ _ (H1 s)]
 have a:=JK (lo*2^s) 18446744073709551616;rw[h1] at a
 constructor
 ·rw[JG,JG]
  have:hi*18446744073709551616*2^s=hi*2^s*18446744073709551616:=by ac_rfl
  omega
 ·rw[Av (H1 _),Az,<-e];exact b
theorem og {a b q Y r:Nat}(h:q*Y<=a*4294967296+b)(hr:a*4294967296+b-q*Y=r)(c:r<18446744073709551616):((a*4294967296%18446744073709551616+b)%18446744073709551616+(18446744073709551616-q*Y%18446744073709551616))%18446744073709551616=r:=by
 generalize q*Y=m at *
 omega
theorem DG {a b:Nat}(c:a<4294967296)(d:b<4294967296):a*b<18446744073709551616:=by
 have:a*b<=4294967295*4294967295:=J1 oM oM
 omega
theorem ef {a b c:Nat}(h:c<a*b):0<a:=by
 rcases zT a with h0|h0
 ·rw[h0,yS] at h;omega
 ·exact h0
theorem qx {u u1 Y:Nat}(h:u<Y)(h1:u1<4294967296):(u*4294967296+u1)/Y<4294967296:=by
 rw[Av oM];have:(u+1)*4294967296<=Y*4294967296:=yX _ h
 omega
theorem xQ {p:Nat}(h:p<=64):(18446744073709551616:Nat)=2^(64-p)*2^p:=by rw[<-Jw,show 64-p+p=64 by omega]
theorem AS {x p o:Nat}(d:p<=64)(f:x<18446744073709551616)(c:o<2^p) :
  o ||| (x*2^p%18446744073709551616)=o+x*2^p%18446744073709551616/\o+x*2^p%18446744073709551616<18446744073709551616/\x*2^p%18446744073709551616+18446744073709551616*(x/2^(64-p))=x*2^p/\x/2^(64-p)<2^p:=by
 have e:=xQ d
 have b:x*2^p%18446744073709551616=x%2^(64-p)*2^p:=by
  conv=>lhs;rw[e]
  exact J2 _ _ _
 have a:x%2^(64-p)<2^(64-p):=y5 _ (H1 _);refine ⟨by rw[b];exact iJ p c,?_,?_,?_⟩
 ·rw[b]
  have:(x%2^(64-p)+1)*2^p<=2^(64-p)*2^p:=yX _ a;rw[<-e,JG] at this
  omega
 ·have h1:x*2^p/18446744073709551616=x/2^(64-p):=by
   conv=>lhs;rw[e]
   exact J0 _ _ (H1 _)
  rw[<-h1];exact J3 _ _
 ·rw[Av (H1 _),Az,<-e];exact f
theorem vE {l w:List Nat}{i q p x o a c:Nat}(u:i+q+1<l.length)(hv:aE l=2^p*(18446744073709551616^q*aq 18446744073709551616 (w.take i)))(h0:l.getD (i+q+1) 0=0)(f:a+18446744073709551616*c=x*2^p)(j:x=w.getD i 0)(e:o=l.getD (i+q) 0) :
  aE ((l.set (i+q) (o+a)).set (i+q+1) c)=2^p*(18446744073709551616^q*aq 18446744073709551616 (w.take (i+1))):=by
 have d:=dx 18446744073709551616 (l:=l) (k:=i+q) (o+a) oM;have b:=dx 18446744073709551616 (l:=l.set (i+q) (o+a)) (k:=i+q+1) c (by rw[JJ];omega);rw[bO oM,if_neg oM,h0] at b
 rw[<-e] at d
 have h:2^p*(18446744073709551616^q*aq 18446744073709551616 (w.take (i+1)))=aE l+18446744073709551616^(i+q)*(x*2^p):=by
  rw[a8,hv,<-j,D1,D1,Jw]
  congr 1
  ac_rfl
 rw[h,<-f];rw[B2] at b
 show aq 18446744073709551616 _=aq 18446744073709551616 l+_
 simp only[D1,<-Ft] at d b ⊢
 omega
theorem xi (n:Nat):(2:Nat)^n=18446744073709551616^(n/64)*2^(n%64):=by
 have:n=64*(n/64)+n%64:=by omega
 conv=>lhs;rw[this,Jw,Jz]
theorem qn {x y p:Nat}(f:p<=64)(h:x<18446744073709551616) :
  (x/2^p) ||| (y*2^(64-p)%18446744073709551616)=x/2^p+y*2^(64-p)%18446744073709551616/\x/2^p+y*2^(64-p)%18446744073709551616<18446744073709551616/\2^p*(x/2^p+y*2^(64-p)%18446744073709551616)+x%2^p=x+18446744073709551616*(y%2^p):=by
 have e:=xQ f;have c:(18446744073709551616:Nat)=2^p*2^(64-p):=by rw[Az];exact e
 have a:y*2^(64-p)%18446744073709551616=y%2^p*2^(64-p):=by
  conv=>lhs;rw[c]
  exact J2 _ _ _
 have d:x/2^p<2^(64-p):=by rw[Av (H1 _),<-e];exact h
 have b:y%2^p<2^p:=y5 _ (H1 _);refine ⟨by rw[a];exact iJ (64-p) d,?_,?_⟩
 ·rw[a]
  have:(y%2^p+1)*2^(64-p)<=2^p*2^(64-p):=yX _ b;rw[<-c,JG] at this
  omega
 ·rw[a,D1]
  have h1:=JK x (2^p);have i:2^p*(y%2^p*2^(64-p))=18446744073709551616*(y%2^p):=by rw[c];ac_rfl
  omega
theorem pP {l W:List Nat}{i p d a:Nat}(b:i<l.length)(inv:2^p*aq 18446744073709551616 l+a=aq 18446744073709551616 (W.take i)+18446744073709551616^i*(W.getD i 0%2^p))(h0:l.getD i 0=0)(hd:2^p*d+W.getD i 0%2^p=W.getD i 0+18446744073709551616*(W.getD (i+1) 0%2^p)) :
  2^p*aq 18446744073709551616 (l.set i d)+a=aq 18446744073709551616 (W.take (i+1))+18446744073709551616^(i+1)*(W.getD (i+1) 0%2^p):=by
 have e:=dx 18446744073709551616 (l:=l) (k:=i) d b;rw[h0] at e
 rw[a8,B2];have e1:18446744073709551616^i*(2^p*d+W.getD i 0%2^p)=18446744073709551616^i*(W.getD i 0+18446744073709551616*(W.getD (i+1) 0%2^p)):=by rw[hd]
 have e2:aq 18446744073709551616 (l.set i d)=aq 18446744073709551616 l+18446744073709551616^i*d:=by omega
 rw[e2,D1];have c:2^p*(18446744073709551616^i*d)=18446744073709551616^i*(2^p*d):=by ac_rfl
 rw[c]
 simp only[D1,<-Ft] at e1 ⊢
 simp only[Ft] at e1 inv ⊢
 omega
theorem C8 {l W:List Nat}{p m:Nat}(a:W.length<=m)(inv:2^p*aq 18446744073709551616 l+W.getD 0 0%2^p=aq 18446744073709551616 (W.take m)+18446744073709551616^m*(W.getD m 0%2^p)):aE l=aE W/2^p:=by
 rw[JF a] at inv
 have h0:W.getD m 0=0:=by simp[x4 a]
 rw[h0,J4,Gb,yK] at inv
 have b:=H1 p;have c:=y5 (W.getD 0 0) b
 show aq _ l=aq _ W/_
 rw[<-inv,J5 b,Bs c,yK]
theorem oC {w:List Nat}(b:Wd w){q:Nat}(a:q<=w.length):aE (w.drop q)=aE w/18446744073709551616^q:=by
 have e:=cn 18446744073709551616 a;have h1:=cC (Dg.take b q);rw[A2,Ga a] at h1
 show aq _ _=aq _ w/_
 rw[e,JB _ _ (JC kD),Bs h1,yW]
def nw (x:Nat):List Value:=[.int .u8 (x:Nat)]
theorem sN {b:Nat}(a:0<b){l:List Nat}(h:Dg b l)(j:Nat):l.getD j 0=aq b l/b^j%b:=by
 rcases ep j l.length with hj|hj
 ·have h1:=cn b (l:=l) (k:=j) oM
  have e:=fN b (l:=l) (k:=j) hj;have c:=cC (Dg.take h j);rw[A2,Ga oM] at c
  have d:0<b^j:=JC a;rw[h1,JB _ _ d,Bs c,yW,e,J6,y4 (h.getD a j)]
 ·rw[cO hj,Bs,J4]
  exact e7 (cC h) (Ju a hj)
theorem x5 {b:Nat}{l:List Nat}{k P:Nat}(hk:k<l.length)(d:0<b)(h:aq b l<b^k*P):l.getD k 0<P:=by
 have h1:=cn b (l:=l) (k:=k) oM;have c:=fN b (l:=l) (k:=k) hk;have e:0<b^k:=JC d;refine Nat.lt_of_mul_lt_mul_left (a:=b^k) ?_;have f:b^k*l.getD k 0<=b^k*aq b (l.drop k):=Jx _ (by rw[c];omega)
 omega
theorem rz (k:Nat):(256:Nat)^k=18446744073709551616^(k/8)*2^(8*(k%8)):=by
 have:k=8*(k/8)+k%8:=by omega
 conv=>lhs;rw[this,Jw,Jz]
 rw[Jz 2 8]
theorem pQ {l:List Nat}(a:Wd l)(k:Nat):l.getD (k/8) 0/2^(8*(k%8))%256=aE l/256^k%256:=by
 rw[sN kD a (k/8),rz,<-JD]
 show _=aq 18446744073709551616 l/_/_%256
 generalize aq 18446744073709551616 l/18446744073709551616^(k/8)=y
 have:k%8=0\/k%8=1\/k%8=2\/k%8=3\/k%8=4\/k%8=5\/k%8=6\/k%8=7:=by omega
 rcases this with h|h|h|h|h|h|h|h<;>rw[h]<;>omega
theorem xa (n k:Nat):(wds n).getD (k/8) 0/2^(8*(k%8))%256=n/256^k%256:=by
 rw[pQ (Wd.wds n),aI]
theorem AZ {b k:Nat}(a:b<256):b*2^(8*(k%8))<18446744073709551616:=by
 have:k%8=0\/k%8=1\/k%8=2\/k%8=3\/k%8=4\/k%8=5\/k%8=6\/k%8=7:=by omega
 rcases this with h|h|h|h|h|h|h|h<;>rw[h]<;>omega
theorem vt {a b k:Nat}(c:a<2^(8*(k%8)))(d:b<256):a+b*2^(8*(k%8))<18446744073709551616:=by
 have:k%8=0\/k%8=1\/k%8=2\/k%8=3\/k%8=4\/k%8=5\/k%8=6\/k%8=7:=by omega
 rcases this with h|h|h|h|h|h|h|h<;>rw[h] at c ⊢ <;> omega
theorem tw {l:List Nat}{n k x:Nat}(hk:k/8<l.length)(inv:aE l=n%256^k)(c:x=n/256^k%256) :
  (l.getD (k/8) 0 ||| x*2^(8*(k%8))%18446744073709551616)=l.getD (k/8) 0+x*2^(8*(k%8))/\l.getD (k/8) 0+x*2^(8*(k%8))<18446744073709551616 /\
  aE (l.set (k/8) (l.getD (k/8) 0+x*2^(8*(k%8))))=n%256^(k+1):=by
 have d:x<256:=by rw[c];exact y5 _ oM
 have a:aE l<256^k:=by rw[inv];exact y5 _ (JC oM)
 have hd:l.getD (k/8) 0<2^(8*(k%8)):=x5 (b:=18446744073709551616) hk kD (by rw[<-rz];exact a);refine ⟨?_,vt hd d,?_⟩
 ·rw[y4 (AZ d)];exact iJ _ hd
 ·have e:=dx 18446744073709551616 (l:=l) (k:=k/8) (l.getD (k/8) 0+x*2^(8*(k%8))) hk
  rw[vM,<-c,<-inv]
  show aq _ _=aq _ l+_
  have e2:256^k*x=18446744073709551616^(k/8)*(x*2^(8*(k%8))):=by rw[rz k];ac_rfl
  rw[D1] at e
  rw[e2]
  omega
theorem A3 (n:Nat):n<256^((nb n+7)/8):=by
 have h:=GO n;have e:(256:Nat)^((nb n+7)/8)=2^(8*((nb n+7)/8)):=by rw[Jz]
 rw[e];exact e7 h (Ju oM oM)
theorem mF (n:Nat):nb n<=64*(wds n).length:=by
 apply mK
 have:=dH n
 rwa [show (18446744073709551616:Nat)=2^64 by rfl,<-Jz] at this
theorem l7 (n:Nat):(wds n).length=(nb n+63)/64:=by
 rcases zT n with h|h
 ·subst h;rfl
 ·have h1:=vV h
  have a:=l9 h;have b:=oS n ((wds n).length-1);have d:=ll.2 h
  generalize (wds n).getD ((wds n).length-1) 0=t at *
  have c:=(cW (JT a)).2.2;have e:nb t<=64:=mK (k:=64) b
  omega
def gh (x:Nat):List Value:=[.int .u32 (x:Nat)]
abbrev S3 (A:Z9)(l:List Nat):Hp->Prop:=fun h_=>SlO 1 gh 0 h_ A l
theorem nW:∀ f n:Nat,qo f n=qz 4294967296 f n
  | 0,_=>rfl
  | f+1,n=>by
    unfold qo qz
    split
    . rfl
    . rw[nW f]
theorem CF (n:Nat):lim n=jt 4294967296 n:=nW n n
def Ld (l:List Nat):Prop:=Dg 4294967296 l
theorem Ld.lim (n:Nat):Ld (lim n):=fun x a=>kB n x a
theorem Ld.get {l:List Nat}(h:Ld l)(k:Nat):l.getD k 0<4294967296:=Dg.getD h kD k
theorem Ld.set {l:List Nat}(h:Ld l)(k:Nat){x:Nat}(a:x<4294967296):Ld (l.set k x):=Dg.set h k a
theorem Ld.rep (n:Nat):Ld (y2 n 0):=Dg.rep kD
theorem qg (n:Nat):aq 4294967296 (lim n)=n:=by rw[<-kg];exact fX n
theorem vU {l:List Nat}(h:Ld l){n:Nat}(e:aq 4294967296 l=n):lim n=l.take (tl l l.length):=by
 rw[<-e,<-kg];exact ww h
theorem sv {l:List Nat}(h:Ld l){n:Nat}(e:aq 4294967296 l=n):(lim n).length=tl l l.length:=by
 rw[vU h e,A2];have:=jf l l.length;omega
theorem jo (n:Nat):n<4294967296^(lim n).length:=by rw[CF];exact jw kD n
theorem io {a b:Nat}(h:a<=b):(lim a).length<=(lim b).length:=ie (A9 h (jo b))
theorem qf {a b k:Nat}(h:a<=b)(c:(lim b).length<=k):(lim a).length<=k:=e6 (io h) c
theorem ua (n:Nat):(lim n).length<=2*(wds n).length:=by
 refine ie ?_;have:=dH n
 rwa [show (18446744073709551616:Nat)=4294967296^2 by rfl,<-Jz] at this
theorem CT (n:Nat):(wds n).length<=(lim n).length:=by
 refine fW kD ?_;have:=jo n;exact e7 this (Nat.pow_le_pow_left kD _)
theorem gC {a b:Nat}(h:(lim a).length<(lim b).length):a<b:=by
 rcases ep a b with hl|hl
 ·exact hl
 ·have:=io hl;omega
theorem Dh {a b:Nat}(h:lim a=lim b):a=b:=by rw[<-fX a,<-fX b,h]
theorem ij {a b k:Nat}(d:(lim a).length=(lim b).length)(hk:k<(lim a).length)(hd:(lim a).drop (k+1)=(lim b).drop (k+1))(c:(lim a).getD k 0<(lim b).getD k 0):a<b:=by
 have e:=cn 4294967296 (l:=lim a) (k:=k+1) oM;have f:=cn 4294967296 (l:=lim b) (k:=k+1) oM;rw[qg] at e f
 rw[hd] at e
 have o:=aW 4294967296 (l:=lim a) (k:=k) hk;have j:=aW 4294967296 (l:=lim b) (k:=k) oM;have h:=cC (Dg.take (Ld.lim a) k);rw[A2,Ga oM] at h
 have i:4294967296^k*(lim a).getD k 0+4294967296^k<=4294967296^k*(lim b).getD k 0:=by
  rw[<-JS];exact Jx _ c
 omega
def RN (h:Hp)(v:Value)(n:Nat):Prop:=HT 1 gh 0 h v (lim n)
def RI (h:Hp)(v:Value)(z:Int):Prop:=∃ A c,v=.agg #[.bool (av z),.slice A (lim (ac z)).length c]/\(lim (ac z)).length<=c/\SlO 1 gh 0 h A (lim (ac z))
def RP (h:Hp)(v:Value)(z:Int)(n:Nat):Prop:=∃ A c B d,v=.agg #[.bool (av z),.slice A (lim (ac z)).length c,.slice B (lim n).length d]/\(lim (ac z)).length<=c/\(lim n).length<=d/\SlO 1 gh 0 h A (lim (ac z))/\SlO 1 gh 0 h B (lim n)
def RQ (h:Hp)(v:Value)(q:Rat):Prop:=RP h v q.num q.den
theorem RP.gw {h h':Hp}{v:Value}{z:Int}{n:Nat}(r:RP h v z n)(u:Gw h h'):RP h' v z n:=by
 obtain ⟨A,c,B,d,h1,e,f,b,a⟩:=r;exact ⟨A,c,B,d,h1,e,f,b.gw u,a.gw u⟩
theorem RQ.gw {h h':Hp}{v:Value}{q:Rat}(r:RQ h v q)(u:Gw h h'):RQ h' v q:=RP.gw r u
theorem RN.trim {h:Hp}{A:Z9}{l:List Nat}{n m a:Nat}(hd:Ld l)(e:aq 4294967296 l=n)(b:l.length=m)(c:m<=a)(s:SlO 1 gh 0 h A l):RN h (.slice A (tl l m) a) n:=by
 subst b;have e1:=sv hd e;have:=jf l l.length;refine ⟨A,a,by rw[e1],by omega,?_⟩;rw[vU hd e];exact s.take _
theorem r5 {h:Hp}{p b:Bool}{n a:Nat}{A:Z9}(d:b=(p && decide (0<n)))(c:(lim n).length<=a)(e:SlO 1 gh 0 h A (lim n)):RI h (.agg #[.bool b,.slice A (lim n).length a]) (cM p n):=by
 subst d;refine ⟨A,a,?_,?_,?_⟩
 ·rw[jI,fh]
 ·rw[fh];exact c
 ·rw[fh];exact e
theorem CJ {l:List Nat}{m:Nat}(h:0<m)(h0:l.getD (m-1) 0=0):tl l m=tl l (m-1):=by
 obtain ⟨k,rfl⟩:∃ k,m=k+1:=⟨m-1,by omega⟩;rw[lp,if_pos (by simpa using h0)];rfl
theorem EA {r x:Nat}(a:x<4294967296):r*4294967296 ||| x=r*4294967296+x:=by
 have:=JR (i:=32) (b:=x) oM r;rw[Az];exact this.symm
theorem uP {r x d:Nat}(a:0<d)(hr:r<d)(b:x<4294967296)(hd:d<4294967296) :
  (r*4294967296+x)/d%4294967296=(r*4294967296+x)/d/\r*4294967296+x=d*((r*4294967296+x)/d)+(r*4294967296+x)%d/\(r*4294967296+x)%d<d:=by
 refine ⟨y4 ?_,(JK _ _).symm,y5 _ a⟩;rw[Av a];have h1:(r+1)*4294967296<=d*4294967296:=yX _ hr;rw[Az]
 omega
theorem wi {b:Nat}{l z:List Nat}{m d r a q X:Nat}(i:0<m)(c:m-1<z.length)(h0:z.getD (m-1) 0=0)(inv:X=d*aq b z+(b^m*r+aq b (l.take m)))(e:r*b+l.getD (m-1) 0=d*q+a) :
  X=d*aq b (z.set (m-1) q)+(b^(m-1)*a+aq b (l.take (m-1))):=by
 obtain ⟨k,rfl⟩:∃ k,m=k+1:=⟨m-1,by omega⟩;rw[JM] at *
 have h1:=dx b q c;rw[h0,Gb,yK] at h1
 have e2:=congrArg (b^k * ·) e
 simp only[D1] at e2
 rw[inv,h1,a8,B2,D1];have h:b^k*(r*b)=b^k*b*r:=by rw[Az r b,Ft]
 have f:b^k*(d*q)=d*(b^k*q):=by ac_rfl
 rw[h,f] at e2
 omega
section
variable {P:Program}{Γ:cH}{o:Oper}
theorem d3 {f:FuncId}{args:Array Value}{v:Value}{w:World}(h:(execOp (ev Γ) o).run P w=(callFunc f args).run P w)(k:(callFunc f args).run P w=.ok (.value v) w):(execOp (ev Γ) o).run P w=.ok (.value v) w:=h.trans k
end
theorem eh (x y c:Nat)(d:x<18446744073709551616)(a:y<18446744073709551616)(b:c<=1):∃ s c':Nat,s+18446744073709551616*c'=x+y+c/\s<18446744073709551616/\c'<=1/\∀ w,(callFunc 149 #[.int .u64 x,.int .u64 y,.int .u64 c]).run Tryz.prog w=.ok (.value (.tuple #[.int .u64 s,.int .u64 c'])) w:=by
 refine ⟨(x+y+c)%18446744073709551616,(x+y+c)/18446744073709551616,by omega,by omega,by omega,fun w=>?_⟩;rw[run_callFunc_extern Tryz.func149 kR kR kR (e:=add64Entry) kR,run_add64 x y c oM oM oM oM]
 simp only[Result.andThen]
 congr 5<;>omega
theorem jx (x y b:Nat)(d:x<18446744073709551616)(c:y<18446744073709551616)(a:b<=1):∃ s b':Nat,s+y+b=x+18446744073709551616*b'/\s<18446744073709551616/\b'<=1/\∀ w,(callFunc 150 #[.int .u64 x,.int .u64 y,.int .u64 b]).run Tryz.prog w=.ok (.value (.tuple #[.int .u64 s,.int .u64 b'])) w:=by
 refine ⟨(x+18446744073709551616-y-b)%18446744073709551616,if x<y+b then 1 else 0,by split<;>omega,by omega,by split<;>omega,fun w=>?_⟩;rw[run_callFunc_extern Tryz.func150 kR kR kR (e:=sub64Entry) kR,run_sub64 x y b a]
 rfl
theorem Ret.of_same {f:FuncId}{args:Array Value}{V:Value}{P:Program}{w:World}{h:Hp}(g:G w h)(c:Calls P f args w fun e w'=>e=.returned V/\w'=w):Calls P f args w (Ret w h fun v _=>v=V) :=
 c.mono fun e w' ⟨b,a⟩=>by subst a;exact ⟨V,h,b,Up.refl g,rfl⟩
theorem mi (x y:Nat)(b:x<18446744073709551616)(a:y<18446744073709551616)(w:World)(h:Hp)(g:G w h):CR 125 #[uV x,uV y] w h (fun v _=>∃ hi lo:Nat,v=.tuple #[uV hi,uV lo]/\lo+18446744073709551616*hi=x*y/\lo<18446744073709551616/\hi<18446744073709551616/\hi<=18446744073709551614):=by
 refine (Ret.of_same g (Tryz.bits_Mul64 x y b a w)).mono ?_;rintro e w' ⟨v,h',c,u,rfl⟩;have h1:x*y<=18446744073709551615*18446744073709551615:=J1 oM oM;exact ⟨_,h',c,u,x*y/18446744073709551616,x*y%18446744073709551616,rfl,by omega,by omega,by omega,by omega⟩
theorem n9 {n:Nat}(h:n<18446744073709551616):Lib.bitLen n=nb n:=by
 rcases zT n with h0|h0
 ·subst h0;rfl
 ·obtain ⟨b,d,c⟩:=cW h0
  have a:nb n<=64:=mK (k:=64) h;have:=Lib.bitLen_shift (nb n-1) n b h
  have h1:n/2^(nb n-1)=1:=by
   have:n<2^(nb n-1)*2:=by rw[<-B2];rwa [show (nb n-1).succ=nb n by omega]
   refine JX oM oM
  rw[h1] at this
  have e1:Lib.bitLen 1=1:=by decide
  omega
theorem wJ (x:Nat)(a:x<18446744073709551616)(w:World)(h:Hp)(g:G w h):CV 131 #[uV x] w h (nV (nb x)):=by
 have:=Ret.of_same g (Tryz.bits_Len64 x w oM oM);rw[y6,n9 a] at this
 exact this
theorem DV (x:Nat)(a:x<18446744073709551616)(w:World)(h:Hp)(g:G w h):CV 179 #[uV x] w h (nV (64-nb x)):=by
 have:=Ret.of_same g (Tryz.bits_LeadingZeros64 x w oM oM);have b:nb x<=64:=mK (k:=64) a;rw[y6,n9 a,show (64:Int)-(nb x:Nat)=((64-nb x:Nat):Int) by omega] at this
 exact this
theorem iE {a b:Nat}(e:a<18446744073709551616)(d:b<18446744073709551616):a*b<=340282366920938463426481119284349108225:=by
 have h1:a<=18446744073709551615:=by omega
 have c:b<=18446744073709551615:=by omega
 exact J1 h1 c
theorem wj (A:Z9)(c:Nat)(l:List Nat)(m:Nat)(D:l.length=m)(z:l.length<=1099511627776)(C:l.length<=c)(w:World)(h:Hp)(g:G w h)(y:S3 A l h):CV 100 #[.slice A m c] w h (.slice A (tl l m) c):=by
 have a:=((sS g).aS y);refine go Tryz.func100 [(0,qS A m c)] rfl (ab a ae (a7 (lL a [.c,.v (nV m),.c] (ag (kZ ?_)))));refine bU _ (CG.loop (fun j Γ p=>∃ (n:Nat)(h_:Hp),j=n/\Γ=[(0,qS A m c),(2,sZ),(3,nV n)]/\SS w h p h_ [] [] [S3 A l]/\n<=m/\tl l m=tl l n) _ ⟨m,h,rfl,rfl,a.to _ _,nR _,rfl⟩ ?_);rintro _ _ w1 ⟨n,o,u,rfl,a,B,k⟩;refine cQ (ab a ae ?_);cases d:(decide ((0:Int)<(n:Int)))
 .
  have e:=oF d;refine lB 7 d (lL a ae (lG 9 ?_));refine lG 10 (lG 11 (lG 12 (lG 13 (lG 14 (lL a [.v qF] (ai (CG.exit ?_)))))))
  show CG _ _ _ _ _ _ _ _
  refine ab a aN (lT 20 A m c 1 (n:Nat) n ?_);exact lL a ae (af a [] (qS A n c) (by rw[k,nM oM]))
 have e:=oT d;refine lB 7 d (lL a ff (bM 11 ((n:Nat)-1) (n-1) ?_));refine lX 12 A m c 1 (n-1:Nat) (n-1) ((a.f.1).ok oM) (lH 13 (mW (l.getD (n-1) 0)) a ((a.f.1).el (n-1) oM) ?_);cases b:(((l.getD (n-1) 0:Nat):Int) == (0:Int))
 .
  have i:=ah b;refine lB 14 b (lL a [.v qF] (ai (CG.exit ?_)))
  show CG _ _ _ _ _ _ _ _
  refine ab a aN (lT 20 A m c 1 (n:Nat) n ?_);exact lL a ae (af a [] (qS A n c) (by rw[k,nM oM]))
 have i:=eq_of_beq b;refine lB 14 b (lL a [.v qT] (au (cK (kZ (kQ (lL a ae (bM 17 ((n:Nat)-1) (n-1) ?_)))))));refine lL a ae (lD ?_);intro F x;refine ⟨_,_,?_,⟨n-1,o,rfl,rfl,a.to _ _,oM,(by rw[k];exact CJ oM oM)⟩,x.to _ kR⟩
 omega
theorem vd {h:Hp}{A:Z9}{n a:Nat}(c:n<18446744073709551616)(b:2<=a)(s:SlO 1 gh 0 h A [n%4294967296,n/4294967296]):RN h (.slice A (tl [n%4294967296,n/4294967296] 2) a) n :=
 RN.trim (Dg.cons oM (Dg.one oM)) (by simp only[aq];omega) rfl b s
theorem pq (n:Nat)(c:n<18446744073709551616)(w:World)(h:Hp)(g:G w h):CR 60 #[mV n] w h (fun v h=>RN h v n):=by
 have a:=sS g;refine go Tryz.func60 [(0,mV n)] rfl (ab a ae (a7 (lL a ae (lV 4 (mW (n%4294967296)) ?_ (hr:=rT ((n:Int)) kR (wd _))))));refine lL a ae (lV 6 (mV (n/4294967296)) ?_ (hr:=ba (n:=J7 (n:Int) 4294967296) kR (lh _ 4294967296)));refine lV 7 (mW (n/4294967296)) ?_ (hr:=rT (((n/4294967296:Nat):Int)) kR (s7 oM oM));refine lR 8 170 2 ([mW (n%4294967296),mW (n/4294967296)]) a (fun b w2 i a=>?_);replace a:=a.aS (SlO.of_flat (sz:=1) (f:=gh) (d:=0) (l:=[(n%4294967296),(n/4294967296)]) (fun _=>rfl) a.f.1);exact ak 9 a (wj (sB b) 2 ([(n%4294967296),(n/4294967296)]) 2 (by first|rfl|omega|assumption) (by simp) (by simp) _ _ a.g a.f.1) (fun e j a=>lL a ae (af a [] (qS (sB b) (tl ([(n%4294967296),(n/4294967296)]) 2) 2) (vd c oM a.f.1)))
theorem Ik (n:Nat)(A:Z9)(a:Nat)(d:(lim n).length<=a)(w:World)(h:Hp)(g:G w h)(e:S3 A (lim n) h):CR 99 #[.bool false,.slice A ((lim n).length) a] w h (fun v h=>RI h v (cM false n)):=by
 have b:=((sS g).aS e);refine go Tryz.func99 [(0,qF),(1,qS A ((lim n).length) a)] rfl (aD (lA 4 37 ([qF,sZ]) b (fun i w2 j b=>a7 (lL b aN (lG 7 ?_)))));exact lG 8 (lG 9 (lL b [.v qF,.c,.v (.agg #[qF,qS A ((lim n).length) a])] (lP 0 0 ([qF,qS A ((lim n).length) a]) b (fun k b=>af b [(0,0,2)] (.agg #[qF,qS A ((lim n).length) a]) (r5 rfl d b.f.1)))))
theorem H6 (n:Nat)(A:Z9)(a:Nat)(i:(lim n).length<=a)(w:World)(h:Hp)(g:G w h)(j:S3 A (lim n) h):CR 99 #[.bool true,.slice A ((lim n).length) a] w h (fun v h=>RI h v (cM true n)):=by
 have b:=((sS g).aS j);have l:=@d6 n;refine go Tryz.func99 [(0,qT),(1,qS A ((lim n).length) a)] rfl (aD (lA 4 37 ([qF,sZ]) b (fun p w2 u b=>a7 (lL b [.c,.c,.c,.v (nV ((lim n).length))] ?_))));cases d:(decide ((0:Int)<(((lim n).length:Nat):Int)))
 .
  have e:=oF d;exact lB 9 d (lL b [.v qF,.c,.v (.agg #[qF,qS A ((lim n).length) a])] (lP 0 0 ([qF,qS A ((lim n).length) a]) b (fun o b=>af b [(0,0,2)] (.agg #[qF,qS A ((lim n).length) a]) (r5 (by simp only[J8];first|(symm;exact decide_eq_true oM)|(symm;exact decide_eq_false oM)) i b.f.1))))
 have e:=oT d;exact lB 9 d (lL b [.v qT,.c,.v (.agg #[qT,qS A ((lim n).length) a])] (lP 0 0 ([qT,qS A ((lim n).length) a]) b (fun k b=>af b [(0,0,2)] (.agg #[qT,qS A ((lim n).length) a]) (r5 (by simp only[J8];first|(symm;exact decide_eq_true oM)|(symm;exact decide_eq_false oM)) i b.f.1))))
theorem rI (p:Bool)(n:Nat)(A:Z9)(a:Nat)(b:(lim n).length<=a)(w:World)(h:Hp)(g:G w h)(c:S3 A (lim n) h):CR 99 #[.bool p,.slice A (lim n).length a] w h (fun v h=>RI h v (cM p n)):=by
 cases p
 ·exact Ik n A a b w h g c
 ·exact H6 n A a b w h g c
theorem rR (z:Int)(h0:z<0)(h1 : -9223372036854775808<=z)(w:World)(h:Hp)(g:G w h):CR 59 #[iV z] w h (fun v h=>RI h v (cM true (ac z))):=by
 have a:=sS g;have hi:ac z<=9223372036854775808:=by unfold ac;omega
 refine go Tryz.func59 [(0,iV z)] rfl (aD (lA 2 37 ([qF,sZ]) a (fun o w2 x a=>ag (ab a ae ?_))));have ⟨d,e⟩:=dT (p:=(z:Int)<(0:Int)) oM;refine lB 4 d (au (ab a ae (lV 6 (mV (18446744073709551616-ac z)) ?_ (hr:=rU (z) kR (by rw[IntKind.wrap_u64];unfold ac;omega)))));refine lV 7 (mV (ac z)) ?_ (hr:=rU ((0-((18446744073709551616-ac z:Nat):Int))) kR (by rw[IntKind.wrap_u64];omega));refine lC 8 a (pq (ac z) oM _ _ a.g) ?_;rintro _ u _ a ⟨k,i,rfl,c,b⟩;replace a:=a.aS b;refine lC 9 a (rI true (ac z) k i c _ _ a.g a.f.1) ?_;rintro _ _ _ a ⟨za,zb,rfl,j,l⟩;replace a:=a.aS l;exact lP 0 0 ([.bool (av (cM true (ac z))),qS za ((lim (ac (cM true (ac z)))).length) zb]) a (fun _ a=>af a [(0,0,2)] (.agg #[.bool (av (cM true (ac z))),qS za ((lim (ac (cM true (ac z)))).length) zb]) (⟨_,_,rfl,j,a.f.1⟩))
theorem sP (z:Nat)(h1:z<9223372036854775808)(w:World)(h:Hp)(g:G w h):CR 59 #[nV z] w h (fun v h=>RI h v (cM false z)):=by
 have a:=sS g;refine go Tryz.func59 [(0,nV z)] rfl (aD (lA 2 37 ([qF,sZ]) a (fun o w2 x a=>ag (ab a ae ?_))));have ⟨d,e⟩:=dF (p:=(z:Int)<(0:Int)) oM;refine lB 4 d (ai (cK (ab a ae (lV 11 (mV z) ?_ (hr:=rU ((z:Int)) kR (bX oM oM))))));refine lC 12 a (pq z oM _ _ a.g) ?_;rintro _ u _ a ⟨k,i,rfl,c,b⟩;replace a:=a.aS b;refine lC 13 a (rI false z k i c _ _ a.g a.f.1) ?_;rintro _ _ _ a ⟨za,zb,rfl,j,l⟩;replace a:=a.aS l;exact lP 0 0 ([.bool (av (cM false z)),qS za ((lim (ac (cM false z))).length) zb]) a (fun _ a=>af a [(0,0,2)] (.agg #[.bool (av (cM false z)),qS za ((lim (ac (cM false z))).length) zb]) (⟨_,_,rfl,j,a.f.1⟩))
theorem sR (z:Int)(h0 : -9223372036854775808<=z)(h1:z<9223372036854775808)(w:World)(h:Hp)(g:G w h):CR 59 #[iV z] w h (fun v h=>RI h v z):=by
 rcases Int.lt_or_le z 0 with hz|hz
 ·have e:cM true (ac z)=z:=by unfold cM ac;simp;omega
  have:=rR z hz h0 w h g;rw[e] at this
  exact this
 ·obtain ⟨n,rfl⟩:=Int.eq_ofNat_of_zero_le hz
  exact sP n oM w h g
theorem k8 (a:Nat)(A:Z9)(c:Nat)(Q:(lim a).length<=c)(b:Nat)(D:Z9)(d:Nat)(hd:(lim b).length<=d)(M:(lim a).length<=4000000000)(K:(lim b).length<=4000000000)(w:World)(h:Hp)(g:G w h)(I:S3 A (lim a) h)(C:S3 D (lim b) h):CV 130 #[.slice A ((lim a).length) c,.slice D ((lim b).length) d] w h (iV (cA a b)):=by
 have e:=(((sS g).aS I).aS C);refine go Tryz.func130 [(0,qS A ((lim a).length) c),(1,qS D ((lim b).length) d)] rfl (ab e ae (ag (ab e [.c,.v (nV ((lim a).length)),.c,.v (nV ((lim b).length))] ?_)));cases l:((((lim a).length:Nat):Int) != (((lim b).length:Nat):Int))
 .
  have u:=aJ l;refine lB 10 l (ai (cK (cQ (ab e [.c,.v (nV ((lim a).length))] (lV 18 (iV ((((lim a).length:Nat):Int)-1)) ?_ (hr:=rS ((((lim a).length:Nat)-1)) kR ((gz oM oM).trans oM)))))));refine lL e ae (be ?_);refine bU _ (CG.loop (fun z Γ B=>∃ (m:Nat)(h_:Hp),z=m/\Γ=[(0,qS A ((lim a).length) c),(1,qS D ((lim b).length) d),(5,iV ((m:Int)-1))]/\SS w h B h_ [] [] [S3 D (lim b),S3 A (lim a)]/\m<=(lim a).length/\(lim a).length=(lim b).length/\(lim a).drop m=(lim b).drop m) _ ⟨(lim a).length,h,rfl,rfl,e.to _ _,nR _,oM,(by rw[yT oM,yT oM])⟩ ?_);rintro _ _ w2 ⟨m,U,J,rfl,e,S,p,i⟩;refine cQ (ab e ae ?_);cases j:(decide ((0:Int)<=((m:Int)-1:Int)))
  .
   have y:=oF j;refine lB 20 j (ai (CG.exit ?_))
   show CG _ _ _ _ _ _ _ _
   exact ab e ae (af e [] (iV 0) (by rw[iS (Dh (by obtain rfl:m=0:=oM;simpa using i))]))
  have y:=oT j;refine lB 20 j (au (cK (cQ (kZ (cQ (cR 9 [] mixed e ao ?_))))));refine eV 0 23 (qS A ((lim a).length) c) (eV 1 24 (iV ((m:Int)-1)) (eX 2 25 A ((lim a).length) c 1 ((m:Int)-1) (m-1) ((e.f.2.1).ok oM) (eH 3 26 (mW ((lim a).getD (m-1) 0)) e ((e.f.2.1).el (m-1) oM) (eV 4 27 (qS D ((lim b).length) d) (eV 5 28 (iV ((m:Int)-1)) (eX 6 29 D ((lim b).length) d 1 ((m:Int)-1) (m-1) ((e.f.1).ok oM) (eH 7 30 (mW ((lim b).getD (m-1) 0)) e ((e.f.1).el (m-1) oM) ?_)))))));cases o:((((lim a).getD (m-1) 0:Nat):Int) != (((lim b).getD (m-1) 0:Nat):Int))
  .
   have x:=aJ o;refine eB 8 31 o (ce e (fun V F e=>tN (dv (cK (kQ (lL e ae (lV 22 (iV (((m-1:Nat):Int)-1)) ?_ (hr:=rS ((((m:Int)-1)-1)) kR ((gz oM oM).trans oM)))))))));refine lL e ae (lD ?_);intro W H;refine ⟨_,_,?_,⟨m-1,F,rfl,rfl,e.to _ _,oM,p,(fI (k:=m-1) p oM (by rw[show m-1+1=m by omega];exact i) oM)⟩,H.to _ kR⟩
   omega
  have x:=aU o;refine eB 8 31 o (ce e (fun _ _ e=>tN (bT (cQ (cQ (cR 9 [] mixed e ao ?_))))));refine eV 0 32 (qS A ((lim a).length) c) (eV 1 33 (iV ((m:Int)-1)) (eX 2 34 A ((lim a).length) c 1 ((m:Int)-1) (m-1) ((e.f.2.1).ok oM) (eH 3 35 (mW ((lim a).getD (m-1) 0)) e ((e.f.2.1).el (m-1) oM) (eV 4 36 (qS D ((lim b).length) d) (eV 5 37 (iV ((m:Int)-1)) (eX 6 38 D ((lim b).length) d 1 ((m:Int)-1) (m-1) ((e.f.1).ok oM) (eH 7 39 (mW ((lim b).getD (m-1) 0)) e ((e.f.1).el (m-1) oM) ?_)))))));cases za:(decide ((((lim a).getD (m-1) 0:Nat):Int)<(((lim b).getD (m-1) 0:Nat):Int)))
  .
   have L:=oF za;exact eB 8 40 za (ce e (fun _ _ e=>tN (dv (cK (ab e ae (af e [] (iV 1) (by rw[fE (by first|exact gC oM|exact ij (k:=m-1) oM oM (by rw[show m-1+1=m by omega];exact i.symm) oM)])))))))
  have L:=oT za;exact eB 8 40 za (ce e (fun _ _ e=>tN (bT (ab e ae (af e [] (iV (-1)) (by rw[dW (by first|exact gC oM|exact ij (k:=m-1) oM oM (by rw[show m-1+1=m by omega];exact i) oM)]))))))
 have u:=aU l;refine lB 10 l (au (cQ (ab e [.c,.v (nV ((lim a).length)),.c,.v (nV ((lim b).length))] ?_)));cases zb:(decide ((((lim a).length:Nat):Int)<(((lim b).length:Nat):Int)))
 .
  have O:=oF zb;exact lB 15 zb (ai (cK (ab e ae (af e [] (iV 1) (by rw[fE (by first|exact gC oM|exact ij (k:=m-1) oM oM (by rw[show m-1+1=m by omega];exact i.symm) oM)])))))
 have O:=oT zb;exact lB 15 zb (au (ab e ae (af e [] (iV (-1)) (by rw[dW (by first|exact gC oM|exact ij (k:=m-1) oM oM (by rw[show m-1+1=m by omega];exact i) oM)]))))
theorem wZ {a b q r:Nat}(h:a=b*q+r)(hr:r<b):q=a/b/\r=a%b:=by
 subst h;rw[J5 oM,Bs hr,Nat.mul_add_mod,y4 hr];simp
theorem Ir (a:Nat)(A:Z9)(c:Nat)(hc:(lim a).length<=c)(hLa:(lim a).length<=4000000000)(d:Nat)(H:0<d)(hd:d<4294967296)(w:World)(h:Hp)(g:G w h)(hA:S3 A (lim a) h):CR 163 #[.slice A ((lim a).length) c,mW d] w h (fun v h1=>∃ S,∃ r:Nat,v=.tuple #[S,mW r]/\RN h1 S (a/d)/\r=a%d):=by
 have e:=((sS g).aS hA);refine go Tryz.func163 [(0,qS A ((lim a).length) c),(1,mW d)] rfl (ab e aN (a7 (lL e [.c,.v (nV ((lim a).length))] (lK 11 170 ((lim a).length) 1 4 (uW 0) gh 0 e (fun p w2 h3 e=>?_)))));have J:(y2 ((lim a).length) 0).length=((lim a).length):=by simp
 refine lL e ae (a7 (lL e ae (ag (ab e [.c,.v (nV ((lim a).length))] (lV 14 (iV ((((lim a).length:Nat):Int)-1)) ?_ (hr:=rS ((((lim a).length:Nat)-1)) kR ((gz oM oM).trans oM)))))));refine lL e ae (be ?_);refine bU _ (CG.loop (fun M Γ W=>∃ (m:Nat)(z:List Nat)(r:Nat)(h_:Hp),M=m/\Γ=[(0,qS A ((lim a).length) c),(1,mW d),(4,sZ),(5,uW 0),(6,qS (sB p) ((lim a).length) ((lim a).length)),(8,iV ((m:Int)-1)),(7,mV r)]/\SS w h W h_ [⟨p,170,(z).flatMap gh⟩] [] [S3 A (lim a)]/\m<=(lim a).length/\z.length=(lim a).length/\Ld z/\a=d*aq 4294967296 z+(4294967296^m*r+aq 4294967296 ((lim a).take m))/\r<d/\(∀ k,k<m->z.getD k 0=0)) _ ⟨(lim a).length,y2 ((lim a).length) 0,0,h3,rfl,rfl,e.to _ _,nR _,J,Ld.rep _,(by rw[fZ,yN,qg];simp),H,fun k _=>gU⟩ ?_);rintro _ _ w5 ⟨m,z,r,h6,X,rfl,e,hm,B,V,inv,hr,hz⟩;have I:=(Ld.lim a).get (m-1);refine cQ (ab e ae ?_);cases i:(decide ((0:Int)<=((m:Int)-1:Int)))
 .
  have F:=oF i;refine lB 16 i (ai (CG.exit ?_))
  show CG _ _ _ _ _ _ _ _
  refine ab e ae ?_;have L:m=0:=by omega
  rw[L,J9,JI,Ka] at inv
  have D:a=d*aq 4294967296 z+r:=by simpa [aq] using inv
  obtain ⟨K,O⟩:=wZ D hr;have Y:aq 4294967296 z=a/d:=K;obtain ⟨h9,e,C,Q,U⟩:=e.pub 0;replace e:=(e.to [] []).aS (SlO.of_flat (sz:=1) (f:=gh) (d:=0) (b:=p) (o:=0) (l:=z) (fun _=>rfl) C);refine ak 40 e (wj (sB p) ((lim a).length) z ((lim a).length) B oM oM _ _ e.g e.f.1) (fun _ _ e=>lL e ae (lV 42 (mW r) ?_ (hr:=ba (ba (n:=IntKind.wrap .u32 (r:Int)) kR (wd _)) oM)));exact lL e aN (af e [] (.tuple #[qS (sB p) (tl z ((lim a).length)) ((lim a).length),mW r]) (⟨_,r,rfl,RN.trim V Y B (nR _) e.f.1,O⟩))
 have F:=oT i;refine lB 16 i (au (cK (cQ (kZ (ab e ae (lV 20 (mV (r*4294967296%18446744073709551616)) ?_ (hr:=rU (((r:Int)*4294967296)) kR (mM r 4294967296))))))));refine lL e aN (lX 23 A ((lim a).length) c 1 ((m:Int)-1) (m-1) ((e.f.1).ok oM) ?_);refine lH 24 (mW ((lim a).getD (m-1) 0)) e ((e.f.1).el (m-1) oM) (lV 25 (mV ((lim a).getD (m-1) 0)) ?_ (hr:=rU ((((lim a).getD (m-1) 0:Nat):Int)) kR (bX oM oM)));refine lV 26 (mV (r*4294967296+(lim a).getD (m-1) 0)) ?_ (hr:=ba (j5 (t:=23) (u:=23) (x:=.tmp 20) (y:=.tmp 25) (a:=(r*4294967296%18446744073709551616)) (b:=((lim a).getD (m-1) 0)) kR kR kR oM oM _) (by rw[y4 (show r*4294967296<18446744073709551616 by omega),EA I]));refine lL e ae (a7 (lL e nK (lV 31 (mV d) ?_ (hr:=rU ((d:Int)) kR (bX oM oM)))));have j:=uP (r:=r) (x:=(lim a).getD (m-1) 0) H hr I hd;refine lV 32 (mV ((r*4294967296+(lim a).getD (m-1) 0)/d)) ?_ (hr:=ba (dZ (t:=23) (u:=23) (x:=.tmp 29) (y:=.tmp 31) (k:=.u64) (a:=((r*4294967296+(lim a).getD (m-1) 0:Nat):Int)) (b:=(d:Int)) kR kR kR oM _) (l8 (r*4294967296+(lim a).getD (m-1) 0) d oM));refine lV 33 (mW (((r*4294967296+(lim a).getD (m-1) 0)/d:Nat)%4294967296)) ?_ (hr:=rT ((((r*4294967296+(lim a).getD (m-1) 0)/d:Nat):Int)) kR (wd _));refine lX 34 (sB p) ((lim a).length) ((lim a).length) 1 ((m:Int)-1) (m-1) rfl (lW 0 z gh 1 (m-1) (((r*4294967296+(lim a).getD (m-1) 0)/d:Nat)%4294967296:Nat) e oM (fun _ e=>?_));have za:((z).set (m-1) (((r*4294967296+(lim a).getD (m-1) 0)/d:Nat)%4294967296:Nat)).length=((lim a).length):=by rw[JJ];exact B
 replace e:=e.to [⟨p,170,((z).set (m-1) (((r*4294967296+(lim a).getD (m-1) 0)/d:Nat)%4294967296:Nat)).flatMap gh⟩] [];refine lN (kQ (lL e aN (lV 37 (mV d) ?_ (hr:=rU ((d:Int)) kR (bX oM oM)))));refine lV 38 (mV ((r*4294967296+(lim a).getD (m-1) 0)%d)) ?_ (hr:=ba (gn (t:=23) (u:=23) (x:=.tmp 35) (y:=.tmp 37) (k:=.u64) (a:=((r*4294967296+(lim a).getD (m-1) 0:Nat):Int)) (b:=(d:Int)) kR kR kR oM _) (dY (r*4294967296+(lim a).getD (m-1) 0) d));refine lL e ae (lN (kQ (lL e ae (lV 18 (iV (((m-1:Nat):Int)-1)) ?_ (hr:=rS ((((m:Int)-1)-1)) kR ((gz oM oM).trans oM))))));refine lL e ae (lD ?_);intro a_ Z;refine ⟨_,_,?_,⟨m-1,(z).set (m-1) (((r*4294967296+(lim a).getD (m-1) 0)/d:Nat)%4294967296:Nat),((r*4294967296+(lim a).getD (m-1) 0)%d:Nat),h6,rfl,rfl,e.to _ _,oM,za,(V.set _ (y5 _ kD)),(by rw[j.1];exact wi oM oM (hz _ oM) inv j.2.1),j.2.2,(fun k hk=>by rw[bO oM,if_neg oM];exact hz k oM)⟩,Z.to _ kR⟩
 omega
theorem ws (a:Nat)(A:Z9)(c:Nat)(H:(lim a).length<=c)(C:(lim a).length<=4000000000)(w:World)(h:Hp)(g:G w h)(y:S3 A (lim a) h):CV 134 #[.slice A ((lim a).length) c] w h (nV (nb a)):=by
 have b:=((sS g).aS y);have z:=@d6 a;have k:=(Ld.lim a).get ((lim a).length-1);refine go Tryz.func134 [(0,qS A ((lim a).length) c)] rfl (ab b ae (ag (ab b [.c,.v (nV ((lim a).length))] ?_)));cases e:((((lim a).length:Nat):Int) == (0:Int))
 .
  have i:=ah e;refine lB 7 e (ai (cK (ab b [.c,.v (nV ((lim a).length))] (bM 10 (((lim a).length:Nat)-1) (((lim a).length)-1) ?_))));refine bM 11 (32*(((lim a).length)-1:Nat)) (32*(((lim a).length)-1:Nat)) (lL b ae (ag (ab b [.c,.c,.v (nV ((lim a).length))] (lI 15 (((lim a).length:Nat)-1) ?_))));refine lX 16 A ((lim a).length) c 1 (((lim a).length:Nat)-1) (((lim a).length)-1) ((b.f.1).ok oM) (lH 17 (mW ((lim a).getD (((lim a).length)-1) 0)) b ((b.f.1).el (((lim a).length)-1) oM) (lL b ae (be ?_)));refine bU _ (CG.loop (fun l Γ p=>∃ (n:Nat)(x:Nat)(h_:Hp),l=x/\Γ=[(2,iV 0),(3,nV n),(4,mW x)]/\SS w h p h_ [] [] [S3 A (lim a)]/\n+nb x=nb a/\x<4294967296/\nb a<=128000000000) _ ⟨32*((lim a).length-1),(lim a).getD ((lim a).length-1) 0,h,rfl,rfl,b.to _ _,(Ff oM).symm,k,(by have:=rP a;omega)⟩ ?_);rintro _ _ w2 ⟨n,x,F,B,rfl,b,o,I,D⟩;refine cQ (ab b ae ?_);cases d:(decide ((0:Int)<(x:Int)))
  .
   have j:=oF d;refine lB 19 d (ai (CG.exit ?_))
   show CG _ _ _ _ _ _ _ _
   exact ab b aN (af b [] (nV n) (by obtain rfl:x=0:=oM;rw[Be] at o;rw[<-o];rfl))
  have j:=oT d;refine lB 19 d (au (cK (cQ (kZ (kQ (lL b ae (bM 23 ((n:Nat)+1) (n+1) ?_)))))));refine lL b ae (lN (kQ (lL b ae (lV 21 (mW (x/2)) ?_ (hr:=ba (n:=J7 (x:Nat) 2) kR (lh x 2))))));refine lL b ae (lD ?_);intro J u;refine ⟨_,_,?_,⟨n+1,x/2,F,rfl,rfl,b.to _ _,(by have:=Df (n:=x) oM;omega),oM,D⟩,u.to _ kR⟩
  omega
 have i:=eq_of_beq e;exact lB 7 e (au (ab b ae (af b [] (iV 0) (by obtain rfl:a=0:=oM;rfl))))
def l3 (u2 u1 u0:Nat):Nat:=4294967296*(4294967296*u2+u1)+u0
def l2 (v1 v0:Nat):Nat:=4294967296*v1+v0
structure Hss (u2 u1 u0 v1 v0 g r o:Nat):Prop where
  e:g*v1+(r+4294967296*o)=4294967296*u2+u1
  lt:g+1=4294967296\/l3 u2 u1 u0<(g+1)*l2 v1 v0
  gb:g<4294967296
structure Gk (u2 u1 u0 v1 v0 g r:Nat):Prop where
  e:g*v1+r=4294967296*u2+u1
  lt:4294967296<=g+1\/l3 u2 u1 u0<(g+1)*l2 v1 v0
section joi
variable {P:Program}{n:Nat}{N R:Po}{X:Nat->Po}{Γ:cH}{w:World}
theorem CG.join {x y:Code}(I:cH->World->Prop)(h1:CG P n (fun a w'=>∃ b,I b w'/\Kn n a b) R X x Γ w)(h:∀ Γ w,I Γ w->CG P n N R X y Γ w):CG P n N R X (.seq x y) Γ w:=by
 intro a f;refine wp_seq (wp_mono (h1 a f) ?_);intro e a w d;cases e with
 | normal=>obtain ⟨b,i,c⟩:=d;exact h b w i a c
 | _=>exact d
end joi
section fin
variable {M:Ms}{P:Program}{n:Nat}{N R:Po}{X:Nat->Po}{ops:Array Oper}{k0:Nat}{hr:Hp}{L:Array Bool}{Γ:cH}{w:World}{h:Hp}{w0:World}{h0:Hp}{B:List Bx}{Rs:List Rw}{F:List (Hp->Prop)}
theorem FW (s:SS w0 h0 w h B Rs F)(H:∀ w' h',Up w h w' h'->SS w0 h0 w' h' B Rs F->AG M P n N R X ops k0 L Γ w')(a:gI ops [] L=true:=by kernel_rfl):EG M P n N R X ops k0 hr [] L Γ w h:=Rg.fin0 a (fun w' h' u=>H w' h' u (s.step u))
end fin
theorem vu (a:Nat)(A:Z9)(c:Nat)(o:(lim a).length<=c)(b:Nat)(D:Z9)(d:Nat)(hd:(lim b).length<=d)(C:(lim a).length<=3000000000)(z:(lim b).length<=3000000000)(i:a<b)(w:World)(h:Hp)(g:G w h)(y:S3 A (lim a) h)(x:S3 D (lim b) h):CR 136 #[.slice A ((lim a).length) c,.slice D ((lim b).length) d] w h (fun v h1=>∃ k l,v=.tuple #[k,l]/\RN h1 k (a/b)/\RN h1 l (a%b)):=by
 have e:=(((sS g).aS y).aS x);have B:=dW i;refine go Tryz.func136 [(0,qS A ((lim a).length) c),(1,qS D ((lim b).length) d)] rfl (ab e aN (ag (ab e aN (ak 27 e (k8 a A c o b D d hd oM oM _ _ e.g e.f.2.1 e.f.1) (fun w1 F e=>?_)))));have ⟨j,u⟩:=dT (p:=(cA a b:Int)<(0:Int)) oM;exact lB 28 j (au (ab e ff (af e [] (.tuple #[sZ,qS A ((lim a).length) c]) (⟨_,_,rfl,by rw[Bs i];exact ⟨none,0,rfl,nR _,SlO.nil⟩,by rw[y4 i];exact ⟨A,c,rfl,o,e.f.2.1⟩⟩))))
theorem ry {b:Nat}(h:(lim b).length=1):b<4294967296/\(lim b).getD 0 0=b/\0<b:=by
 have h1:=jo b;rw[h] at h1
 have a:0<b:=d6.1 oM;refine ⟨by omega,?_,a⟩;rw[Cn a oM];rfl
theorem sd (a:Nat)(A:Z9)(c:Nat)(H:(lim a).length<=c)(b:Nat)(D:Z9)(d:Nat)(hd:(lim b).length<=d)(V:(lim a).length<=3000000000)(S:(lim b).length<=3000000000)(u:b<=a)(h1:(lim b).length=1)(w:World)(h:Hp)(g:G w h)(Q:S3 A (lim a) h)(L:S3 D (lim b) h):CR 136 #[.slice A ((lim a).length) c,.slice D ((lim b).length) d] w h (fun v h1=>∃ z F,v=.tuple #[z,F]/\RN h1 z (a/b)/\RN h1 F (a%b)):=by
 have e:=(((sS g).aS Q).aS L);have U:=gB u;obtain ⟨M,k,i⟩:=ry h1;refine go Tryz.func136 [(0,qS A ((lim a).length) c),(1,qS D ((lim b).length) d)] rfl (ab e aN (ag (ab e aN (ak 27 e (k8 a A c H b D d hd oM oM _ _ e.g e.f.2.1 e.f.1) (fun w1 X e=>?_)))));have ⟨i,I⟩:=dF (p:=(cA a b:Int)<(0:Int)) oM;refine lB 28 i (ai (cK (cQ (ab e [.c,.v (nV ((lim b).length))] ?_))));have j:((((lim b).length:Nat):Int) == (1:Int))=true:=nJ oM;have y:=eq_of_beq j;refine lB 32 j (au (ab e aN (lX 36 D ((lim b).length) d 1 0 0 ((e.f.1).ok oM) ?_)));refine lH 37 (mW ((lim b).getD 0 0)) e ((e.f.1).el 0 oM) (lC 38 e (Ir a A c H oM ((lim b).getD 0 0) oM oM _ _ e.g e.f.2.1) ?_);rintro _ Y Z e ⟨_,r,rfl,⟨C,B,rfl,l,W⟩,x⟩;replace e:=e.aS W;refine lL e [.c,.v (qS C ((lim (a/((lim b).getD 0 0))).length) B),.v (mW r),.c,.c] (a7 (lL e aN ?_));have K:=y5 a (show 0<(lim b).getD 0 0 by omega);refine lV 43 (mV r) ?_ (hr:=rU ((r:Int)) kR (bX oM oM));refine lC 44 e (pq r oM _ _ e.g) ?_;rintro _ _ _ e ⟨J,O,rfl,o,za⟩;replace e:=e.aS za;exact lL e aN (af e [] (.tuple #[qS C ((lim (a/((lim b).getD 0 0))).length) B,qS J ((lim r).length) O]) (⟨_,_,rfl,by rw[k] at *;exact ⟨_,_,rfl,l,e.f.2.1⟩,by rw[<-k,<-x];exact ⟨_,_,rfl,o,e.f.1⟩⟩))
theorem nI (x y:Nat):Nat.gcd y (x%y)=Nat.gcd x y:=by rw[Kb y,<-Nat.gcd_rec,Kb]
def ar (x:Nat):List Value:=[.int .u64 (x:Nat)]
theorem vS {l:List Nat}{m:Nat}(h:0<m)(h0:l.getD (m-1) 0=0):tl l m=tl l (m-1):=by
 obtain ⟨k,rfl⟩:∃ k,m=k+1:=⟨m-1,by omega⟩;rw[lp,if_pos (by simpa using h0)];rfl
theorem qN (s:ByteArray)(d:8<=s.size)(w:World)(h:Hp)(g:G w h):CV 132 #[.string s] w h (mV (wv s)):=by
 have c:=sS g;have C:=dM s 0;have B:=dM s 1;have D:=dM s 2;have f:=dM s 3;have o:=dM s 4;have l:=dM s 5;have p:=dM s 6;have e:=dM s 7;refine go Tryz.func132 [(0,.string s)] rfl (ab c ae (ag (cR 38 [] mixed c ao ?_)));refine eV 0 3 (.string s) (eV 1 4 (.int .u8 (bC s 0:Nat)) ?_ (hv:=fun _=>gG (tx:=9) (x:=.tmp 3) (i:=.const (iV 0)) (k:=.i64) (s:=s) (n:=0) (j:=(0:Int)) kR kR kR kR oM oM _));refine eV 2 5 (mV (bC s 0)) ?_ (hv:=fun _=>rU (((bC s 0:Nat):Int)) kR (bX oM oM));refine eV 3 6 (.string s) (eV 4 7 (.int .u8 (bC s 1:Nat)) ?_ (hv:=fun _=>gG (tx:=9) (x:=.tmp 6) (i:=.const (iV 1)) (k:=.i64) (s:=s) (n:=1) (j:=(1:Int)) kR kR kR kR oM oM _));refine eV 5 8 (mV (bC s 1)) ?_ (hv:=fun _=>rU (((bC s 1:Nat):Int)) kR (bX oM oM));refine eV 6 9 (mV ((bC s 1)*256)) ?_ (hv:=fun _=>rU ((((bC s 1:Nat):Int)*256)) kR ((bX oM oM).trans oM));refine eV 7 10 (mV (bC s 0+bC s 1*256)) ?_ (hv:=fun _=>ba (j5 (t:=23) (u:=23) (x:=.tmp 5) (y:=.tmp 9) (a:=(bC s 0)) (b:=((bC s 1)*256)) kR kR kR oM oM _) (by rw[iJ 8 oM];first|done|omega));refine eV 8 11 (.string s) (eV 9 12 (.int .u8 (bC s 2:Nat)) ?_ (hv:=fun _=>gG (tx:=9) (x:=.tmp 11) (i:=.const (iV 2)) (k:=.i64) (s:=s) (n:=2) (j:=(2:Int)) kR kR kR kR oM oM _));refine eV 10 13 (mV (bC s 2)) ?_ (hv:=fun _=>rU (((bC s 2:Nat):Int)) kR (bX oM oM));refine eV 11 14 (mV ((bC s 2)*65536)) ?_ (hv:=fun _=>rU ((((bC s 2:Nat):Int)*65536)) kR ((bX oM oM).trans oM));refine eV 12 15 (mV (bC s 0+bC s 1*256+bC s 2*65536)) ?_ (hv:=fun _=>ba (j5 (t:=23) (u:=23) (x:=.tmp 10) (y:=.tmp 14) (a:=(bC s 0+bC s 1*256)) (b:=((bC s 2)*65536)) kR kR kR oM oM _) (by rw[iJ 16 oM];first|done|omega));refine eV 13 16 (.string s) (eV 14 17 (.int .u8 (bC s 3:Nat)) ?_ (hv:=fun _=>gG (tx:=9) (x:=.tmp 16) (i:=.const (iV 3)) (k:=.i64) (s:=s) (n:=3) (j:=(3:Int)) kR kR kR kR oM oM _));refine eV 15 18 (mV (bC s 3)) ?_ (hv:=fun _=>rU (((bC s 3:Nat):Int)) kR (bX oM oM));refine eV 16 19 (mV ((bC s 3)*16777216)) ?_ (hv:=fun _=>rU ((((bC s 3:Nat):Int)*16777216)) kR ((bX oM oM).trans oM));refine eV 17 20 (mV (bC s 0+bC s 1*256+bC s 2*65536+bC s 3*16777216)) ?_ (hv:=fun _=>ba (j5 (t:=23) (u:=23) (x:=.tmp 15) (y:=.tmp 19) (a:=(bC s 0+bC s 1*256+bC s 2*65536)) (b:=((bC s 3)*16777216)) kR kR kR oM oM _) (by rw[iJ 24 oM];first|done|omega));refine eV 18 21 (.string s) (eV 19 22 (.int .u8 (bC s 4:Nat)) ?_ (hv:=fun _=>gG (tx:=9) (x:=.tmp 21) (i:=.const (iV 4)) (k:=.i64) (s:=s) (n:=4) (j:=(4:Int)) kR kR kR kR oM oM _));refine eV 20 23 (mV (bC s 4)) ?_ (hv:=fun _=>rU (((bC s 4:Nat):Int)) kR (bX oM oM));refine eV 21 24 (mV ((bC s 4)*4294967296)) ?_ (hv:=fun _=>rU ((((bC s 4:Nat):Int)*4294967296)) kR ((bX oM oM).trans oM));refine eV 22 25 (mV (bC s 0+bC s 1*256+bC s 2*65536+bC s 3*16777216+bC s 4*4294967296)) ?_ (hv:=fun _=>ba (j5 (t:=23) (u:=23) (x:=.tmp 20) (y:=.tmp 24) (a:=(bC s 0+bC s 1*256+bC s 2*65536+bC s 3*16777216)) (b:=((bC s 4)*4294967296)) kR kR kR oM oM _) (by rw[iJ 32 oM];first|done|omega));refine eV 23 26 (.string s) (eV 24 27 (.int .u8 (bC s 5:Nat)) ?_ (hv:=fun _=>gG (tx:=9) (x:=.tmp 26) (i:=.const (iV 5)) (k:=.i64) (s:=s) (n:=5) (j:=(5:Int)) kR kR kR kR oM oM _));refine eV 25 28 (mV (bC s 5)) ?_ (hv:=fun _=>rU (((bC s 5:Nat):Int)) kR (bX oM oM));refine eV 26 29 (mV ((bC s 5)*1099511627776)) ?_ (hv:=fun _=>rU ((((bC s 5:Nat):Int)*1099511627776)) kR ((bX oM oM).trans oM));refine eV 27 30 (mV (bC s 0+bC s 1*256+bC s 2*65536+bC s 3*16777216+bC s 4*4294967296+bC s 5*1099511627776)) ?_ (hv:=fun _=>ba (j5 (t:=23) (u:=23) (x:=.tmp 25) (y:=.tmp 29) (a:=(bC s 0+bC s 1*256+bC s 2*65536+bC s 3*16777216+bC s 4*4294967296)) (b:=((bC s 5)*1099511627776)) kR kR kR oM oM _) (by rw[iJ 40 oM];first|done|omega));refine eV 28 31 (.string s) (eV 29 32 (.int .u8 (bC s 6:Nat)) ?_ (hv:=fun _=>gG (tx:=9) (x:=.tmp 31) (i:=.const (iV 6)) (k:=.i64) (s:=s) (n:=6) (j:=(6:Int)) kR kR kR kR oM oM _));refine eV 30 33 (mV (bC s 6)) ?_ (hv:=fun _=>rU (((bC s 6:Nat):Int)) kR (bX oM oM));refine eV 31 34 (mV ((bC s 6)*281474976710656)) ?_ (hv:=fun _=>rU ((((bC s 6:Nat):Int)*281474976710656)) kR ((bX oM oM).trans oM));refine eV 32 35 (mV (bC s 0+bC s 1*256+bC s 2*65536+bC s 3*16777216+bC s 4*4294967296+bC s 5*1099511627776+bC s 6*281474976710656)) ?_ (hv:=fun _=>ba (j5 (t:=23) (u:=23) (x:=.tmp 30) (y:=.tmp 34) (a:=(bC s 0+bC s 1*256+bC s 2*65536+bC s 3*16777216+bC s 4*4294967296+bC s 5*1099511627776)) (b:=((bC s 6)*281474976710656)) kR kR kR oM oM _) (by rw[iJ 48 oM];first|done|omega));refine eV 33 36 (.string s) (eV 34 37 (.int .u8 (bC s 7:Nat)) ?_ (hv:=fun _=>gG (tx:=9) (x:=.tmp 36) (i:=.const (iV 7)) (k:=.i64) (s:=s) (n:=7) (j:=(7:Int)) kR kR kR kR oM oM _));refine eV 35 38 (mV (bC s 7)) ?_ (hv:=fun _=>rU (((bC s 7:Nat):Int)) kR (bX oM oM));refine eV 36 39 (mV ((bC s 7)*72057594037927936)) ?_ (hv:=fun _=>rU ((((bC s 7:Nat):Int)*72057594037927936)) kR ((bX oM oM).trans oM));refine eV 37 40 (mV (bC s 0+bC s 1*256+bC s 2*65536+bC s 3*16777216+bC s 4*4294967296+bC s 5*1099511627776+bC s 6*281474976710656+bC s 7*72057594037927936)) ?_ (hv:=fun _=>ba (j5 (t:=23) (u:=23) (x:=.tmp 35) (y:=.tmp 39) (a:=(bC s 0+bC s 1*256+bC s 2*65536+bC s 3*16777216+bC s 4*4294967296+bC s 5*1099511627776+bC s 6*281474976710656)) (b:=((bC s 7)*72057594037927936)) kR kR kR oM oM _) (by rw[iJ 56 oM];first|done|omega));exact ce c (fun w1 z c=>tV 38 2 (mV (bC s 0+bC s 1*256+bC s 2*65536+bC s 3*16777216+bC s 4*4294967296+bC s 5*1099511627776+bC s 6*281474976710656+bC s 7*72057594037927936)) (tN (kX (c.ret [] (mV (bC s 0+bC s 1*256+bC s 2*65536+bC s 3*16777216+bC s 4*4294967296+bC s 5*1099511627776+bC s 6*281474976710656+bC s 7*72057594037927936)) rfl))))
theorem DP (A:Z9)(c:Nat)(l:List Nat)(B:l.length<=1099511627776)(C:l.length<=c)(w:World)(h:Hp)(g:G w h)(z:SlO 1 ar 0 h A l):CV 143 #[.slice A l.length c] w h (.slice A (tl l l.length) c):=by
 have a:=((sS g).aS z);refine go Tryz.func143 [(0,qS A l.length c)] rfl (ab a ae (ag (kZ ?_)));refine bU _ (CG.loop (fun j Γ u=>∃ (m:Nat)(k:Hp),j=m/\Γ=[(2,sZ),(0,qS A m c)]/\SS w h u k [] [] [fun k=>SlO 1 ar 0 k A l]/\m<=l.length/\tl l l.length=tl l m) _ ⟨l.length,h,rfl,rfl,a.to _ _,nR _,rfl⟩ ?_);rintro _ _ w1 ⟨m,p,x,rfl,a,D,o⟩;refine cQ (ab a [.c,.v (nV m)] ?_);cases d:(decide ((0:Int)<(m:Int)))
 .
  have e:=oF d;refine lB 5 d (lL a ae (lG 7 ?_));refine lG 8 (lG 9 (lG 10 (lG 11 (lG 12 (lG 13 (lL a [.v qF] (ai (CG.exit ?_))))))))
  show CG _ _ _ _ _ _ _ _
  exact ab a aN (af a [] (qS A m c) (by rw[o,nM oM]))
 have e:=oT d;refine lB 5 d (lL a [.c,.c,.c,.v (nV m)] (bM 10 ((m:Nat)-1) (m-1) ?_));refine lX 11 A m c 1 (m-1:Nat) (m-1) ((a.f.1).ok oM) (lH 12 (mV (l.getD (m-1) 0)) a ((a.f.1).el (m-1) oM) ?_);cases b:(((l.getD (m-1) 0:Nat):Int) == (0:Int))
 .
  have i:=ah b;refine lB 13 b (lL a [.v qF] (ai (CG.exit ?_)))
  show CG _ _ _ _ _ _ _ _
  exact ab a aN (af a [] (qS A m c) (by rw[o,nM oM]))
 have i:=eq_of_beq b;refine lB 13 b (lL a [.v qT] (au (cK (kZ (kQ (lL a [.c,.c,.v (nV m)] (bM 18 ((m:Nat)-1) (m-1) ?_)))))));refine lT 19 A m c 1 (m-1:Nat) (m-1) (lL a ae (lD ?_));intro F y;refine ⟨_,_,?_,⟨m-1,p,rfl,rfl,a.to _ _,oM,(by rw[o];exact vS oM oM)⟩,y.to _ kR⟩
 omega
theorem rj {l m:List Nat}(b:l.length=m.length)(h:∀ j,j<l.length->l.getD j 0=m.getD j 0):l=m:=by
 apply List.ext_getElem b
 intro i h1 a;have:=h i h1
 simpa [h1,a] using this
theorem rh {l m:List Nat}{i x:Nat}(hi:i<l.length)(h:∀ j,j<i->l.getD j 0=m.getD j 0)(a:x=m.getD i 0):∀ j,j<i+1->(l.set i x).getD j 0=m.getD j 0:=fun j b=>by
 rw[bO hi]
 split
 ·rename_i e;rw[<-e];exact a
 ·exact h j oM
def BJ (h h1:Hp)(v:Value)(l:List Nat):Prop:=∃ b,v=.slice (some ⟨b,0,none⟩) l.length l.length/\h.size<=b/\h1[b]?=some (.cells (l.flatMap ar).toArray 23 (0,0))/\SlO 1 ar 0 h1 (some ⟨b,0,none⟩) l
theorem j6  (w:World)(h:Hp)(g:G w h):CV 110 #[nv 0] w h sZ:=by
 have a:=sS g;exact go Tryz.func110 [(0,nv 0)] rfl (aD (lA 1 25 ([uV 0,eS]) a (fun b w2 d a=>lL a ae (ag (ab a [.v (qP b 1),.o (eS) 0 1 1,.v qT,.c,.v (pB b),.o (uV 0) 0 0 1,.v qT,.v qT] (au (ab a ae (af a [] (sZ) rfl))))))))
theorem iI (s:ByteArray)(k:Nat):(s.extract k s.size).size=s.size-k:=by
 simp[ByteArray.size_extract]
theorem p8 {n L:Nat}(a:0<L):∀ j,j<1->((y2 L 0).set 0 (n%18446744073709551616)).getD j 0=(wds n).getD j 0:=fun j b=>by
 have:j=0:=by omega
 subst this;rw[bO (by simpa using a),if_pos rfl];have:=su n
 unfold lo at this
 exact Int.ofNat.inj this
theorem C3 (n:Nat)(S:0<n)(hl:(wds n).length<=1000000000)(B:n<18446744073709551616)(w:World)(h:Hp)(g:G w h):CR 110 #[nv n] w h (fun v h1=>BJ h h1 v (wds n)):=by
 have e:=sS g;have hz:=iR n;have hp:=ll.2 S;have hlo:=jC B;have I:=congrArg List.length (kj S B)
 simp only[List.length_singleton] at I
 refine go Tryz.func110 [(0,nv n)] rfl (aD (lA 1 25 (nc n) e (fun p w2 h3 e=>lL e ae (ag (ab e [.v (qP p 1),.o (.string (hi n)) 0 1 1] (lV 7 qT ?_ (hr:=rb kR (iu (dR B)))))))));refine lL e [.c,.v (pB p),.o (mV (n%18446744073709551616)) 0 0 1] ?_;have D:(((n%18446744073709551616:Nat):Int) == (0:Int))=false:=fl oM;have O:=ah D;refine lB 11 D (lL e [.v qF] (ai (cK (ab e [.v (qP p 1),.o (.string (hi n)) 0 1 1,.v (nV ((hi n).size))] (lV 16 (nV (((hi n).size)/8)) ?_ (hr:=ba (dZ (t:=3) (u:=3) (x:=.tmp 15) (y:=.const (iV 8)) (k:=.i64) (a:=(((hi n).size:Nat):Int)) (b:=(8:Int)) kR kR kR oM _) (dV ((hi n).size) 8 oM)))))));refine bM 17 (1+(((hi n).size)/8:Nat)) ((wds n).length) (lK 18 23 ((wds n).length) 1 8 (uV 0) ar 0 e (fun z w6 h7 e=>?_));have K:(y2 ((wds n).length) 0).length=((wds n).length):=by simp
 refine lL e ae (a7 (lL e [.c,.v (pB p),.o (mV (n%18446744073709551616)) 1 0 1] (lX 22 (sB z) ((wds n).length) ((wds n).length) 1 0 0 rfl ?_)));refine lW 0 (y2 ((wds n).length) 0) ar 1 0 (n%18446744073709551616) e oM (fun w9 e=>?_);have zc:((y2 ((wds n).length) 0).set 0 (n%18446744073709551616)).length=((wds n).length):=by rw[JJ];exact K
 replace e:=e.to [⟨z,23,((y2 ((wds n).length) 0).set 0 (n%18446744073709551616)).flatMap ar⟩,⟨p,25,nc n⟩] [];refine ag (ab e ae (be ?_));refine bU _ (CG.loop (fun M Γ W=>∃ (i:Nat)(l:List Nat)(h_:Hp),M=(wds n).length-i/\Γ=[(1,pB p),(2,sZ),(3,qS (sB z) ((wds n).length) ((wds n).length)),(4,nV i)]/\SS w h W h_ [⟨z,23,(l).flatMap ar⟩,⟨p,25,nc n⟩] [] []/\1<=i/\i<=(wds n).length/\l.length=(wds n).length/\(∀ j,j<i->l.getD j 0=(wds n).getD j 0)) _ ⟨1,(y2 ((wds n).length) 0).set 0 (n%18446744073709551616),h7,rfl,rfl,e.to _ _,nR _,by omega,zc,p8 oM⟩ ?_);rintro _ _ _ ⟨i,l,_,Q,rfl,e,V,Y,L,U⟩;refine cQ (ab e [.c,.c,.v (nV ((wds n).length))] ?_);cases za:(decide ((i:Int)<((((wds n).length):Nat):Int)))
 .
  have zb:=oF za;refine lB 26 za (ai (CG.exit ?_))
  show CG _ _ _ _ _ _ _ _
  refine ab e aN (lN (kX ?_));have hiL:i=(wds n).length:=by omega
  have J:l=wds n:=rj oM (fun j hj=>U j oM);rw[J] at e
  obtain ⟨_,e,H,C,F⟩:=e.pub 0;replace e:=(e.to [⟨p,25,nc n⟩] []).aS (SlO.of_flat (sz:=1) (f:=ar) (d:=0) (b:=z) (o:=0) (l:=wds n) (fun _=>rfl) H);exact e.ret [] (qS (sB z) ((wds n).length) ((wds n).length)) (⟨z,rfl,C,F,e.f.1⟩)
 have zb:=oT za;refine lB 26 za (au (cK (cQ (kZ (kQ (lL e [.c,.c,.v (qP p 1),.o (.string (hi n)) 1 1 1,.c] (lI 34 ((i:Nat)-1) ?_)))))));refine bM 35 (8*((i:Nat)-1)) (8*(i-1)) (lV 36 (.string ((hi n).extract (8*(i-1)) (hi n).size)) ?_ (hr:=qG (tx:=9) (x:=.tmp 32) (i:=.tmp 35) (k:=.i64) (s:=hi n) (n:=(8*(i-1))) (j:=((8*(i-1):Nat):Int)) kR kR kR kR oM oM _));refine ak 37 e (qN ((hi n).extract (8*(i-1)) (hi n).size) (by rw[iI];omega) _ _ e.g) (fun _ Z e=>lX 38 (sB z) ((wds n).length) ((wds n).length) 1 (i:Nat) i rfl (lW 0 l ar 1 i (wv ((hi n).extract (8*(i-1)) (hi n).size):Nat) e oM (fun _ e=>?_)));have zd:((l).set i (wv ((hi n).extract (8*(i-1)) (hi n).size):Nat)).length=((wds n).length):=by rw[JJ];exact L
 replace e:=e.to [⟨z,23,((l).set i (wv ((hi n).extract (8*(i-1)) (hi n).size):Nat)).flatMap ar⟩,⟨p,25,nc n⟩] [];refine lN (kQ (lL e ae (bM 28 ((i:Nat)+1) (i+1) ?_)));refine lL e ae (lD ?_);intro a_ X;refine ⟨_,_,?_,⟨i+1,(l).set i (wv ((hi n).extract (8*(i-1)) (hi n).size):Nat),Z,rfl,rfl,e.to _ _,oM,oM,zd,(rh oM U (by rw[jl n (i-1) oM,show i-1+1=i by omega]))⟩,X.to _ kR⟩
 omega
theorem Ca (n:Nat)(W:0<n)(hl:(wds n).length<=1000000000)(H:18446744073709551616<=n)(w:World)(h:Hp)(g:G w h):CR 110 #[nv n] w h (fun v h1=>BJ h h1 v (wds n)):=by
 have e:=sS g;have hz:=iR n;have hp:=ll.2 W;refine go Tryz.func110 [(0,nv n)] rfl (aD (lA 1 25 (nc n) e (fun z w2 h3 e=>lL e ae (ag (ab e [.v (qP z 1),.o (.string (hi n)) 0 1 1] (lV 7 qF ?_ (hr:=rb kR (ja (fw H)))))))));refine lL e ae (lG 9 ?_);refine lG 10 (lG 11 (lL e [.v qF] (ai (cK (ab e [.v (qP z 1),.o (.string (hi n)) 0 1 1,.v (nV ((hi n).size))] (lV 16 (nV (((hi n).size)/8)) ?_ (hr:=ba (dZ (t:=3) (u:=3) (x:=.tmp 15) (y:=.const (iV 8)) (k:=.i64) (a:=(((hi n).size:Nat):Int)) (b:=(8:Int)) kR kR kR oM _) (dV ((hi n).size) 8 oM))))))));refine bM 17 (1+(((hi n).size)/8:Nat)) ((wds n).length) (lK 18 23 ((wds n).length) 1 8 (uV 0) ar 0 e (fun p w5 X e=>?_));have L:(y2 ((wds n).length) 0).length=((wds n).length):=by simp
 refine lL e ae (a7 (lL e [.c,.v (pB z),.o (mV (n%18446744073709551616)) 1 0 1] (lX 22 (sB p) ((wds n).length) ((wds n).length) 1 0 0 rfl ?_)));refine lW 0 (y2 ((wds n).length) 0) ar 1 0 (n%18446744073709551616) e oM (fun w8 e=>?_);have K:((y2 ((wds n).length) 0).set 0 (n%18446744073709551616)).length=((wds n).length):=by rw[JJ];exact L
 replace e:=e.to [⟨p,23,((y2 ((wds n).length) 0).set 0 (n%18446744073709551616)).flatMap ar⟩,⟨z,25,nc n⟩] [];refine ag (ab e ae (be ?_));refine bU _ (CG.loop (fun J Γ S=>∃ (i:Nat)(l:List Nat)(h_:Hp),J=(wds n).length-i/\Γ=[(1,pB z),(2,sZ),(3,qS (sB p) ((wds n).length) ((wds n).length)),(4,nV i)]/\SS w h S h_ [⟨p,23,(l).flatMap ar⟩,⟨z,25,nc n⟩] [] []/\1<=i/\i<=(wds n).length/\l.length=(wds n).length/\(∀ j,j<i->l.getD j 0=(wds n).getD j 0)) _ ⟨1,(y2 ((wds n).length) 0).set 0 (n%18446744073709551616),X,rfl,rfl,e.to _ _,nR _,by omega,K,p8 oM⟩ ?_);rintro _ _ _ ⟨i,l,_,M,rfl,e,Q,V,I,O⟩;refine cQ (ab e [.c,.c,.v (nV ((wds n).length))] ?_);cases za:(decide ((i:Int)<((((wds n).length):Nat):Int)))
 .
  have zb:=oF za;refine lB 26 za (ai (CG.exit ?_))
  show CG _ _ _ _ _ _ _ _
  refine ab e aN (lN (kX ?_));have hiL:i=(wds n).length:=by omega
  have F:l=wds n:=rj oM (fun j hj=>O j oM);rw[F] at e
  obtain ⟨_,e,C,D,B⟩:=e.pub 0;replace e:=(e.to [⟨z,25,nc n⟩] []).aS (SlO.of_flat (sz:=1) (f:=ar) (d:=0) (b:=p) (o:=0) (l:=wds n) (fun _=>rfl) C);exact e.ret [] (qS (sB p) ((wds n).length) ((wds n).length)) (⟨p,rfl,D,B,e.f.1⟩)
 have zb:=oT za;refine lB 26 za (au (cK (cQ (kZ (kQ (lL e [.c,.c,.v (qP z 1),.o (.string (hi n)) 1 1 1,.c] (lI 34 ((i:Nat)-1) ?_)))))));refine bM 35 (8*((i:Nat)-1)) (8*(i-1)) (lV 36 (.string ((hi n).extract (8*(i-1)) (hi n).size)) ?_ (hr:=qG (tx:=9) (x:=.tmp 32) (i:=.tmp 35) (k:=.i64) (s:=hi n) (n:=(8*(i-1))) (j:=((8*(i-1):Nat):Int)) kR kR kR kR oM oM _));refine ak 37 e (qN ((hi n).extract (8*(i-1)) (hi n).size) (by rw[iI];omega) _ _ e.g) (fun _ Z e=>lX 38 (sB p) ((wds n).length) ((wds n).length) 1 (i:Nat) i rfl (lW 0 l ar 1 i (wv ((hi n).extract (8*(i-1)) (hi n).size):Nat) e oM (fun _ e=>?_)));have Y:((l).set i (wv ((hi n).extract (8*(i-1)) (hi n).size):Nat)).length=((wds n).length):=by rw[JJ];exact I
 replace e:=e.to [⟨p,23,((l).set i (wv ((hi n).extract (8*(i-1)) (hi n).size):Nat)).flatMap ar⟩,⟨z,25,nc n⟩] [];refine lN (kQ (lL e ae (bM 28 ((i:Nat)+1) (i+1) ?_)));refine lL e ae (lD ?_);intro a_ U;refine ⟨_,_,?_,⟨i+1,(l).set i (wv ((hi n).extract (8*(i-1)) (hi n).size):Nat),Z,rfl,rfl,e.to _ _,oM,oM,Y,(rh oM O (by rw[jl n (i-1) oM,show i-1+1=i by omega]))⟩,U.to _ kR⟩
 omega
theorem fu (n:Nat)(a:0<n)(b:(wds n).length<=1000000000)(w:World)(h:Hp)(g:G w h):CR 110 #[nv n] w h (fun v h1=>BJ h h1 v (wds n)):=by
 rcases ep n 18446744073709551616 with hs|hs
 ·exact C3 n a b hs w h g
 ·exact Ca n a b hs w h g
open Go.RowKit Go.Shelf
def AA:Go.Shelf.Ren:=⟨fun|167=>159|240=>144|276=>180|n=>n,fun|0=>0|4=>4|5=>5|9=>9|20=>20|37=>165|70=>181|72=>183|75=>185|164=>249|80=>88|n=>n,fun n=>n⟩
theorem C4:Go.Proofs.Lays.n167 Tryz.prog AA:={
 mixed:=by kernel_rfl
 f167:=Tryz.func159.trans (congrArg some kR)
 f240:=Tryz.func144.trans (congrArg some kR)
 f276:=Tryz.func180.trans (congrArg some kR)
 t0:=Tryz.underlying0
 a0:=Tryz.isAgg0
 z0:=Tryz.sizeOf0
 v0:=Tryz.zeroValue0
 t4:=Tryz.underlying4
 a4:=Tryz.isAgg4
 z4:=Tryz.sizeOf4
 v4:=Tryz.zeroValue4
 t5:=Tryz.underlying5
 a5:=Tryz.isAgg5
 z5:=Tryz.sizeOf5
 v5:=Tryz.zeroValue5
 t9:=Tryz.underlying9
 a9:=Tryz.isAgg9
 z9:=Tryz.sizeOf9
 v9:=Tryz.zeroValue9
 t20:=Tryz.underlying20
 a20:=Tryz.isAgg20
 z20:=Tryz.sizeOf20
 v20:=Tryz.zeroValue20
 t37:=Tryz.underlying165
 a37:=Tryz.isAgg165
 z37:=Tryz.sizeOf165
 v37:=Tryz.zeroValue165
 t70:=Tryz.underlying181
 a70:=Tryz.isAgg181
 z70:=Tryz.sizeOf181
 v70:=Tryz.zeroValue181
 t72:=Tryz.underlying183
 a72:=Tryz.isAgg183
 z72:=Tryz.sizeOf183
 v72:=Tryz.zeroValue183
 t75:=Tryz.underlying185
 a75:=Tryz.isAgg185
 z75:=Tryz.sizeOf185
 v75:=Tryz.zeroValue185
 t164:=Tryz.underlying249
 a164:=Tryz.isAgg249
 z164:=Tryz.sizeOf249
 v164:=Tryz.zeroValue249 }
theorem AK:Builder.Extra Tryz.prog AA:={
 sizeBuilder:=by kernel_rfl
 liesBuilder:=by kernel_rfl
 t5:=Tryz.underlying5
 a5:=Tryz.isAgg5
 z5:=Tryz.sizeOf5
 v5:=Tryz.zeroValue5
 infoByte:=by kernel_rfl
 cellsByte:=by kernel_rfl
 sizeByte:=by kernel_rfl
 neB5:=by decide }
theorem Ho (A:Z9)(c:Nat)(l:List Nat)(hd:Wd l)(hl:l.length<=1099511627776)(W:l.length<=c)(w:World)(h:Hp)(g:G w h)(hA:SlO 1 ar 0 h A l):CV 126 #[.slice A l.length c] w h (nv (aE l)):=by
 have d:=((sS g).aS hA);have htl:=jf l l.length;have hdl:(l.drop 1).length=l.length-1:=A5;refine go Tryz.func126 [(0,qS A l.length c)] rfl (aD (lA 2 25 ([uV 0,eS]) d (fun O w2 h3 d=>a7 (lL d ae (ak 8 d (DP A c l hl W _ _ d.g d.f.1) (fun e h5 d=>lL d ae (ag (ab d [.c,.v (nV (tl l l.length))] (be (aD ?_))))))))));cases F:((((tl l l.length):Nat):Int) == (0:Int))
 .
  have J:=ah F;refine lB 12 F (lL d ae (ai (aD ?_)));cases B:((((tl l l.length):Nat):Int) == (1:Int))
  .
   have K:=ah B;refine lB 15 B (lL d ae (ai (cK (aD ?_))));have i:=d;refine Jp 3 183 [.pointer none,sZ] d (fun w8 j Q V=>?_);obtain ⟨h9,d,-⟩:=i.liftJ j;refine a7 (lL d [.c,.v (nV (tl l l.length))] (bM 22 (((tl l l.length):Nat)-1) ((tl l l.length)-1) ?_));refine bM 23 (8*((tl l l.length)-1:Nat)) (8*((tl l l.length)-1)) (IW 24 i j (Tryz.Builder_Grow_fresh e.heap.size e.heap.size (8*((tl l l.length)-1):Nat) _ (nR _) V Q oM) (fun _ ze d z C=>?_))
   clear j
   have j:=z;clear z;have D:Lib.IsBuilder 183 5 e.heap.size e.heap.size (Lib.byteCells (((l.drop 1).take 0).flatMap b8)) _:=.inr C;refine ag (ab d ae (lF 26 A (tl l l.length) c 1 1 1 ?_));replace d:=d.aS (d.f.1.drop 1 c W);replace i:=i.aS (i.f.1.drop 1 c W);refine lL d [.v (nV ((tl l l.length)-1)),.c] (be ?_);refine bU _ (CG.loop (fun I Γ H=>∃ (k:Nat)(o:Hp),I=(tl l l.length)-k/\Γ=[(0,qS A (tl l l.length) c),(2,pB O),(3,.pointer (some ⟨e.heap.size,0,none⟩)),(26,qS (if c=1 then A else A.map (·.add (1*1))) ((tl l l.length)-1) (c-1)),(27,nV ((tl l l.length)-1)),(28,nV k)]/\SS w h H o [⟨O,25,[uV 0,eS]⟩] [] [fun o=>SlO 1 ar 0 o (if c=1 then A else A.map (·.add (1*1))) (l.drop 1),fun o=>SlO 1 ar 0 o A l]/\k<=(tl l l.length)-1/\Ext e H/\Lib.IsBuilder 183 5 e.heap.size e.heap.size (Lib.byteCells (((l.drop 1).take k).flatMap b8)) H) _ ⟨0,ze,rfl,rfl,d.to _ _,JU _,j,D⟩ ?_);rintro _ _ zf ⟨k,zg,Z,rfl,d,hk,j,D⟩;have hxk:(l.drop 1).getD k 0<18446744073709551616:=Dg.getD (Dg.drop hd 1) kD k;refine aD ?_;cases za:(decide ((k:Int)<(((tl l l.length)-1:Nat):Int)))
   .
    have zc:=oF za;refine lB 29 za (ag (dv (CG.exit ?_)))
    show CG _ _ _ _ _ _ _ _
    refine cQ (Bd ⟨CW e.heap.size zf.heap.size,none⟩ 5 mixed ?_);obtain ⟨_,d,hj⟩:=i.liftJ j.drew;refine aV 0 43 (qS A (tl l l.length) c) (aX 1 44 A (tl l l.length) c 1 0 0 ((d.f.2.1).ok oM) (aH 2 45 (mV (l.getD 0 0)) d ((d.f.2.1).el 0 oM) ?_ (fun b hb=>hj b (md.1 hb).1 (md.1 hb).2)));refine aC 3 46 ((Tryz.Builder_String_any e.heap.size e.heap.size (((l.drop 1).take k).flatMap b8) _ (r7 D ((Ext.refl _).drew)) j.size).mono fun e_ _ ⟨X,M⟩=>⟨_,X,xk M,?_⟩);obtain ⟨_,d,-⟩:=i.liftJ (Below.trans j.drew M);refine aV 4 47 (.agg #[mV (l.getD 0 0),.string (⟨(((l.drop 1).take k).flatMap b8).toArray⟩)]) (tP 5 0 0 ([mV (l.getD 0 0),.string (⟨(((l.drop 1).take k).flatMap b8).toArray⟩)]) d (fun _ d=>tN (kX ?_)));have U:k=(tl l l.length)-1:=by omega
    exact d.ret [(0,0,2)] (.agg #[mV (l.getD 0 0),.string (⟨(((l.drop 1).take k).flatMap b8).toArray⟩)]) (by rw[U];exact C5 hd oM)
   have zc:=oT za;refine lB 29 za (ag (bT (cK (cQ (kZ (aD (lX 30 (if c=1 then A else A.map (·.add (1*1))) ((tl l l.length)-1) (c-1) 1 (k:Nat) k ((d.f.1).ok oM) ?_)))))));refine lH 31 (mV ((l.drop 1).getD k 0)) d ((d.f.1).el k oM) (lL d ae (a7 (lL d ae (be ?_))));refine bU _ (CG.loop (fun I Γ H=>∃ (m:Nat)(o:Hp),I=8-m/\Γ=[(0,qS A (tl l l.length) c),(2,pB O),(3,.pointer (some ⟨e.heap.size,0,none⟩)),(26,qS (if c=1 then A else A.map (·.add (1*1))) ((tl l l.length)-1) (c-1)),(27,nV ((tl l l.length)-1)),(28,nV k),(5,mV ((l.drop 1).getD k 0)),(32,nV m)]/\SS w h H o [⟨O,25,[uV 0,eS]⟩] [] [fun o=>SlO 1 ar 0 o (if c=1 then A else A.map (·.add (1*1))) (l.drop 1),fun o=>SlO 1 ar 0 o A l]/\m<=8/\Ext e H/\Lib.IsBuilder 183 5 e.heap.size e.heap.size (Lib.byteCells (((l.drop 1).take k).flatMap b8++(b8 ((l.drop 1).getD k 0)).take m)) H) _ ⟨0,zg,rfl,rfl,d.to _ _,JU _,j,(by simpa using D)⟩ ?_);rintro _ _ _ ⟨m,zi,Y,rfl,d,hm,j,p⟩;refine aD ?_;cases zb:(decide ((m:Int)<(8:Int)))
   .
    have zd:=oF zb;refine lB 33 zb (ag (dv (CG.exit ?_)))
    show CG _ _ _ _ _ _ _ _
    refine kQ (bM 42 ((k:Nat)+1) (k+1) ?_);refine lL d ae (lD ?_);intro a_ S;refine ⟨_,_,?_,⟨k+1,zi,rfl,rfl,d.to _ _,oM,j,(by rw[show m=8 by omega,vg oM] at p;exact p)⟩,S.to _ kR⟩
    omega
   have zd:=oT zb;refine lB 33 zb (ag (bT (cK (cQ (kZ (ab d aN (lN (kQ (lL d aN (bM 37 (8*(m:Nat)) (8*m) ?_))))))))));refine lV 38 (mV (((l.drop 1).getD k 0)/2^(8*m))) ?_ (hr:=ig (t:=23) (u:=3) (x:=.tmp 35) (y:=.tmp 37) (ky:=.i64) (a:=((l.drop 1).getD k 0)) (n:=(8*m)) kR kR kR oM _);refine lV 39 (.int .u8 ((((l.drop 1).getD k 0)/2^(8*m):Nat)%256:Nat)) ?_ (hr:=ba (n:=IntKind.wrap .u8 ((((l.drop 1).getD k 0)/2^(8*m):Nat):Int)) kR (BB _));refine IW 40 i j (Any.Builder_WriteByte C4 AK e.heap.size e.heap.size _ ((((l.drop 1).getD k 0)/2^(8*m)%256:Nat):Int) _ p (vm oM oM oM) j.size) (fun _ zj d z C=>?_)
   clear j
   have j:=z;clear z;rw[se oM] at C
   have L:Lib.IsBuilder 183 5 e.heap.size e.heap.size _ _:=.inr C;refine lN (kQ (bM 41 ((m:Nat)+1) (m+1) ?_));refine lL d ae (lD ?_);intro a_ S;refine ⟨_,_,?_,⟨m+1,zj,rfl,rfl,d.to _ _,oM,j,L⟩,S.to _ kR⟩
   omega
  have K:=eq_of_beq B;refine lB 15 B (lL d ae (au (ab d ae (lX 17 A (tl l l.length) c 1 0 0 ((d.f.1).ok oM) ?_))));exact lH 18 (mV (l.getD 0 0)) d ((d.f.1).el 0 oM) (lL d [.v (.agg #[mV (l.getD 0 0),eS])] (lP 0 0 ([mV (l.getD 0 0),eS]) d (fun _ d=>af d [(0,0,2)] (.agg #[mV (l.getD 0 0),eS]) (FD hd oM))))
 have J:=eq_of_beq F;exact lB 12 F (lL d ae (au (ab d [.v (.agg #[uV 0,eS])] (lP 0 0 ([uV 0,eS]) d (fun _ d=>af d [(0,0,2)] (.agg #[uV 0,eS]) (Dq oM))))))
theorem H5 (n:Nat)(b:n<18446744073709551616)(w:World)(h:Hp)(g:G w h):CV 87 #[mV n] w h (nv n):=by
 have a:=sS g;exact go Tryz.func87 [(0,mV n)] rfl (aD (lA 2 25 ([uV 0,eS]) a (fun d w2 e a=>a7 (lL a [.c,.v (.agg #[mV n,eS])] (lP 0 0 ([mV n,eS]) a (fun f a=>af a [(0,0,2)] (.agg #[mV n,eS]) (im b)))))))
theorem tf (n:Nat)(b:n<18446744073709551616)(w:World)(h:Hp)(g:G w h):CV 123 #[nv n] w h (.tuple #[mV n,.bool true]):=by
 have a:=sS g;refine go Tryz.func123 [(0,nv n)] rfl (aD (lA 1 25 (nc n) a (fun d w2 e a=>lL a aN (ag (ab a [.v (qP d 1),.o (.string (hi n)) 0 1 1] (lV 6 qF ?_ (hr:=rb kR (HK (dR b)))))))));exact ai (cK (ab a [.v (pB d),.o (mV (n%18446744073709551616)) 0 0 1,.c,.c] (af a [] (.tuple #[mV (n%18446744073709551616),qT]) (by rw[y4 b]))))
theorem Bu (n:Nat)(b:18446744073709551616<=n)(w:World)(h:Hp)(g:G w h):CV 123 #[nv n] w h (.tuple #[uV 0,.bool false]):=by
 have a:=sS g;refine go Tryz.func123 [(0,nv n)] rfl (aD (lA 1 25 (nc n) a (fun c w2 d a=>lL a aN (ag (ab a [.v (qP c 1),.o (.string (hi n)) 0 1 1] (lV 6 qT ?_ (hr:=rb kR (Hr (fw b)))))))));exact au (ab a aN (af a [] (.tuple #[uV 0,qF]) rfl))
theorem Dx (a b:Nat)(w:World)(h:Hp)(g:G w h):CV 133 #[mV a,mV b] w h (iV (cA a b)):=by
 have c:=sS g;refine go Tryz.func133 [(0,mV a),(1,mV b)] rfl (ab c ae (ag (kZ (ab c aN ?_))));cases d:(decide ((a:Int)<(b:Int)))
 .
  have f:=oF d;refine lB 8 d (lL c ae (ai (ab c aN ?_)));cases e:(decide ((b:Int)<(a:Int)))
  .
   have i:=oF e;exact lB 12 e (lL c ae (ai (cK (ab c ae (af c [] (iV 0) (by rw[iS oM]))))))
  have i:=oT e;exact lB 12 e (lL c ae (au (ab c ae (af c [] (iV 1) (by rw[fE oM])))))
 have f:=oT d;exact lB 8 d (lL c ae (au (ab c ae (af c [] (iV (-1)) (by rw[dW oM])))))
theorem Ek (n:Nat)(b:n<18446744073709551616)(w:World)(h:Hp)(g:G w h):CV 91 #[nv n] w h (nV (nb n)):=by
 have a:=sS g;refine go Tryz.func91 [(0,nv n)] rfl (aD (lA 1 25 (nc n) a (fun c w2 e a=>lL a ae (ag (ab a [.v (qP c 1),.o (.string (hi n)) 0 1 1] (lV 5 qT ?_ (hr:=rb kR (iu (dR b)))))))));exact au (ab a [.v (pB c),.o (mV (n%18446744073709551616)) 0 0 1] (ak 8 a (wJ (n%18446744073709551616) wM _ _ a.g) (fun f d a=>lL a ae (af a [] (nV (nb (n%18446744073709551616))) (by rw[y4 b])))))
theorem Gp (n:Nat)(e:18446744073709551616<=n)(p:(wds n).length<=1000000000)(w:World)(h:Hp)(g:G w h):CV 91 #[nv n] w h (nV (nb n)):=by
 have a:=sS g;have hz:=iR n;have u:=dg e;refine go Tryz.func91 [(0,nv n)] rfl (aD (lA 1 25 (nc n) a (fun b w2 D a=>lL a ae (ag (ab a [.v (qP b 1),.o (.string (hi n)) 0 1 1] (lV 5 qF ?_ (hr:=rb kR (ja (fw e)))))))));refine ai (cK (cQ (cR 14 [] mixed a ao ?_)));refine eV 0 9 (qP b 1) (eO 1 10 [(0,1,1)] (.string (hi n)) a (eV 2 11 (nV ((hi n).size)) (nu 3 12 (8*((hi n).size:Nat)) (8*(hi n).size) (eV 4 13 (qP b 1) (eO 5 14 [(0,1,1)] (.string (hi n)) a (eV 6 15 (qP b 1) (eO 7 16 [(0,1,1)] (.string (hi n)) a (eV 8 17 (nV ((hi n).size)) (nu 9 18 (((hi n).size:Nat)-8) (8*((wds n).length-2)) (eV 10 19 (.string ((hi n).extract (8*((wds n).length-2):Nat) (hi n).size)) ?_ (hv:=fun _=>qG (tx:=9) (x:=.tmp 14) (i:=.tmp 18) (k:=.i64) (s:=hi n) (n:=(8*((wds n).length-2):Nat)) (j:=((8*((wds n).length-2):Nat):Int)) kR kR kR kR oM oM _)))))))))));refine aj 11 20 a (fun _ _ a=>qN ((hi n).extract (8*((wds n).length-2):Nat) (hi n).size) (by rw[iI];omega) _ _ a.g) (fun z l a=>aj 12 21 a (fun _ _ a=>wJ (wv ((hi n).extract (8*((wds n).length-2):Nat) (hi n).size):Nat) wM _ _ a.g) (fun C B a=>?_));have d:=jl n ((wds n).length-2) oM;rw[show (wds n).length-2+1=(wds n).length-1 by omega] at d
 have c:=vV (n:=n) oM;have f:nb (wv ((hi n).extract (8*((wds n).length-2)) (hi n).size))<=64:=mK (k:=64) (DS _);rw[<-d] at c
 exact nu 13 22 ((8*(hi n).size:Nat)+(nb (wv ((hi n).extract (8*((wds n).length-2):Nat) (hi n).size):Nat):Nat)) (nb n) (ce a (fun F y a=>tV 14 2 (nV (nb n)) (tN (kX (a.ret [] (nV (nb n)) rfl)))))
theorem fV (n:Nat)(a:(wds n).length<=1000000000)(w:World)(h:Hp)(g:G w h):CV 91 #[nv n] w h (nV (nb n)):=by
 rcases ep n 18446744073709551616 with hs|hs
 ·exact Ek n hs w h g
 ·exact Gp n hs a w h g
theorem mN (a b:Nat)(I:(wds a).length<=1000000000)(U:(wds b).length<=1000000000)(w:World)(h:Hp)(g:G w h):CV 92 #[nv a,nv b] w h (iV (cA a b)):=by
 have c:=sS g;have W:=iR a;have Q:=iR b;refine go Tryz.func92 [(0,nv a),(1,nv b)] rfl (aD (lA 2 25 (nc a) c (fun f w2 h3 c=>lA 3 25 (nc b) c (fun l Y O c=>lL c ae (ag (ab c [.v (qP f 1),.o (.string (hi a)) 1 1 1,.v (nV ((hi a).size)),.v (qP l 1),.o (.string (hi b)) 0 1 1,.v (nV ((hi b).size))] ?_))))));cases d:((((hi a).size:Nat):Int) != (((hi b).size:Nat):Int))
 .
  have u:=aJ d;refine lB 14 d (ai (cK (cQ (ab c [.v (qP f 1),.o (.string (hi a)) 1 1 1,.v (nV ((hi a).size))] (lV 25 (iV (8*(((wds a).length-1:Nat):Int)-8)) ?_ (hr:=rS ((((hi a).size:Nat)-8)) kR ((gz oM oM).trans oM)))))));refine lL c ae (be ?_);refine bU _ (CG.loop (fun D Γ J=>∃ (m:Nat)(h_:Hp),D=m/\Γ=[(2,pB f),(3,pB l),(5,iV (8*(m:Int)-8))]/\SS w h J h_ [⟨l,25,nc b⟩,⟨f,25,nc a⟩] [] []/\m<=(wds a).length-1/\(wds a).length-1=(wds b).length-1/\(wds a).drop (m+1)=(wds b).drop (m+1)) _ ⟨(wds a).length-1,O,rfl,rfl,c.to _ _,nR _,oM,(by rw[yT oM,yT oM])⟩ ?_);rintro _ _ w8 ⟨m,X,H,rfl,c,Z,p,e⟩;refine cQ (ab c ae ?_);cases za:(decide ((0:Int)<=(8*(m:Int)-8:Int)))
  .
   have V:=oF za;refine lB 27 za (ai (CG.exit ?_))
   show CG _ _ _ _ _ _ _ _
   exact ab c [.v (pB f),.o (mV (a%18446744073709551616)) 1 0 1,.v (pB l),.o (mV (b%18446744073709551616)) 0 0 1] (ak 50 c (Dx (a%18446744073709551616) (b%18446744073709551616) _ _ c.g) (fun _ _ c=>lL c ae (af c [] (iV (cA (a%18446744073709551616) (b%18446744073709551616))) (by rw[qi (a:=a) (b:=b) oM (by have B:m=0:=oM;rw[B] at e;exact e)]))))
  have V:=oT za;refine lB 27 za (au (cK (cQ (kZ (cQ ?_)))));have C:=c;refine kT 10 [] [] mixed c ao (eV 0 30 (qP f 1) (eO 1 31 [(1,1,1)] (.string (hi a)) c (eV 2 32 (iV (8*(m:Int)-8)) (eV 3 33 (.string ((hi a).extract (8*(m-1)) (hi a).size)) ?_ (hv:=fun _=>qG (tx:=9) (x:=.tmp 31) (i:=.tmp 32) (k:=.i64) (s:=hi a) (n:=8*(m-1)) (j:=(8*(m:Int)-8:Int)) kR kR kR kR oM oM _)))));refine eV 5 35 (qP l 1) (jW 6 36 [(0,1,1)] (.string (hi b)) C c (eV 7 37 (iV (8*(m:Int)-8)) (eV 8 38 (.string ((hi b).extract (8*(m-1)) (hi b).size)) ?_ (hv:=fun _=>qG (tx:=9) (x:=.tmp 36) (i:=.tmp 37) (k:=.i64) (s:=hi b) (n:=8*(m-1)) (j:=(8*(m:Int)-8:Int)) kR kR kR kR oM oM _))));refine aj 4 34 c (fun _ _ c=>qN ((hi a).extract (8*(m-1)) (hi a).size) (by rw[iI];omega) _ _ c.g) (fun _ _ c=>aj 9 39 c (fun _ _ c=>qN ((hi b).extract (8*(m-1)) (hi b).size) (by rw[iI];omega) _ _ c.g) (fun _ _ c=>ce c (fun _ L c=>tV 10 6 (mV (wv ((hi a).extract (8*(m-1)) (hi a).size))) (tV 11 7 (mV (wv ((hi b).extract (8*(m-1)) (hi b).size))) (uy ?_)))));have z:=jl a (m-1) oM;have F:=jl b (m-1) oM;rw[show m-1+1=m by omega] at z F
  refine lL c aN ?_;cases zb:(((wv ((hi a).extract (8*(m-1)) (hi a).size):Nat):Int) != ((wv ((hi b).extract (8*(m-1)) (hi b).size):Nat):Int))
  .
   have S:=aJ zb;refine lB 42 zb (ai (cK (kQ (lL c ae (lV 29 (iV (8*((m-1:Nat):Int)-8)) ?_ (hr:=rS (((8*(m:Int)-8)-8)) kR ((gz oM oM).trans oM)))))));refine lL c ae (lD ?_);intro a_ K;refine ⟨_,_,?_,⟨m-1,L,rfl,rfl,c.to _ _,oM,p,(by rw[show m-1+1=m by omega];exact fI oM oM e oM)⟩,K.to _ kR⟩
   omega
  have S:=aU zb;exact lB 42 zb (au (ab c aN (ak 45 c (Dx (wv ((hi a).extract (8*(m-1)) (hi a).size):Nat) (wv ((hi b).extract (8*(m-1)) (hi b).size):Nat) _ _ c.g) (fun _ _ c=>lL c ae (af c [] (iV (cA (wv ((hi a).extract (8*(m-1)) (hi a).size):Nat) (wv ((hi b).extract (8*(m-1)) (hi b).size):Nat))) (by rw[jl a (m-1) oM,jl b (m-1) oM,show m-1+1=m by omega];exact congrArg (Value.int .i64) (lM oM oM e oM)))))))
 have u:=aU d;refine lB 14 d (au (cQ (ab c [.v (qP f 1),.o (.string (hi a)) 1 1 1,.v (nV ((hi a).size)),.v (qP l 1),.o (.string (hi b)) 0 1 1,.v (nV ((hi b).size))] ?_)));cases y:(decide ((((hi a).size:Nat):Int)<(((hi b).size:Nat):Int)))
 .
  have M:=oF y;exact lB 21 y (ai (cK (ab c ae (af c [] (iV 1) (by rw[fE (gm oM)])))))
 have M:=oT y;exact lB 21 y (au (ab c ae (af c [] (iV (-1)) (by rw[dW (gm oM)]))))
theorem xm (hi lo y:Nat)(Q:hi<y)(hy:y<18446744073709551616)(hlo:lo<18446744073709551616)(w:World)(h:Hp)(g:G w h):CR 142 #[mV hi,mV lo,mV y] w h (fun v _=>∃ q r:Nat,v=.tuple #[uV q,uV r]/\hi*18446744073709551616+lo=y*q+r/\r<y/\q<18446744073709551616):=by
 have c:=sS g;refine go Tryz.func142 [(0,mV hi),(1,mV lo),(2,mV y)] rfl (ab c aN (ag (ab c ae ?_)));have hb1:((y:Int) == (0:Int))=false:=fl oM;have bl:=ah hb1;refine lB 20 hb1 (ai (cK (cQ (ab c aN ?_))));have ⟨hb2,bm⟩:=dF (p:=(y:Int)<=(hi:Int)) oM;refine lB 24 hb2 (ai (cK (cQ (ab c ae ?_))));cases B:((hi:Int) == (0:Int))
 .
  have bb:=ah B;refine lB 27 B (ai (cK (ab c ae (ak 35 c (DV y wM _ _ c.g) (fun w4 h5 c=>?_)))));obtain ⟨s,hsd⟩:∃ e,e=64-nb y:=⟨_,rfl⟩;refine lV 36 (mV s) ?_ (hr:=ba (ba (n:=IntKind.wrap .u64 ((64-nb y:Nat):Int)) kR (bX oM oM)) (by rw[hsd]));refine lL c ae (a7 (lL c aN ?_));obtain ⟨Y,hY⟩:∃ e,e=y*2^s:=⟨_,rfl⟩;have hn:=tJ (y:=y) oM oM;rw[<-hsd,<-hY] at hn
  refine lV 39 (mV Y) ?_ (hr:=ba (iO (t:=23) (u:=171) (x:=.tmp 37) (y:=.tmp 38) (ky:=.u64) (a:=y) (n:=s) kR kR kR _) (by rw[<-hY,y4 hn.2]));refine lL c ae (a7 (lL c ae ?_));obtain ⟨y1,hy1⟩:∃ e,e=Y/4294967296:=⟨_,rfl⟩;refine lV 41 (mV y1) ?_ (hr:=ba (ba (n:=J7 (Y:Int) 4294967296) kR (lh _ 4294967296)) (by rw[hy1]));refine lL c ae (a7 (lL c ae ?_));obtain ⟨y0,hy0⟩:∃ e,e=Y%4294967296:=⟨_,rfl⟩;refine lV 43 (mV y0) ?_ (hr:=ba (xq (t:=23) (u:=23) (x:=.tmp 42) (y:=.const (uV 4294967295)) (a:=Y) (m:=4294967295) 32 kR kR kR oM kD _) (by rw[hy0]));refine lL c ae (a7 (lL c aN ?_));have hhi:hi*2^s<Y:=by rw[hY];exact JZ Q (H1 s)
  obtain ⟨K,hsl⟩:=CK (hi:=hi) (lo:=lo) (s:=s) oM hlo;have hdl:=Bb lo (2^(64-s));have d:Y=y1*4294967296+y0:=by omega
  refine lV 46 (mV (hi*2^s)) ?_ (hr:=ba (iO (t:=23) (u:=171) (x:=.tmp 44) (y:=.tmp 45) (ky:=.u64) (a:=hi) (n:=s) kR kR kR _) (by rw[y4 oM]));refine lL c aN (lV 49 (mV (64-s)) ?_ (hr:=rU (((64:Int)-(s:Int))) kR (gM 64 s oM oM)));refine lV 50 (mV (lo/2^(64-s))) ?_ (hr:=ig (t:=23) (u:=171) (x:=.tmp 47) (y:=.tmp 49) (ky:=.u64) (a:=lo) (n:=(64-s)) kR kR kR oM _);obtain ⟨u32,hu32⟩:∃ e,e=hi*2^s+lo/2^(64-s):=⟨_,rfl⟩;rw[<-hu32] at K
  have F:u32<Y:=by
    have e2:(hi+1)*2^s<=y*2^s:=yX _ Q;rw[JG,JI,<-hY] at e2
    omega
  refine lV 51 (mV u32) ?_ (hr:=ba (j5 (t:=23) (u:=23) (x:=.tmp 46) (y:=.tmp 50) (a:=(hi*2^s)) (b:=(lo/2^(64-s))) kR kR kR oM oM _) (by rw[hu32,Nat.or_comm,iJ s hsl,yQ]));refine lL c ae (a7 (lL c aN ?_));obtain ⟨u10,hu10⟩:∃ e,e=lo*2^s%18446744073709551616:=⟨_,rfl⟩;rw[<-hu10] at K
  have bf:u10<18446744073709551616:=by omega
  refine lV 54 (mV u10) ?_ (hr:=ba (iO (t:=23) (u:=171) (x:=.tmp 52) (y:=.tmp 53) (ky:=.u64) (a:=lo) (n:=s) kR kR kR _) (by rw[hu10]));refine lL c ae (a7 (lL c ae ?_));obtain ⟨u1,hu1⟩:∃ e,e=u10/4294967296:=⟨_,rfl⟩;refine lV 56 (mV u1) ?_ (hr:=ba (ba (n:=J7 (u10:Int) 4294967296) kR (lh _ 4294967296)) (by rw[hu1]));refine lL c ae (lN (bU [(2,mV Y),(6,uV 0),(7,uV 0),(8,mV s),(9,mV y1),(10,mV y0),(11,mV u32),(12,mV u10),(13,mV u1)] ?_));refine ab c ae ?_;obtain ⟨u0,hu0⟩:∃ e,e=u10%4294967296:=⟨_,rfl⟩;refine lV 58 (mV u0) ?_ (hr:=ba (xq (t:=23) (u:=23) (x:=.tmp 57) (y:=.const (uV 4294967295)) (a:=u10) (m:=4294967295) 32 kR kR kR oM kD _) (by rw[hu0]));refine lL c ae (a7 (lL c aN ?_));have L:=mq (Y:=Y) (y1:=y1) (y0:=y0) (u:=u32) (u1:=u1) d oM oM oM F;have X:=oI (u:=u32) (y1:=y1) oM;have hM0:=JV u32 y1;obtain ⟨qa,hqa⟩:∃ e,e=u32/y1:=⟨_,rfl⟩;rw[<-hqa] at L X hM0
  refine lV 61 (mV qa) ?_ (hr:=ba (ba (dZ (t:=23) (u:=23) (x:=.tmp 59) (y:=.tmp 60) (k:=.u64) (a:=(u32:Int)) (b:=(y1:Int)) kR kR kR oM _) (l8 u32 y1 oM)) (by rw[hqa]));refine lL c ae (a7 (lL c ff (lV 65 (mV (qa*y1)) ?_ (hr:=rU (((qa:Int)*(y1:Int))) kR (mR qa y1 oM)))));obtain ⟨ra,hra⟩:∃ e,e=u32-qa*y1:=⟨_,rfl⟩;rw[<-hra] at L X
  refine lV 66 (mV ra) ?_ (hr:=ba (ba (n:=IntKind.wrap .u64 ((u32:Int)-((qa*y1:Nat):Int))) kR (gM u32 (qa*y1) oM oM)) (by rw[hra]));refine lL c ae (lN (CG.join (fun Γ I=>∃ (i:Nat)(h_:Hp),Γ=[(2,mV Y),(6,uV 0),(7,uV 0),(8,mV s),(9,mV y1),(10,mV y0),(11,mV u32),(13,mV u1),(14,mV u0),(15,mV i)]/\SS w h I h_ [] [] []/\i=(u32*4294967296+u1)/Y/\(u32*4294967296+u1)-i*Y=(u32*4294967296+u1)%Y/\i*Y<=u32*4294967296+u1) ?_ ?_))
  .
   refine kZ ?_;refine bU _ (CG.loop (fun H Γ I=>∃ (q:Nat)(r:Nat)(h_:Hp),H=q/\Γ=[(2,mV Y),(6,uV 0),(7,uV 0),(8,mV s),(9,mV y1),(10,mV y0),(11,mV u32),(13,mV u1),(14,mV u0),(15,mV q),(16,mV r)]/\SS w h I h_ [] [] []/\HalfQ Y y1 y0 u32 u1 q r/\r<4294967296) _ ⟨qa,ra,h5,rfl,rfl,c.to _ _,L,oM⟩ ?_);rintro _ _ w6 ⟨q,r,h7,hm8,rfl,c,M,hr⟩;have bq:=M.qb;refine cQ (ab c ae ?_);cases D:(decide ((4294967296:Int)<=(q:Int)))
   .
    have S:=oF D;refine lB 68 D (lL c ff (lV 72 (mV (q*y0)) ?_ (hr:=rU (((q:Int)*(y0:Int))) kR (mR q y0 (DG oM oM)))));refine lL c ae (lV 74 (mV (4294967296*r)) ?_ (hr:=rU (((4294967296:Int)*(r:Int))) kR (mR 4294967296 r oM)));refine lL c ae (lV 76 (mV ((4294967296*r)+u1)) ?_ (hr:=rU ((((4294967296*r:Nat):Int)+(u1:Int))) kR (ji (4294967296*r) u1 oM)));cases za:(decide ((((4294967296*r)+u1:Nat):Int)<((q*y0:Nat):Int)))
    .
     have zj:=oF za;refine lB 77 za (lL c [.v qF] (ai (CG.exit ?_)));intro C f;exact ⟨_,⟨q,h7,rfl,c.to _ _,(by first|exact M.fin d oM|exact l.brk d oM oM (by have:=l.qb;omega))⟩,f.to _ kR⟩
    have zj:=oT za;refine lB 77 za (lL c [.v qT] (au (cK (kZ (ab c ae ?_)))));have hq1:0<q:=by first|omega|exact ef (show 4294967296*r+u1<q*y0 by omega)
    have l:=M.dec d oM F (by first|exact .inl oM|exact .inr oM);refine lV 80 (mV (q-1)) ?_ (hr:=rU (((q:Int)-(1:Int))) kR (gM q 1 oM oM));refine lL c ae (a7 (lL c aN (lV 83 (mV (r+y1)) ?_ (hr:=rU (((r:Int)+(y1:Int))) kR (ji r y1 oM)))));refine lL c ae (a7 (lL c ae ?_));cases zb:(decide ((4294967296:Int)<=((r+y1:Nat):Int)))
    .
     have zk:=oF zb;refine lB 85 zb (ai (CG.skip ?_));intro C f;refine ⟨_,_,?_,⟨q-1,r+y1,h7,rfl,rfl,c.to _ _,l,oM⟩,f.to _ kR⟩
     omega
    have zk:=oT zb;refine lB 85 zb (au (CG.exit ?_));intro C f;exact ⟨_,⟨(q-1),h7,rfl,c.to _ _,(by first|exact M.fin d oM|exact l.brk d oM oM (by have:=l.qb;omega))⟩,f.to _ kR⟩
   have S:=oT D;refine lB 68 D (lL c ae (lG 70 ?_));refine lG 71 (lG 72 (lG 73 (lG 74 (lG 75 (lG 76 (lG 77 (lL c [.v qT] (au (cK (kZ (ab c ae ?_)))))))))));have hq1:0<q:=by first|omega|exact ef (show 4294967296*r+u1<q*y0 by omega)
   have l:=M.dec d oM F (by first|exact .inl oM|exact .inr oM);refine lV 80 (mV (q-1)) ?_ (hr:=rU (((q:Int)-(1:Int))) kR (gM q 1 oM oM));refine lL c ae (a7 (lL c aN (lV 83 (mV (r+y1)) ?_ (hr:=rU (((r:Int)+(y1:Int))) kR (ji r y1 oM)))));refine lL c ae (a7 (lL c ae ?_));cases zc:(decide ((4294967296:Int)<=((r+y1:Nat):Int)))
   .
    have zl:=oF zc;refine lB 85 zc (ai (CG.skip ?_));intro C f;refine ⟨_,_,?_,⟨q-1,r+y1,h7,rfl,rfl,c.to _ _,l,oM⟩,f.to _ kR⟩
    omega
   have zl:=oT zc;refine lB 85 zc (au (CG.exit ?_));intro C f;exact ⟨_,⟨(q-1),h7,rfl,c.to _ _,(by first|exact M.fin d oM|exact l.brk d oM oM (by have:=l.qb;omega))⟩,f.to _ kR⟩
  rintro _ _ ⟨i,zq,rfl,c,hF⟩;refine aD ?_;obtain ⟨V,hF2,hF3⟩:=hF;have hF4:=qx (u1:=u1) F oM;rw[<-V] at hF4
  refine lL c ae (lV 87 (mV ((u32*4294967296)%18446744073709551616)) ?_ (hr:=rU (((u32:Int)*(4294967296:Int))) kR (mM u32 4294967296)));refine lL c ae (lV 89 (mV ((((u32*4294967296)%18446744073709551616)+u1)%18446744073709551616)) ?_ (hr:=rU (((((u32*4294967296)%18446744073709551616:Nat):Int)+(u1:Int))) kR (xz ((u32*4294967296)%18446744073709551616) u1)));refine lL c aN (lV 92 (mV ((i*Y)%18446744073709551616)) ?_ (hr:=rU (((i:Int)*(Y:Int))) kR (mM i Y)));obtain ⟨r1,hr1⟩:∃ e,e=(u32*4294967296+u1)%Y:=⟨_,rfl⟩;have z:r1<Y:=by rw[hr1];exact y5 _ oM
  refine lV 93 (mV r1) ?_ (hr:=ba (ba (n:=IntKind.wrap .u64 ((((((u32*4294967296)%18446744073709551616)+u1)%18446744073709551616:Nat):Int)-(((i*Y)%18446744073709551616:Nat):Int))) kR (DN ((((u32*4294967296)%18446744073709551616)+u1)%18446744073709551616:Nat) ((i*Y)%18446744073709551616) oM)) (by rw[og hF3 (hF2.trans hr1.symm) oM]));refine lL c ae (a7 (lL c aN ?_));have J:=mq (Y:=Y) (y1:=y1) (y0:=y0) (u:=r1) (u1:=u0) d oM oM oM z;have Z:=oI (u:=r1) (y1:=y1) oM;have hL0:=JV r1 y1;obtain ⟨qb,hqb⟩:∃ e,e=r1/y1:=⟨_,rfl⟩;rw[<-hqb] at J Z hL0
  refine lV 96 (mV qb) ?_ (hr:=ba (ba (dZ (t:=23) (u:=23) (x:=.tmp 94) (y:=.tmp 95) (k:=.u64) (a:=(r1:Int)) (b:=(y1:Int)) kR kR kR oM _) (l8 r1 y1 oM)) (by rw[hqb]));refine lL c ae (a7 (lL c ff (lV 100 (mV (qb*y1)) ?_ (hr:=rU (((qb:Int)*(y1:Int))) kR (mR qb y1 oM)))));obtain ⟨rb,hrb⟩:∃ e,e=r1-qb*y1:=⟨_,rfl⟩;rw[<-hrb] at J Z
  refine lV 101 (mV rb) ?_ (hr:=ba (ba (n:=IntKind.wrap .u64 ((r1:Int)-((qb*y1:Nat):Int))) kR (gM r1 (qb*y1) oM oM)) (by rw[hrb]));refine lL c ae (lN (CG.join (fun Γ I=>∃ (o:Nat)(h_:Hp),Γ=[(2,mV Y),(6,uV 0),(7,uV 0),(8,mV s),(14,mV u0),(15,mV i),(17,mV r1),(18,mV o)]/\SS w h I h_ [] [] []/\o=(r1*4294967296+u0)/Y/\(r1*4294967296+u0)-o*Y=(r1*4294967296+u0)%Y/\o*Y<=r1*4294967296+u0) ?_ ?_))
  .
   refine kZ ?_;refine bU _ (CG.loop (fun H Γ I=>∃ (p:Nat)(t:Nat)(h_:Hp),H=p/\Γ=[(2,mV Y),(6,uV 0),(7,uV 0),(8,mV s),(9,mV y1),(10,mV y0),(14,mV u0),(15,mV i),(17,mV r1),(18,mV p),(16,mV t)]/\SS w h I h_ [] [] []/\HalfQ Y y1 y0 r1 u0 p t/\t<4294967296) _ ⟨qb,rb,zq,rfl,rfl,c.to _ _,J,oM⟩ ?_);rintro _ _ _ ⟨p,t,W,bt,rfl,c,O,ht⟩;have bv:=O.qb;refine cQ (ab c ae ?_);cases zd:(decide ((4294967296:Int)<=(p:Int)))
   .
    have zm:=oF zd;refine lB 103 zd (lL c ff (lV 107 (mV (p*y0)) ?_ (hr:=rU (((p:Int)*(y0:Int))) kR (mR p y0 (DG oM oM)))));refine lL c ae (lV 109 (mV (4294967296*t)) ?_ (hr:=rU (((4294967296:Int)*(t:Int))) kR (mR 4294967296 t oM)));refine lL c ae (lV 111 (mV ((4294967296*t)+u0)) ?_ (hr:=rU ((((4294967296*t:Nat):Int)+(u0:Int))) kR (ji (4294967296*t) u0 oM)));cases ze:(decide ((((4294967296*t)+u0:Nat):Int)<((p*y0:Nat):Int)))
    .
     have zn:=oF ze;refine lB 112 ze (lL c [.v qF] (ai (CG.exit ?_)));intro C f;exact ⟨_,⟨p,W,rfl,c.to _ _,(by first|exact O.fin d oM|exact j.brk d oM oM (by have:=j.qb;omega))⟩,f.to _ kR⟩
    have zn:=oT ze;refine lB 112 ze (lL c [.v qT] (au (cK (kZ (ab c ae ?_)))));have hq2:0<p:=by first|omega|exact ef (show 4294967296*t+u0<p*y0 by omega)
    have j:=O.dec d oM z (by first|exact .inl oM|exact .inr oM);refine lV 115 (mV (p-1)) ?_ (hr:=rU (((p:Int)-(1:Int))) kR (gM p 1 oM oM));refine lL c ae (a7 (lL c aN (lV 118 (mV (t+y1)) ?_ (hr:=rU (((t:Int)+(y1:Int))) kR (ji t y1 oM)))));refine lL c ae (a7 (lL c ae ?_));cases zf:(decide ((4294967296:Int)<=((t+y1:Nat):Int)))
    .
     have zo:=oF zf;refine lB 120 zf (ai (CG.skip ?_));intro C f;refine ⟨_,_,?_,⟨p-1,t+y1,W,rfl,rfl,c.to _ _,j,oM⟩,f.to _ kR⟩
     omega
    have zo:=oT zf;refine lB 120 zf (au (CG.exit ?_));intro C f;exact ⟨_,⟨(p-1),W,rfl,c.to _ _,(by first|exact O.fin d oM|exact j.brk d oM oM (by have:=j.qb;omega))⟩,f.to _ kR⟩
   have zm:=oT zd;refine lB 103 zd (lL c ae (lG 105 ?_));refine lG 106 (lG 107 (lG 108 (lG 109 (lG 110 (lG 111 (lG 112 (lL c [.v qT] (au (cK (kZ (ab c ae ?_)))))))))));have hq2:0<p:=by first|omega|exact ef (show 4294967296*t+u0<p*y0 by omega)
   have j:=O.dec d oM z (by first|exact .inl oM|exact .inr oM);refine lV 115 (mV (p-1)) ?_ (hr:=rU (((p:Int)-(1:Int))) kR (gM p 1 oM oM));refine lL c ae (a7 (lL c aN (lV 118 (mV (t+y1)) ?_ (hr:=rU (((t:Int)+(y1:Int))) kR (ji t y1 oM)))));refine lL c ae (a7 (lL c ae ?_));cases zg:(decide ((4294967296:Int)<=((t+y1:Nat):Int)))
   .
    have zp:=oF zg;refine lB 120 zg (ai (CG.skip ?_));intro C f;refine ⟨_,_,?_,⟨p-1,t+y1,W,rfl,rfl,c.to _ _,j,oM⟩,f.to _ kR⟩
    omega
   have zp:=oT zg;refine lB 120 zg (au (CG.exit ?_));intro C f;exact ⟨_,⟨(p-1),W,rfl,c.to _ _,(by first|exact O.fin d oM|exact j.brk d oM oM (by have:=j.qb;omega))⟩,f.to _ kR⟩
  rintro _ _ ⟨o,_,rfl,c,hE⟩;refine aD ?_;obtain ⟨U,hE2,hE3⟩:=hE;have hE4:=qx (u1:=u0) z oM;rw[<-U] at hE4
  refine lL c ae (lV 122 (mV (i*4294967296)) ?_ (hr:=rU (((i:Int)*(4294967296:Int))) kR (mR i 4294967296 oM)));refine lL c ae (lV 124 (mV ((i*4294967296)+o)) ?_ (hr:=rU ((((i*4294967296:Nat):Int)+(o:Int))) kR (ji (i*4294967296) o oM)));refine lL c ae (lV 126 (mV ((r1*4294967296)%18446744073709551616)) ?_ (hr:=rU (((r1:Int)*(4294967296:Int))) kR (mM r1 4294967296)));refine lL c ae (lV 128 (mV ((((r1*4294967296)%18446744073709551616)+u0)%18446744073709551616)) ?_ (hr:=rU (((((r1*4294967296)%18446744073709551616:Nat):Int)+(u0:Int))) kR (xz ((r1*4294967296)%18446744073709551616) u0)));refine lL c aN (lV 131 (mV ((o*Y)%18446744073709551616)) ?_ (hr:=rU (((o:Int)*(Y:Int))) kR (mM o Y)));obtain ⟨R,hR⟩:∃ e,e=(r1*4294967296+u0)%Y:=⟨_,rfl⟩;have hRY:R<Y:=by rw[hR];exact y5 _ oM
  refine lV 132 (mV R) ?_ (hr:=ba (ba (n:=IntKind.wrap .u64 ((((((r1*4294967296)%18446744073709551616)+u0)%18446744073709551616:Nat):Int)-(((o*Y)%18446744073709551616:Nat):Int))) kR (DN ((((r1*4294967296)%18446744073709551616)+u0)%18446744073709551616:Nat) ((o*Y)%18446744073709551616) oM)) (by rw[og hE3 (hE2.trans hR.symm) oM]));refine lL c ae (lV 134 (mV (R/2^s)) ?_ (hr:=ig (t:=23) (u:=171) (x:=.tmp 132) (y:=.tmp 133) (ky:=.u64) (a:=R) (n:=s) kR kR kR oM _));refine lL c aN (lN (kX ?_));obtain ⟨hB1,hB2⟩:=vh (A:=hi*18446744073709551616+lo) (y:=y) hY K (show u10=u1*4294967296+u0 by omega) oM V hr1 U hR;exact c.ret [] (.tuple #[mV ((i*4294967296)+o),mV (R/2^s)]) (⟨_,_,rfl,hB1,hB2,by omega⟩)
 have bb:=eq_of_beq B;refine lB 27 B (au (cQ (cR 6 [] mixed c ao ?_)));refine eV 0 28 (mV lo) (eV 1 29 (mV y) (eV 2 30 (mV (lo/y)) ?_ (hv:=fun _=>ba (dZ (t:=23) (u:=23) (x:=.tmp 28) (y:=.tmp 29) (k:=.u64) (a:=(lo:Int)) (b:=(y:Int)) kR kR kR oM _) (l8 lo y oM))));refine eV 3 31 (mV lo) (eV 4 32 (mV y) (eV 5 33 (mV (lo%y)) ?_ (hv:=fun _=>ba (gn (t:=23) (u:=23) (x:=.tmp 31) (y:=.tmp 32) (k:=.u64) (a:=(lo:Int)) (b:=(y:Int)) kR kR kR oM _) (dY lo y))));refine ce c (fun _ _ c=>tV 6 6 (mV (lo/y)) (tV 7 7 (mV (lo%y)) (tN (kX ?_))));have hdm:=JK lo y;have hml:=y5 lo (show 0<y by omega);have bn:=Bb lo y;have hh0:hi=0:=by omega
 subst hh0;exact c.ret [] (.tuple #[mV (lo/y),mV (lo%y)]) (⟨lo/y,lo%y,rfl,by rw[yS,yW];exact hdm.symm,hml,by omega⟩)
def CM (h1:Hp)(v:Value)(m:Nat)(Q:List Nat->Prop):Prop:=∃ A c,∃ z:List Nat,v=.slice A z.length c/\z.length<=c/\z.length=m/\Wd z/\Q z/\SlO 1 ar 0 h1 A z
theorem Wd.set {l:List Nat}(h:Wd l)(k:Nat){x:Nat}(a:x<18446744073709551616):Wd (l.set k x):=Dg.set h k a
theorem Wd.rep (n:Nat):Wd (y2 n 0):=Dg.rep kD
theorem rn {l:List Nat}{k j x:Nat}(hk:k<l.length)(h:∀ i,j<=i->l.getD i 0=0)(a:k<j):∀ i,j<=i->(l.set k x).getD i 0=0:=fun i hi=>by rw[bO hk,if_neg oM];exact h i hi
theorem D4 (A:Z9)(c:Nat)(x:List Nat)(D:Z9)(d:Nat)(y:List Nat)(hx:Wd x)(hy:Wd y)(hlx:x.length<=1000000000)(hly:y.length<=1000000000)(w:World)(h:Hp)(g:G w h)(hA:SlO 1 ar 0 h A x)(hD:SlO 1 ar 0 h D y):CR 127 #[.slice A x.length c,.slice D y.length d] w h (fun v h1=>CM h1 v (x.length+y.length) (fun z=>aE z=aE x*aE y)):=by
 have e:=(((sS g).aS hA).aS hD);refine go Tryz.func127 [(0,qS A x.length c),(1,qS D y.length d)] rfl (ab e ae (a7 (lL e [.c,.v (nV x.length),.c,.v (nV y.length)] (bM 19 ((x.length:Nat)+(y.length:Nat)) (x.length+y.length) ?_))));refine lK 20 23 (x.length+y.length) 1 8 (uV 0) ar 0 e (fun u w2 h3 e=>?_);have Y:(y2 (x.length+y.length) 0).length=(x.length+y.length):=by simp
 refine lL e ae (ag (ab e [.c,.v (nV x.length),.c] (be ?_)));refine bU _ (CG.loop (fun L Γ w_=>∃ (i:Nat)(l:List Nat)(C:Hp),L=x.length-i/\Γ=[(1,qS D y.length d),(4,sZ),(5,qS (sB u) (x.length+y.length) (x.length+y.length)),(21,qS A x.length c),(22,nV x.length),(23,nV i)]/\SS w h w_ C [⟨u,23,(l).flatMap ar⟩] [] [fun C=>SlO 1 ar 0 C D y,fun C=>SlO 1 ar 0 C A x]/\i<=x.length/\l.length=x.length+y.length/\Wd l/\aE l=aq 18446744073709551616 (x.take i)*aE y/\(∀ k,i+y.length<=k->l.getD k 0=0)) _ ⟨0,y2 (x.length+y.length) 0,h3,rfl,rfl,e.to _ _,JU _,Y,Wd.rep _,(by show aq _ _=_;rw[fZ];simp[aq]),fun k _=>gU⟩ ?_);rintro _ _ w5 ⟨i,l,h6,hm7,rfl,e,hi,M,hW,hv,hz⟩;refine aD ?_;cases I:(decide ((i:Int)<(x.length:Int)))
 .
  have V:=oF I;refine lB 24 I (ag (dv (CG.exit ?_)))
  show CG _ _ _ _ _ _ _ _
  refine ab e aN (lN (kX ?_));have hix:i=x.length:=by omega
  rw[hix,yN] at hv
  obtain ⟨h9,e,Q,bn,bl⟩:=e.pub 0;replace e:=(e.to [] []).aS (SlO.of_flat (sz:=1) (f:=ar) (d:=0) (b:=u) (o:=0) (l:=l) (fun _=>rfl) Q);exact e.ret [] (qS (sB u) (x.length+y.length) (x.length+y.length)) (⟨sB u,_,l,by rw[M],by omega,M,hW,hv,e.f.1⟩)
 have V:=oT I;refine lB 24 I (ag (bT (cK (cQ (kZ (ab e ae (lX 26 A x.length c 1 (i:Nat) i ((e.f.2.1).ok oM) ?_)))))));refine lH 27 (mV (x.getD i 0)) e ((e.f.2.1).el i oM) (lL e aN (a7 (lL e ae (ag (ab e [.c,.v (nV y.length),.c] (be ?_))))));refine bU _ (CG.loop (fun L Γ w_=>∃ (j:Nat)(l2:List Nat)(F:Nat)(C:Hp),L=y.length-j/\Γ=[(1,qS D y.length d),(4,sZ),(5,qS (sB u) (x.length+y.length) (x.length+y.length)),(21,qS A x.length c),(22,nV x.length),(23,nV i),(6,nV i),(7,mV (x.getD i 0)),(28,qS D y.length d),(29,nV y.length),(30,nV j),(8,mV F)]/\SS w h w_ C [⟨u,23,(l2).flatMap ar⟩] [] [fun C=>SlO 1 ar 0 C D y,fun C=>SlO 1 ar 0 C A x]/\j<=y.length/\l2.length=x.length+y.length/\Wd l2/\F<18446744073709551616/\aq 18446744073709551616 l2+18446744073709551616^(i+j)*F=aE l+18446744073709551616^i*(x.getD i 0*aq 18446744073709551616 (y.take j))/\(∀ k,i+y.length<=k->l2.getD k 0=0)) _ ⟨0,l,0,h6,rfl,rfl,e.to _ _,JU _,M,hW,by omega,(by show aq _ l+_=aq _ l+_;simp[aq]),hz⟩ ?_);rintro _ _ _ ⟨j,l2,F,zi,b2,rfl,e,hj,J,K,hc,inv,O⟩;have hlk:=K.get (i+j);refine aD ?_;cases W:(decide ((j:Int)<(y.length:Int)))
 .
  have zd:=oF W;refine lB 31 W (ag (dv (CG.exit ?_)))
  show CG _ _ _ _ _ _ _ _
  refine kQ (lL e [.c,.c,.c,.v (nV y.length)] (bM 75 ((i:Nat)+(y.length:Nat)) (i+y.length) ?_));refine lL e ae (lX 77 (sB u) (x.length+y.length) (x.length+y.length) 1 (i+y.length:Nat) (i+y.length) rfl ?_);refine lW 0 l2 ar 1 (i+y.length) F e oM (fun _ e=>?_);have zf:((l2).set (i+y.length) F).length=(x.length+y.length):=by rw[JJ];exact J
  replace e:=e.to [⟨u,23,((l2).set (i+y.length) F).flatMap ar⟩] [];refine lN (kQ (bM 78 ((i:Nat)+1) (i+1) ?_));refine lL e ae (lD ?_);intro a_ Z;refine ⟨_,_,?_,⟨i+1,(l2).set (i+y.length) F,zi,rfl,rfl,e.to _ _,oM,zf,(K.set _ hc),(by have hjy:j=y.length:=oM;rw[hjy] at inv;exact (Cy oM inv (O _ oM)).trans (BL hv)),(rn oM (fun k hk=>O k oM) oM)⟩,Z.to _ kR⟩
  omega
 have zd:=oT W;refine lB 31 W (ag (bT (cK (cQ (kZ (ab e ae (lX 33 D y.length d 1 (j:Nat) j ((e.f.1).ok oM) ?_)))))));refine lH 34 (mV (y.getD j 0)) e ((e.f.1).el j oM) (lL e aN (a7 (lL e aN (lC 38 e (mi (x.getD i 0) (y.getD j 0) wM wM _ _ e.g) ?_))));rintro _ _ zj e ⟨p,ze,rfl,b3,bb,bf,bt⟩;have X:=iE (a:=(x.getD i 0)) (b:=(y.getD j 0)) wM wM;refine lL e [.c,.v (mV p),.v (mV ze),.c,.c] (a7 (lL e nK (bM 46 ((i:Nat)+(j:Nat)) (i+j) ?_)));refine lX 47 (sB u) (x.length+y.length) (x.length+y.length) 1 (i+j:Nat) (i+j) rfl (lQ 48 0 l2 ar 1 0 (i+j) (mV ((l2).getD (i+j) 0)) e oM ?_);obtain ⟨H,za,bw,bv,bq,U⟩:=eh ze ((l2).getD (i+j) 0) 0 wM wM oM;refine lV 49 (.tuple #[mV H,mV za]) ?_ (hr:=d3 kR (U _));refine lL e [.c,.v (mV H),.v (mV za),.c,.c] (a7 (lL e aN (lV 54 (mV (p+za)) ?_ (hr:=rU (((p:Int)+(za:Int))) kR (ji p za oM)))));refine lL e ae (lN (bU [(1,qS D y.length d),(4,sZ),(5,qS (sB u) (x.length+y.length) (x.length+y.length)),(21,qS A x.length c),(22,nV x.length),(23,nV i),(6,nV i),(7,mV (x.getD i 0)),(28,qS D y.length d),(29,nV y.length),(30,nV j),(8,mV F),(9,nV j),(11,mV (p+za)),(13,mV H),(14,mV za)] ?_));refine ab e aN ?_;obtain ⟨B,zb,bm,b4,b0,S⟩:=eh H F 0 wM wM oM;refine lV 58 (.tuple #[mV B,mV zb]) ?_ (hr:=d3 kR (S _));refine lL e [.c,.v (mV B),.v (mV zb),.c,.c] (lN (kQ (lL e ff (bM 64 ((i:Nat)+(j:Nat)) (i+j) ?_))));refine lL e ff (lV 68 (mV ((p+za)+zb)) ?_ (hr:=rU ((((p+za:Nat):Int)+(zb:Int))) kR (ji (p+za) zb oM)));refine lX 69 (sB u) (x.length+y.length) (x.length+y.length) 1 (i+j:Nat) (i+j) rfl (lW 0 l2 ar 1 (i+j) B e oM (fun _ e=>?_));have zg:((l2).set (i+j) B).length=(x.length+y.length):=by rw[JJ];exact J
 replace e:=e.to [⟨u,23,((l2).set (i+j) B).flatMap ar⟩] [];refine lL e ae (lN (kQ (bM 70 ((j:Nat)+1) (j+1) ?_)));refine lL e ae (lD ?_);intro a_ Z;refine ⟨_,_,?_,⟨j+1,(l2).set (i+j) B,((p+za)+zb),zj,rfl,rfl,e.to _ _,oM,zg,(K.set _ oM),oM,(p7 oM inv oM),(rn oM O oM)⟩,Z.to _ kR⟩
 omega
theorem Bt {x:List Nat}(a:Wd x){n:Nat}(h:x.length<=n/64):aE x<2^n:=by
 have h1:=cC a;have b:(18446744073709551616:Nat)^x.length=2^(64*x.length):=by rw[Jz]
 have c:(2:Nat)^(64*x.length)<=2^n:=Ju oM oM
 show aq _ x<_
 omega
theorem oG {l:List Nat}{k x:Nat}(hk:k<l.length)(h:∀ i,k<=i->l.getD i 0=0):∀ i,k+1<=i->(l.set k x).getD i 0=0:=fun i hi=>by rw[bO hk,if_neg oM];exact h i oM
theorem xe (A:Z9)(c:Nat)(x:List Nat)(hx:Wd x)(X:x.length<=1000000000)(n:Nat)(hn:n<=1000000000)(w:World)(h:Hp)(g:G w h)(hA:SlO 1 ar 0 h A x):CR 184 #[.slice A x.length c,nV n] w h (fun v h1=>CM h1 v (x.length+n/64+1) (fun z=>aE z=aE x*2^n)):=by
 have e:=((sS g).aS hA);refine go Tryz.func184 [(0,qS A x.length c),(1,nV n)] rfl (ab e ae (a7 (lL e ae (lV 11 (nV (n/64)) ?_ (hr:=ba (dZ (t:=3) (u:=3) (x:=.tmp 10) (y:=.const (iV 64)) (k:=.i64) (a:=(n:Int)) (b:=(64:Int)) kR kR kR oM _) (dV n 64 oM))))));refine lL e ae (lV 13 (nV (n%64)) ?_ (hr:=ba (gn (t:=3) (u:=3) (x:=.tmp 12) (y:=.const (iV 64)) (k:=.i64) (a:=(n:Int)) (b:=(64:Int)) kR kR kR oM _) (dY n 64)));refine lV 14 (mV (n%64)) ?_ (hr:=rU (((n%64:Nat):Int)) kR (bX oM oM));refine lL e aN (a7 (lL e [.c,.v (nV x.length),.c] (bM 18 ((x.length:Nat)+(n/64:Nat)) (x.length+(n/64)) ?_)));refine bM 19 ((x.length+(n/64):Nat)+1) ((x.length+(n/64))+1) (lK 20 23 ((x.length+(n/64))+1:Nat) 1 8 (uV 0) ar 0 e (fun j w2 h3 e=>?_));have J:(y2 ((x.length+(n/64))+1:Nat) 0).length=((x.length+(n/64))+1:Nat):=by simp
 refine lL e ae (ag (ab e [.c,.v (nV x.length),.c] (be ?_)));refine bU _ (CG.loop (fun Q Γ Y=>∃ (i:Nat)(l:List Nat)(U:Hp),Q=x.length-i/\Γ=[(4,sZ),(5,nV (n/64)),(6,mV (n%64)),(7,qS (sB j) ((x.length+(n/64))+1:Nat) ((x.length+(n/64))+1:Nat)),(21,qS A x.length c),(22,nV x.length),(23,nV i)]/\SS w h Y U [⟨j,23,(l).flatMap ar⟩] [] [fun U=>SlO 1 ar 0 U A x]/\i<=x.length/\l.length=x.length+n/64+1/\Wd l/\aE l=2^(n%64)*(18446744073709551616^(n/64)*aq 18446744073709551616 (x.take i))/\l.getD (i+n/64) 0<2^(n%64)/\(∀ k,i+n/64+1<=k->l.getD k 0=0)) _ ⟨0,y2 ((x.length+(n/64))+1:Nat) 0,h3,rfl,rfl,e.to _ _,JU _,J,Wd.rep _,(by show aq _ _=_;rw[fZ];simp[aq]),(by rw[gU];exact H1 _),fun k _=>gU⟩ ?_);rintro _ _ w5 ⟨i,l,h6,Z,rfl,e,hi,C,I,hv,ho,hz⟩;refine aD ?_;cases B:(decide ((i:Int)<(x.length:Int)))
 .
  have F:=oF B;refine lB 24 B (ag (dv (CG.exit ?_)))
  show CG _ _ _ _ _ _ _ _
  refine ab e aN (lN (kX ?_));have M:i=x.length:=by omega
  rw[M,yN] at hv
  obtain ⟨h9,e,D,V,W⟩:=e.pub 0;replace e:=(e.to [] []).aS (SlO.of_flat (sz:=1) (f:=ar) (d:=0) (b:=j) (o:=0) (l:=l) (fun _=>rfl) D);exact e.ret [] (qS (sB j) ((x.length+(n/64))+1:Nat) ((x.length+(n/64))+1:Nat)) (⟨sB j,_,l,by rw[C],by omega,C,I,(by show aE l=_;rw[hv,xi n];show _*(_*aE x)=_;ac_rfl),e.f.1⟩)
 have F:=oT B;refine lB 24 B (ag (bT (cK (cQ (kZ (ab e ae (lX 26 A x.length c 1 (i:Nat) i ((e.f.1).ok oM) ?_)))))));refine lH 27 (mV (x.getD i 0)) e ((e.f.1).el i oM) (lL e aN (a7 (lL e ff (bM 31 ((i:Nat)+(n/64:Nat)) (i+(n/64)) ?_))));refine lX 32 (sB j) ((x.length+(n/64))+1:Nat) ((x.length+(n/64))+1:Nat) 1 (i+(n/64):Nat) (i+(n/64)) rfl (lQ 33 0 l ar 1 0 (i+(n/64)) (mV ((l).getD (i+(n/64)) 0)) e oM (lL e aN (lV 36 (mV ((x.getD i 0)*2^(n%64)%18446744073709551616)) ?_ (hr:=iO (t:=23) (u:=171) (x:=.tmp 34) (y:=.tmp 35) (ky:=.u64) (a:=(x.getD i 0)) (n:=(n%64)) kR kR kR _))));have H:=hx.get i;obtain ⟨K,L,O,S⟩:=AS (x:=x.getD i 0) (p:=n%64) (o:=l.getD (i+n/64) 0) oM H ho;have hlg:=I.get (i+n/64);refine lV 37 (mV (l.getD (i+n/64) 0+x.getD i 0*2^(n%64)%18446744073709551616)) ?_ (hr:=ba (j5 (t:=23) (u:=23) (x:=.tmp 33) (y:=.tmp 36) (a:=((l).getD (i+(n/64)) 0:Nat)) (b:=((x.getD i 0)*2^(n%64)%18446744073709551616)) kR kR kR oM oM _) (by rw[K]));refine lX 38 (sB j) ((x.length+(n/64))+1:Nat) ((x.length+(n/64))+1:Nat) 1 (i+(n/64):Nat) (i+(n/64)) rfl (lW 0 l ar 1 (i+(n/64)) (l.getD (i+n/64) 0+x.getD i 0*2^(n%64)%18446744073709551616) e oM (fun _ e=>?_));have za:((l).set (i+(n/64)) (l.getD (i+n/64) 0+x.getD i 0*2^(n%64)%18446744073709551616)).length=((x.length+(n/64))+1:Nat):=by rw[JJ];exact C
 replace e:=e.to [⟨j,23,((l).set (i+(n/64)) (l.getD (i+n/64) 0+x.getD i 0*2^(n%64)%18446744073709551616)).flatMap ar⟩] [];refine lN (kQ (lL e ff (bM 42 ((i:Nat)+(n/64:Nat)) (i+(n/64)) ?_)));refine bM 43 ((i+(n/64):Nat)+1) ((i+(n/64))+1) (lL e aN (lV 46 (mV (64-(n%64))) ?_ (hr:=rU (((64:Int)-((n%64:Nat):Int))) kR (gM 64 (n%64) oM oM))));refine lV 47 (mV ((x.getD i 0)/2^(64-(n%64)))) ?_ (hr:=ig (t:=23) (u:=171) (x:=.tmp 44) (y:=.tmp 46) (ky:=.u64) (a:=(x.getD i 0)) (n:=(64-(n%64))) kR kR kR oM _);refine lX 48 (sB j) ((x.length+(n/64))+1:Nat) ((x.length+(n/64))+1:Nat) 1 ((i+(n/64))+1:Nat) ((i+(n/64))+1:Nat) rfl (lW 0 ((l).set (i+(n/64)) (l.getD (i+n/64) 0+x.getD i 0*2^(n%64)%18446744073709551616)) ar 1 ((i+(n/64))+1:Nat) ((x.getD i 0)/2^(64-(n%64)):Nat) e oM (fun _ e=>?_));have zb:(((l).set (i+(n/64)) (l.getD (i+n/64) 0+x.getD i 0*2^(n%64)%18446744073709551616)).set ((i+(n/64))+1:Nat) ((x.getD i 0)/2^(64-(n%64)):Nat)).length=((x.length+(n/64))+1:Nat):=by rw[JJ];exact za
 replace e:=e.to [⟨j,23,(((l).set (i+(n/64)) (l.getD (i+n/64) 0+x.getD i 0*2^(n%64)%18446744073709551616)).set ((i+(n/64))+1:Nat) ((x.getD i 0)/2^(64-(n%64)):Nat)).flatMap ar⟩] [];refine lN (kQ (bM 49 ((i:Nat)+1) (i+1) ?_));refine lL e ae (lD ?_);intro a_ ka;refine ⟨_,_,?_,⟨i+1,((l).set (i+(n/64)) (l.getD (i+n/64) 0+x.getD i 0*2^(n%64)%18446744073709551616)).set ((i+(n/64))+1:Nat) ((x.getD i 0)/2^(64-(n%64)):Nat),h6,rfl,rfl,e.to _ _,oM,zb,((I.set _ L).set _ (by have:=Bb (x.getD i 0) (2^(64-n%64));omega)),(vE oM hv (hz _ oM) O rfl rfl),(by rw[show i+1+n/64=i+n/64+1 by omega,bO (by rw[JJ];omega),if_pos rfl];exact S),(fun k hk=>by rw[bO (by rw[JJ];omega),if_neg oM,bO oM,if_neg oM];exact hz k oM)⟩,ka.to _ kR⟩
 omega
theorem Ha (A:Z9)(c:Nat)(x:List Nat)(Y:Wd x)(hlx:x.length<=1000000000)(n:Nat)(hn:n<=1000000000)(w:World)(h:Hp)(g:G w h)(hA:SlO 1 ar 0 h A x):CR 186 #[.slice A x.length c,nV n] w h (fun v h1=>CM h1 v (x.length-n/64) (fun z=>aE z=aE x/2^n)):=by
 have e:=((sS g).aS hA);refine go Tryz.func186 [(0,qS A x.length c),(1,nV n)] rfl (ab e ae (a7 (lL e ae (lV 10 (nV (n/64)) ?_ (hr:=ba (dZ (t:=3) (u:=3) (x:=.tmp 9) (y:=.const (iV 64)) (k:=.i64) (a:=(n:Int)) (b:=(64:Int)) kR kR kR oM _) (dV n 64 oM))))));refine lL e ae (lV 12 (nV (n%64)) ?_ (hr:=ba (gn (t:=3) (u:=3) (x:=.tmp 11) (y:=.const (iV 64)) (k:=.i64) (a:=(n:Int)) (b:=(64:Int)) kR kR kR oM _) (dY n 64)));refine lV 13 (mV (n%64)) ?_ (hr:=rU (((n%64:Nat):Int)) kR (bX oM oM));refine lL e aN (ag (ab e [.c,.c,.v (nV x.length)] ?_));cases C:(decide ((x.length:Int)<=((n/64:Nat):Int)))
 .
  have F:=oF C;refine lB 17 C (ai (cK (ab e [.c,.v (nV x.length),.c] (bM 21 ((x.length:Nat)-(n/64:Nat)) (x.length-(n/64)) ?_))));refine lK 22 23 (x.length-(n/64)) 1 8 (uV 0) ar 0 e (fun B w3 h4 e=>?_);have O:(y2 (x.length-(n/64)) 0).length=(x.length-(n/64)):=by simp
  refine lL e ae (ag (ab e [.c,.v (nV (x.length-(n/64))),.c] (be ?_)));refine bU _ (CG.loop (fun X Γ w_=>∃ (i:Nat)(l:List Nat)(Z:Hp),X=x.length-n/64-i/\Γ=[(0,qS A x.length c),(4,sZ),(5,nV (n/64)),(6,mV (n%64)),(7,qS (sB B) (x.length-(n/64)) (x.length-(n/64))),(24,nV (x.length-(n/64))),(25,nV i)]/\SS w h w_ Z [⟨B,23,(l).flatMap ar⟩] [] [fun Z=>SlO 1 ar 0 Z A x]/\i<=x.length-n/64/\l.length=x.length-n/64/\Wd l/\2^(n%64)*aq 18446744073709551616 l+(x.drop (n/64)).getD 0 0%2^(n%64)=aq 18446744073709551616 ((x.drop (n/64)).take i)+18446744073709551616^i*((x.drop (n/64)).getD i 0%2^(n%64))/\(∀ k,i<=k->l.getD k 0=0)) _ ⟨0,y2 (x.length-(n/64)) 0,h4,rfl,rfl,e.to _ _,JU _,O,Wd.rep _,(by rw[fZ];simp[aq]),fun k _=>gU⟩ ?_);rintro _ _ w6 ⟨i,l,h7,hm8,rfl,e,hi,J,M,inv,hz⟩;refine aD ?_;cases D:(decide ((i:Int)<(((x.length-(n/64)):Nat):Int)))
  .
   have I:=oF D;refine lB 26 D (ag (dv (CG.exit ?_)))
   show CG _ _ _ _ _ _ _ _
   refine ab e aN (lN (kX ?_));have hix:i=x.length-n/64:=by omega
   have hE:=C8 (W:=x.drop (n/64)) (m:=i) (by rw[A5];omega) inv;rw[oC Y oM,JD,<-xi n] at hE
   obtain ⟨_,e,H,bb,bf⟩:=e.pub 0;replace e:=(e.to [] []).aS (SlO.of_flat (sz:=1) (f:=ar) (d:=0) (b:=B) (o:=0) (l:=l) (fun _=>rfl) H);exact e.ret [] (qS (sB B) (x.length-(n/64)) (x.length-(n/64))) (⟨sB B,_,l,by rw[J],by omega,by omega,M,hE,e.f.1⟩)
  have I:=oT D;refine lB 26 D (ag (bT (cK (cQ (kZ (ab e aN (a7 (lL e IU (bM 33 ((i:Nat)+(n/64:Nat)) (i+(n/64)) ?_)))))))));refine lX 34 A x.length c 1 (i+(n/64):Nat) (i+(n/64)) ((e.f.1).ok oM) (lH 35 (mV (x.getD (i+(n/64)) 0)) e ((e.f.1).el (i+(n/64)) oM) (lL e ae ?_));have L:=Y.get (i+n/64);refine lV 37 (mV ((x.getD (i+(n/64)) 0:Nat)/2^(n%64))) ?_ (hr:=ig (t:=23) (u:=171) (x:=.tmp 35) (y:=.tmp 36) (ky:=.u64) (a:=(x.getD (i+(n/64)) 0:Nat)) (n:=(n%64)) kR kR kR oM _);refine lX 38 (sB B) (x.length-(n/64)) (x.length-(n/64)) 1 (i:Nat) i rfl (lW 0 l ar 1 i ((x.getD (i+(n/64)) 0:Nat)/2^(n%64):Nat) e oM (fun _ e=>?_));have zb:((l).set i ((x.getD (i+(n/64)) 0:Nat)/2^(n%64):Nat)).length=(x.length-(n/64)):=by rw[JJ];exact J
  replace e:=e.to [⟨B,23,((l).set i ((x.getD (i+(n/64)) 0:Nat)/2^(n%64):Nat)).flatMap ar⟩] [];refine a7 (lL e aN (bM 41 ((i:Nat)+(n/64:Nat)) (i+(n/64)) ?_));refine bM 42 ((i+(n/64):Nat)+1) ((i+(n/64))+1) (lL e [.c,.v (nV x.length)] ?_);cases za:(decide ((((i+(n/64))+1:Nat):Int)<(x.length:Int)))
  .
   have zc:=oF za;refine lB 45 za (ai (cK (kQ (bM 62 ((i:Nat)+1) (i+1) ?_))));refine lL e ae (lD ?_);intro a_ U;refine ⟨_,_,?_,⟨i+1,(l).set i ((x.getD (i+(n/64)) 0:Nat)/2^(n%64):Nat),h7,rfl,rfl,e.to _ _,oM,zb,(M.set _ (by have:=Bb (x.getD (i+n/64) 0) (2^(n%64));omega)),(pP oM inv (hz _ (nR _)) (by rw[bL,bL,show n/64+i=i+n/64 by omega,cO (show x.length<=n/64+(i+1) by omega),J4,Gb,yK];exact JK _ _)),(oG oM hz)⟩,U.to _ kR⟩
   omega
  have zc:=oT za;refine lB 45 za (au (cR 15 [] mixed e ao ?_));refine eV 0 46 (qS (sB B) (x.length-(n/64)) (x.length-(n/64))) (eV 1 47 (nV i) (eX 2 48 (sB B) (x.length-(n/64)) (x.length-(n/64)) 1 (i:Nat) i rfl (eQ 3 49 0 ((l).set i ((x.getD (i+(n/64)) 0:Nat)/2^(n%64):Nat)) ar 1 0 i (mV (((l).set i ((x.getD (i+(n/64)) 0:Nat)/2^(n%64):Nat)).getD i 0)) e oM (eV 4 50 (qS A x.length c) (eV 5 51 (nV i) (eV 6 52 (nV (n/64)) (nu 7 53 ((i:Nat)+(n/64:Nat)) (i+(n/64)) (nu 8 54 ((i+(n/64):Nat)+1) ((i+(n/64))+1) (eX 9 55 A x.length c 1 ((i+(n/64))+1:Nat) ((i+(n/64))+1:Nat) ((e.f.1).ok oM) (eH 10 56 (mV (x.getD ((i+(n/64))+1:Nat) 0)) e ((e.f.1).el ((i+(n/64))+1:Nat) oM) (eV 11 57 (mV (n%64)) (eV 12 58 (mV (64-(n%64))) ?_ (hv:=fun _=>rU (((64:Int)-((n%64:Nat):Int))) kR (gM 64 (n%64) oM oM))))))))))))));refine eV 13 59 (mV ((x.getD ((i+(n/64))+1:Nat) 0:Nat)*2^(64-(n%64))%18446744073709551616)) ?_ (hv:=fun _=>iO (t:=23) (u:=171) (x:=.tmp 56) (y:=.tmp 58) (ky:=.u64) (a:=(x.getD ((i+(n/64))+1:Nat) 0:Nat)) (n:=(64-(n%64))) kR kR kR _);obtain ⟨Q,S,V⟩:=qn (x:=x.getD (i+n/64) 0) (y:=x.getD (i+n/64+1) 0) (p:=n%64) oM L;have hdv:=Bb (x.getD (i+n/64) 0) (2^(n%64));have K:=bO (l:=l) (k:=i) (j:=i) (x:=x.getD (i+n/64) 0/2^(n%64)) oM;rw[if_pos rfl] at K
  refine eV 14 60 (mV (x.getD (i+n/64) 0/2^(n%64)+x.getD (i+n/64+1) 0*2^(64-n%64)%18446744073709551616)) ?_ (hv:=fun _=>ba (j5 (t:=23) (u:=23) (x:=.tmp 49) (y:=.tmp 59) (a:=(((l).set i ((x.getD (i+(n/64)) 0:Nat)/2^(n%64):Nat)).getD i 0:Nat)) (b:=((x.getD ((i+(n/64))+1:Nat) 0:Nat)*2^(64-(n%64))%18446744073709551616:Nat)) kR kR kR oM oM _) (by rw[K,Q]));refine ce e (fun _ ze e=>tX 15 61 (sB B) (x.length-(n/64)) (x.length-(n/64)) 1 (i:Nat) i rfl (tW 16 0 ((l).set i ((x.getD (i+(n/64)) 0:Nat)/2^(n%64):Nat)) ar 1 i (x.getD (i+n/64) 0/2^(n%64)+x.getD (i+n/64+1) 0*2^(64-n%64)%18446744073709551616) e oM (fun _ e=>?_)));have zd:(((l).set i ((x.getD (i+(n/64)) 0:Nat)/2^(n%64):Nat)).set i (x.getD (i+n/64) 0/2^(n%64)+x.getD (i+n/64+1) 0*2^(64-n%64)%18446744073709551616)).length=(x.length-(n/64)):=by rw[JJ];exact zb
  replace e:=e.to [⟨B,23,(((l).set i ((x.getD (i+(n/64)) 0:Nat)/2^(n%64):Nat)).set i (x.getD (i+n/64) 0/2^(n%64)+x.getD (i+n/64+1) 0*2^(64-n%64)%18446744073709551616)).flatMap ar⟩] [];refine tN (bU [(0,qS A x.length c),(4,sZ),(5,nV (n/64)),(6,mV (n%64)),(7,qS (sB B) (x.length-(n/64)) (x.length-(n/64))),(24,nV (x.length-(n/64))),(25,nV i)] ?_);refine kQ (bM 62 ((i:Nat)+1) (i+1) ?_);refine lL e ae (lD ?_);intro a_ U;refine ⟨_,_,?_,⟨i+1,((l).set i ((x.getD (i+(n/64)) 0:Nat)/2^(n%64):Nat)).set i (x.getD (i+n/64) 0/2^(n%64)+x.getD (i+n/64+1) 0*2^(64-n%64)%18446744073709551616),ze,rfl,rfl,e.to _ _,oM,zd,((M.set _ oM).set _ S),(by rw[Kc];exact pP oM inv (hz _ (nR _)) (by rw[bL,bL,show n/64+i=i+n/64 by omega,show n/64+(i+1)=i+n/64+1 by omega];exact V)),(by rw[Kc];exact oG oM hz)⟩,U.to _ kR⟩
  omega
 have F:=oT C;exact lB 17 C (au (ab e ae (af e [] (sZ) (⟨none,0,[],rfl,by simp,by simp;omega,Dg.nil,(by show 0=_;exact (Bs (Bt Y oM)).symm),SlO.nil⟩))))
theorem Ii {a b:Nat}(e:a<18446744073709551616)(d:b<18446744073709551616):a*b<=340282366920938463426481119284349108225:=by
 have h1:a<=18446744073709551615:=by omega
 have c:b<=18446744073709551615:=by omega
 exact J1 h1 c
def w3 (u2 u1 u0:Nat):Nat:=18446744073709551616*(18446744073709551616*u2+u1)+u0
def w2 (v1 v0:Nat):Nat:=18446744073709551616*v1+v0
structure Gss (u2 u1 u0 v1 v0 g r o:Nat):Prop where
  e:g*v1+(r+18446744073709551616*o)=18446744073709551616*u2+u1
  lt:g+1=18446744073709551616\/w3 u2 u1 u0<(g+1)*w2 v1 v0
  gb:g<18446744073709551616
def Dj (u2 u1 u0 v1 v0 g:Nat):Prop:=g*w2 v1 v0<=w3 u2 u1 u0/\(g+1=18446744073709551616\/w3 u2 u1 u0<(g+1)*w2 v1 v0)/\g<18446744073709551616
theorem gv {g a b:Nat}:g*w2 a b=18446744073709551616*(g*a)+g*b:=by unfold w2;rw[D1,JH]
theorem Gss.fin {d u1 b c a g r o:Nat}(h:Gss d u1 b c a g r o)(f:g*a<=18446744073709551616*(r+18446744073709551616*o)+b):Dj d u1 b c a g:=by
 refine ⟨?_,h.lt,h.gb⟩;rw[gv]
 unfold w3
 rw[<-h.e,D1]
 omega
theorem Gss.over {d u1 b c a g r o:Nat}(h:Gss d u1 b c a g r o)(e:0<o)(h0:a<18446744073709551616):Dj d u1 b c a g:=by
 refine h.fin ?_;have h1:=Ii h.gb h0
 omega
theorem Gss.dec {d u1 c a b g r f o':Nat}(h:Gss d u1 c a b g r 0)(j:18446744073709551616*r+c<g*b)(e:f+18446744073709551616*o'=r+a):0<g/\Gss d u1 c a b (g-1) f o':=by
 have i:0<g:=ef j;obtain ⟨p,rfl⟩:∃ p,g=p+1:=⟨g-1,by omega⟩;have e1:=h.e;rw[Gb,yK] at e1
 have h1:w3 d u1 c<(p+1)*w2 a b:=by
  rw[gv]
  unfold w3
  rw[<-e1,D1]
  omega
 have e2:(p+1)*a=p*a+a:=by rw[JG,JI]
 rw[JM];exact ⟨i,⟨by omega,Or.inr h1,by have:=h.gb;omega⟩⟩
theorem C2 {b u1 d a c r o:Nat}(h:b=a)(e:r+18446744073709551616*o=u1+a):Gss b u1 d a c 18446744073709551615 r o:=by
 subst h;exact ⟨by omega,.inl rfl,by decide⟩
theorem BO {b u1 d a c q r:Nat}(e:b*18446744073709551616+u1=a*q+r)(hr:r<a)(h0:d<18446744073709551616)(f:q<18446744073709551616):Gss b u1 d a c q r 0:=by
 rw[Az b] at e
 refine ⟨by rw[Az q];omega,.inr ?_,f⟩;rw[gv,JG q 1 a,JI,Az q a]
 unfold w3
 rw[e]
 have h1:18446744073709551616*(a*q+r)+18446744073709551616<=18446744073709551616*(a*q+a):=by
  rw[<-JS];exact Jx _ oM
 have h:0<=(q+1)*c:=JU _
 omega
theorem Ea (o u1 i e f:Nat)(h0:o<18446744073709551616)(h1:u1<18446744073709551616)(h2:i<18446744073709551616)(h3:e<18446744073709551616)(h4:f<18446744073709551616)(hle:o<=e)(hv:0<e)(w:World)(h:Hp)(g:G w h):CR 185 #[mV o,mV u1,mV i,mV e,mV f] w h (fun v _=>∃ g:Nat,v=mV g/\Dj o u1 i e f g):=by
 have d:=sS g;refine go Tryz.func185 [(0,mV o),(1,mV u1),(2,mV i),(3,mV e),(4,mV f)] rfl ?_;refine ab d ae (a7 (lL d ff (lN (CG.join (fun Γ V=>∃ (L:Nat)(C:Nat)(I:Nat)(h_:Hp),Γ=[(2,mV i),(3,mV e),(4,mV f),(10,uV 0),(11,mV L),(12,mV C),(13,mV I)]/\SS w h V h_ [] [] []/\Gss o u1 i e f L C I/\C<18446744073709551616/\I<=1) ?_ ?_))))
 .
  refine ab d aN ?_;cases l:((o:Int) == (e:Int))
  .
   have B:=ah l;refine lB 18 l (ai (kQ (lL d ff (lC 29 d (xm o u1 e oM wM wM _ _ d.g) ?_))));rintro _ w7 h8 d ⟨q2,r3,rfl,he4,hl5,hm6⟩;refine lL d [.c,.v (mV q2),.v (mV r3),.c,.c] (lD ?_);intro U p;exact ⟨_,⟨q2,r3,0,h8,rfl,d.to _ _,(BO oM oM h2 oM),oM,oM⟩,p.to _ kR⟩
  have B:=eq_of_beq l;refine lB 18 l (au (ab d ae (lN (kQ (lL d aN ?_)))));obtain ⟨z,S,b2,bm,b4,F⟩:=eh u1 e 0 wM wM oM;refine lV 22 (.tuple #[mV z,mV S]) ?_ (hr:=d3 kR (F _));refine lL d [.c,.v (mV z),.v (mV S),.c,.c] (lD ?_);intro U p;exact ⟨_,⟨18446744073709551615,z,S,h,rfl,d.to _ _,(C2 oM oM),oM,oM⟩,p.to _ kR⟩
 rintro _ _ ⟨L,C,I,zo,rfl,d,hG0,hr0,J⟩;refine cQ (kZ ?_);refine bU _ (CG.loop (fun Q Γ V=>∃ (g:Nat)(r:Nat)(k:Nat)(h_:Hp),Q=g/\Γ=[(2,mV i),(3,mV e),(4,mV f),(10,uV 0),(11,mV g),(12,mV r),(13,mV k)]/\SS w h V h_ [] [] []/\Gss o u1 i e f g r k/\r<18446744073709551616/\k<=1) _ ⟨L,C,I,zo,rfl,rfl,d.to _ _,hG0,hr0,J⟩ ?_);rintro _ _ _ ⟨g,r,k,_,bt,rfl,d,hG,hr,hov⟩;have hgl:=hG.gb;refine cQ (ab d ae ?_);cases za:((k:Int) == (0:Int))
 .
  have zi:=ah za;refine lB 33 za (ai (CG.exit ?_))
  show CG _ _ _ _ _ _ _ _
  exact ab d aN (af d [] (mV g) (⟨g,rfl,(by first|exact hG.over oM h4|(rw[show k=0 by omega] at hG;exact hG.fin oM))⟩))
 have zi:=eq_of_beq za;refine lB 33 za (au (cK (kZ (ab d aN (lC 37 d (mi g f wM wM _ _ d.g) ?_)))));rintro _ _ zm d ⟨y,zn,rfl,bw,b3,bf,b0⟩;have M:=iE (a:=g) (b:=f) wM wM;refine lL d [.c,.v (mV y),.v (mV zn),.c,.c] (ag (ab d aN ?_));cases zb:(decide ((y:Int)<(r:Int)))
 .
  have zj:=oF zb;refine lB 42 zb (lL d ff ?_);cases K:((y:Int) == (r:Int))
  .
   have zk:=ah K;refine lB 46 K (lL d ae (lG 48 ?_));refine lG 49 (lG 50 (lL d [.v qF,.v qF] (ai (cK (aD ?_)))));have j:18446744073709551616*r+i<g*f:=by omega
   rw[show k=0 by omega] at hG
   have W:=ef j;have X:=hG.gb;refine lL d ae (lV 54 (mV (g-1)) ?_ (hr:=rU (((g:Int)-(1:Int))) kR (gM g 1 oM oM)));refine lL d ae (lN (kQ (lL d aN ?_)));obtain ⟨u,Z,bq,bl,b1,H⟩:=eh r e 0 wM wM oM;refine lV 58 (.tuple #[mV u,mV Z]) ?_ (hr:=d3 kR (H _));refine lL d [.c,.v (mV u),.v (mV Z),.c,.c] (lD ?_);intro U p;refine ⟨_,_,?_,⟨g-1,u,Z,zm,rfl,rfl,d.to _ _,((hG.dec j oM).2),oM,oM⟩,p.to _ kR⟩
   omega
  have zk:=eq_of_beq K;refine lB 46 K (lL d ff ?_);cases O:(decide ((zn:Int)<=(i:Int)))
  .
   have zl:=oF O;refine lB 50 O (lL d [.v qF,.v qF] (ai (cK (aD ?_))));have j:18446744073709551616*r+i<g*f:=by omega
   rw[show k=0 by omega] at hG
   have W:=ef j;have X:=hG.gb;refine lL d ae (lV 54 (mV (g-1)) ?_ (hr:=rU (((g:Int)-(1:Int))) kR (gM g 1 oM oM)));refine lL d ae (lN (kQ (lL d aN ?_)));obtain ⟨x,Y,bb,bn,bv,D⟩:=eh r e 0 wM wM oM;refine lV 58 (.tuple #[mV x,mV Y]) ?_ (hr:=d3 kR (D _));refine lL d [.c,.v (mV x),.v (mV Y),.c,.c] (lD ?_);intro U p;refine ⟨_,_,?_,⟨g-1,x,Y,zm,rfl,rfl,d.to _ _,((hG.dec j oM).2),oM,oM⟩,p.to _ kR⟩
   omega
  have zl:=oT O;refine lB 50 O (lL d [.v qT,.v qT] (au (CG.exit ?_)))
  show CG _ _ _ _ _ _ _ _
  exact ab d aN (af d [] (mV g) (⟨g,rfl,(by first|exact hG.over oM h4|(rw[show k=0 by omega] at hG;exact hG.fin oM))⟩))
 have zj:=oT zb;refine lB 42 zb (lL d ae (lG 44 ?_));refine lG 45 (lG 46 (lG 47 (lG 48 (lG 49 (lG 50 (lG 51 (lL d [.v qT] (au (CG.exit ?_)))))))))
 show CG _ _ _ _ _ _ _ _
 exact ab d aN (af d [] (mV g) (⟨g,rfl,(by first|exact hG.over oM h4|(rw[show k=0 by omega] at hG;exact hG.fin oM))⟩))
theorem Ex (A:Z9)(c:Nat)(l:List Nat)(n:Nat)(a:l.length=n)(b:l.length<=1099511627776)(d:l.length<=c)(w:World)(h:Hp)(g:G w h)(e:SlO 1 ar 0 h A l):CV 143 #[.slice A n c] w h (.slice A (tl l n) c):=by
 subst a;exact DP A c l b d w h g e
theorem GY (rb:Nat)(l:List Nat)(c d:Nat)(hd:0<d)(X:d<18446744073709551616)(L:Wd l)(hl:l.length<=1000000000)(hc:l.length<=c)(w:World)(h:Hp)(g:G w h)(Q:Own w rb 23 (l.flatMap ar))(O:h[rb]?=some bc):Calls Tryz.prog 112 #[.slice (sB rb) l.length c,mV d] w (iw rb w h fun v w' _=>∃ z:List Nat,∃ r:Nat,v=.tuple #[.slice (sB rb) (tl z z.length) c,uV r]/\z.length=l.length/\Wd z/\aE l=d*aE z+r/\r<d/\Own w' rb 23 (z.flatMap ar)):=by
 have e:UpM [rb] w h w h:=UpM.refl g;obtain ⟨wz,hz,a⟩:=SS.at_ g Q O;have W:l.length=l.length:=rfl;refine go Tryz.func112 [(0,qS (sB rb) l.length c),(1,mV d)] rfl (ab a aN (a7 (lL a ae (ag (ab a [.c,.v (nV l.length)] (lV 10 (iV ((l.length:Int)-1)) ?_ (hr:=rS (((l.length:Nat)-1)) kR ((gz oM oM).trans oM))))))));refine lL a ae (be ?_);refine bU _ (CG.loop (fun y Γ F=>∃ (m:Nat)(z:List Nat)(r:Nat)(h_:Hp),y=m/\Γ=[(0,qS (sB rb) l.length c),(1,mV d),(4,sZ),(5,uV 0),(7,iV ((m:Int)-1)),(6,mV r)]/\SS wz hz F h_ [⟨rb,23,(z).flatMap ar⟩] [] []/\m<=l.length/\z.length=l.length/\Wd z/\aE l=d*(18446744073709551616^m*aq 18446744073709551616 (z.drop m))+(18446744073709551616^m*r+aq 18446744073709551616 (z.take m))/\r<d/\UpM [rb] w h F h_) _ ⟨l.length,l,0,h,rfl,rfl,a.to _ _,nR _,rfl,L,(by show aq _ l=_;simp[aq,yT]),hd,e⟩ ?_);rintro _ _ w1 ⟨m,z,r,h2,M,rfl,a,hm,j,C,inv,D,e⟩;refine cQ (ab a ae ?_);cases i:(decide ((0:Int)<=((m:Int)-1:Int)))
 .
  have k:=oF i;refine lB 12 i (ai (CG.exit ?_))
  show CG _ _ _ _ _ _ _ _
  refine ab a ae (Bh 29 0 a (fun _ Y f_ B=>Ex (sB rb) c (z) (l.length) j oM oM _ _ Y (SlO.of_flat (sz:=1) (f:=ar) (d:=0) (b:=rb) (o:=0) (l:=z) (fun _=>rfl) B)) ?_);rintro _ w5 h6 U a rfl;replace e:=e.trans (U.m _);refine lL a ff (lN (kX ?_));have x:m=0:=by omega
  rw[x] at inv
  exact a.retM e [] (.tuple #[qS (sB rb) (tl (z) l.length) c,mV r]) ⟨z,r,by rw[j],j,C,(by simp only[J9,JI,yL,Ka,aq] at inv;exact inv),D,a.own 0⟩
 have k:=oT i;refine lB 12 i (au (cK (cQ (kZ (kQ (lL a IU (lX 21 (sB rb) l.length c 1 ((m:Int)-1) (m-1) rfl ?_)))))));have Z:=C.get (m-1);refine lQ 22 0 z ar 1 0 (m-1) (mV ((z).getD (m-1) 0)) a oM (lL a ae (od 24 (xm r ((z).getD (m-1) 0) d oM wM wM _ _ a.g) ?_));rintro _ _ zb u ⟨p,J,rfl,K,I,H⟩;replace e:=e.trans (u.m _);replace a:=a.step u;refine lL a [.c,.v (mV p),.v (mV J)] (lX 27 (sB rb) l.length c 1 ((m:Int)-1) (m-1) rfl ?_);refine Hz 0 z ar 1 (m-1) p a oM (fun _ V a=>?_);replace e:=e.put V (vl.2 rfl) a.g;have za:((z).set (m-1) p).length=l.length:=by rw[JJ];exact j
 replace a:=a.to [⟨rb,23,((z).set (m-1) p).flatMap ar⟩] [];refine lL a ae (lN (kQ (lL a ae (lV 14 (iV (((m-1:Nat):Int)-1)) ?_ (hr:=rS ((((m:Int)-1)-1)) kR ((gz oM oM).trans oM))))));refine lL a ae (lD ?_);intro a_ S;refine ⟨_,_,?_,⟨m-1,(z).set (m-1) p,J,zb,rfl,rfl,a.to _ _,oM,za,(C.set _ oM),(Cz oM (by rw[show m-1+1=m by omega];exact inv) oM),oM,e⟩,S.to _ kR⟩
 omega
theorem Gh {u:List Nat}{k:Nat}(hk:2<=k):w3 (u.getD k 0) (u.getD (k-1) 0) (u.getD (k-2) 0)=u.getD k 0*18446744073709551616*18446744073709551616+u.getD (k-1) 0*18446744073709551616+u.getD (k-2) 0:=by
 unfold w3
 rw[Az (u.getD k 0) 18446744073709551616,Az (18446744073709551616*u.getD k 0) 18446744073709551616,Az (u.getD (k-1) 0),D1]
theorem Gi {a b:Nat}:w2 a b=a*18446744073709551616+b:=by unfold w2;rw[Az]
section
variable {n j G:Nat}{u v:List Nat}
theorem EC (i:2<=n)(o:v.length=n)(a:Wd v)(c:Wd u)(x:j+n<u.length)(hR:aE u<18446744073709551616^(j+1)*aE v):u.getD (j+n) 0<=v.getD (n-1) 0:=by
 rcases ep (v.getD (n-1) 0) (u.getD (j+n) 0) with h|h
 ·exfalso
  have e1:=aW 18446744073709551616 (l:=v) (k:=n-1) oM;rw[show n-1+1=v.length by omega,yN] at e1
  have h1:=cC (Dg.take a (n-1));rw[A2,Ga oM] at h1
  have e2:=aW 18446744073709551616 (l:=u) (k:=j+n) oM;have b:=cn 18446744073709551616 (l:=u) (k:=j+n+1) oM;have p:18446744073709551616^(j+n)*(v.getD (n-1) 0+1)<=18446744073709551616^(j+n)*u.getD (j+n) 0:=Jx _ h
  have d:18446744073709551616^(j+1)*aE v<18446744073709551616^(j+1)*(18446744073709551616^(n-1)*(v.getD (n-1) 0+1)):=by
   refine JL ?_ (JC kD)
   show aq _ v<_
   rw[e1,D1,JN];omega
  rw[<-Ft,<-Jw,show j+1+(n-1)=j+n by omega] at d
  have f:aE u=aq 18446744073709551616 (u.take (j+n))+18446744073709551616^(j+n)*u.getD (j+n) 0+18446744073709551616^(j+n+1)*aq 18446744073709551616 (u.drop (j+n+1)):=by
   show aq _ u=_
   rw[b,e2]
  have e:=JU (18446744073709551616^(j+n+1)*aq 18446744073709551616 (u.drop (j+n+1)))
  omega
 ·exact h
theorem vz (e:2<=n)(f:v.length=n)(b:Wd v)(c:Wd u)(h:j+n<u.length)(a:v.getD (n-1) 0≠0)(hR:aE u<18446744073709551616^(j+1)*aE v)(hG:Dj (u.getD (j+n) 0) (u.getD (j+n-1) 0) (u.getD (j+n-2) 0) (v.getD (n-1) 0) (v.getD (n-2) 0) G) :
  aE u/(18446744073709551616^j*aE v)<=G/\G<=aE u/(18446744073709551616^j*aE v)+1:=by
 obtain ⟨h1,d,i⟩:=hG;rw[Gh oM,Gi] at h1 d
 exact vj kD e f b c h a hR h1 d i
theorem x8 (e:2<=n)(d:v.length=n)(a:Wd v)(b:v.getD (n-1) 0≠0):18446744073709551616^(n-1)<=aE v/\aE v<18446744073709551616^n:=by
 have c:=cC a;rw[d] at c
 refine ⟨?_,c⟩;have e1:=aW 18446744073709551616 (l:=v) (k:=n-1) oM;rw[show n-1+1=v.length by omega,yN] at e1
 have f:18446744073709551616^(n-1)*1<=18446744073709551616^(n-1)*v.getD (n-1) 0:=Jx _ oM
 show _<=aq _ v
 omega
theorem wW (d:2<=n)(c:v.length=n)(a:Wd v)(hR:aE u<18446744073709551616^(j+1)*aE v):aE u<18446744073709551616^(j+n+1):=by
 have b:=cC a;rw[c] at b
 have h1:18446744073709551616^(j+1)*aE v<18446744073709551616^(j+1)*18446744073709551616^n:=JL b (JC kD);rw[<-Jw,show j+1+n=j+n+1 by omega] at h1
 omega
theorem B8 {u1:List Nat}(f:2<=n)(k:v.length=n)(a:Wd v)(i:Wd u)(h:Wd u1)(x:j+n<u.length)(c:v.getD (n-1) 0≠0)(hR:aE u<18446744073709551616^(j+1)*aE v)
  (hG:aE u/(18446744073709551616^j*aE v)<=G/\G<=aE u/(18446744073709551616^j*aE v)+1)(d:Above u1 u (j+n+1))(e:aE u1+18446744073709551616^j*(G*aE v)=aE u+18446744073709551616^(j+n+1)*0) :
  aE u1<18446744073709551616^j*aE v/\aE u1+18446744073709551616^j*(G*aE v)=aE u:=by
 obtain ⟨l,p⟩:=x8 f k a c;have o:=jE (b:=18446744073709551616) kD d h i (by rw[d.1];omega) (wW f k a hR);have:=(kE (b:=18446744073709551616) kD f l p hR o e (JU 1) hG).1 rfl;rw[Gb,yK] at e
 exact ⟨this.2.2.1,e⟩
theorem GA {b a W K T c:Nat}(e2:a+T*c=b+W)(f:b+W=K+T)(k:a<T)(i:K<W)(e:W<=T):a=K:=by
 have d:c=1:=by
  rcases Nat.lt_trichotomy c 1 with h|h|h
  ·have:c=0:=by omega
   subst this;omega
  ·exact h
  ·have j:T*2<=T*c:=Jx _ h
   omega
 subst d
 omega
theorem FI {u1 d:List Nat}{c:Nat}(y:2<=n)(B:v.length=n)(i:Wd v)(l:Wd u)(p:Wd u1)(x:Wd d)(M:j+n<u.length)(k:v.getD (n-1) 0≠0)(hR:aE u<18446744073709551616^(j+1)*aE v)
  (hG:aE u/(18446744073709551616^j*aE v)<=G/\G<=aE u/(18446744073709551616^j*aE v)+1)(o:Above u1 u (j+n+1))(a:Above d u (j+n+1))(e:aE u1+18446744073709551616^j*(G*aE v)=aE u+18446744073709551616^(j+n+1)*1)
  (e2:aE d+18446744073709551616^(j+n+1)*c=aE u1+18446744073709551616^j*aE v) :
  aE d<18446744073709551616^j*aE v/\aE d+18446744073709551616^j*((G-1)*aE v)=aE u/\0<G:=by
 obtain ⟨K,C⟩:=x8 y B i k;have h:=wW y B i hR;have L:=jE (b:=18446744073709551616) kD o p l (by rw[o.1];omega) h;have z:=jE (b:=18446744073709551616) kD a x l (by rw[a.1];omega) h;obtain ⟨J,F,D,H⟩:=(kE (b:=18446744073709551616) kD y K C hR L e oM hG).2 rfl
 have f:18446744073709551616^j*aE v<=18446744073709551616^(j+n+1):=by
  have h1:18446744073709551616^j*aE v<=18446744073709551616^j*18446744073709551616^n:=Jx _ (Nat.le_of_lt C);rw[<-Jw] at h1
  have I:(18446744073709551616:Nat)^(j+n)<=18446744073709551616^(j+n+1):=Ju kD oM;exact e6 h1 I
 have hk:aE d=aE u-18446744073709551616^j*((G-1)*aE v):=GA e2 F z D f;exact ⟨by rw[hk];exact D,by rw[hk];exact Nat.sub_add_cancel H,by rw[J];exact Kd _⟩
theorem FG {u1:List Nat}(f:2<=n)(k:v.length=n)(a:Wd v)(i:Wd u)(h:Wd u1)(y:j+n<u.length)(c:v.getD (n-1) 0≠0)(hR:aE u<18446744073709551616^(j+1)*aE v)
  (hG:aE u/(18446744073709551616^j*aE v)<=G/\G<=aE u/(18446744073709551616^j*aE v)+1)(d:Above u1 u (j+n+1))(e:aE u1+18446744073709551616^j*(G*aE v)=aE u+18446744073709551616^(j+n+1)*1):0<G:=by
 obtain ⟨l,p⟩:=x8 f k a c;have o:=jE (b:=18446744073709551616) kD d h i (by rw[d.1];omega) (wW f k a hR);obtain ⟨x,_⟩:=(kE (b:=18446744073709551616) kD f l p hR o e (ey 1) hG).2 rfl;rw[x];exact Kd _
theorem CU (f:n<=u.length)(h:v.length=n)(a:Wd v)(b:Wd u)(hR:aE u<aE v):aE (u.take n)=aE u:=by
 have c:=cC a;rw[h] at c
 have j:aq 18446744073709551616 u<18446744073709551616^(n+0):=Nat.lt_trans hR c;have hz:=(iM 18446744073709551616 (l:=u) (k:=n) (m:=0) oM kD b j).2;have e:=cn 18446744073709551616 (l:=u) (k:=n) f;have d:aq 18446744073709551616 (u.drop n)=0:=ip _ (fun i=>by rw[bL];exact hz _ oM);rw[d,Gb,yK] at e
 exact e.symm
end
theorem vW {q:List Nat}{j Q X V R R':Nat}(c:j<q.length)(h0:q.getD j 0=0)(inv:X=aE q*V+R)(e:R'+18446744073709551616^j*(Q*V)=R):X=aE (q.set j Q)*V+R':=by
 have a:=dx 18446744073709551616 (l:=q) (k:=j) Q c;rw[h0,Gb,yK] at a
 have b:aE (q.set j Q)=aE q+18446744073709551616^j*Q:=a;rw[b,JG,inv,<-e,Ft];omega
theorem FF {X V R q a b s:Nat}(c:V=b*2^s)(i:X=a*2^s)(inv:X=q*V+R)(hR:R<V):q=a/b/\R/2^s=a%b:=by
 have k:=H1 s;have f:0<V:=by omega
 have j:0<b:=by
  rcases zT b with h|h
  ·rw[h,yS] at c;omega
  ·exact h
 have e1:a*2^s=V*q+R:=by rw[<-i,inv,Az]
 obtain ⟨h1,d⟩:=nQ (A:=a) (y:=b) (Q:=q) c e1 hR;have e:a=R/2^s+b*q:=by omega
 constructor
 ·rw[e,JB _ _ j,Bs d,yW]
 ·rw[e,J6,y4 d]
theorem vG {a s:Nat}(c:s<=64)(h:a*2^s<18446744073709551616):a*2^s+2^s<=18446744073709551616:=by
 have e:=xQ c;rw[e] at h ⊢
 have h1:a<2^(64-s):=JY h;have b:(a+1)*2^s<=2^(64-s)*2^s:=yX _ h1;rw[JG,JI] at b
 exact b
theorem xE {x y:List Nat}{s:Nat}(e:Wd x)(h:Wd y)(i:1<=y.length)(b:y.getD (y.length-1) 0≠0)(f:y.length<=x.length):aE x*2^s<18446744073709551616^(x.length-y.length+1)*(aE y*2^s):=by
 have e1:=aW 18446744073709551616 (l:=y) (k:=y.length-1) oM;rw[show y.length-1+1=y.length by omega,yN] at e1
 have j:18446744073709551616^(y.length-1)*1<=18446744073709551616^(y.length-1)*y.getD (y.length-1) 0:=Jx _ oM;have c:18446744073709551616^(y.length-1)<=aE y:=by show _<=aq _ y;omega
 have a:18446744073709551616^(x.length-y.length+1)*18446744073709551616^(y.length-1)<=18446744073709551616^(x.length-y.length+1)*aE y:=Jx _ c;rw[<-Jw,show x.length-y.length+1+(y.length-1)=x.length by omega] at a
 have d:aE x<18446744073709551616^x.length:=cC e;rw[<-Ft];exact JZ (e7 d a) (H1 s)
theorem EL (A:Z9)(c:Nat)(x:List Nat)(m:Nat)(b:x.length=m)(f:Wd x)(a:x.length<=1000000000)(n:Nat)(d:n<=1000000000)(w:World)(h:Hp)(g:G w h)(e:SlO 1 ar 0 h A x):CR 186 #[.slice A m c,nV n] w h (fun v h1=>CM h1 v (x.length-n/64) (fun z=>aE z=aE x/2^n)):=by
 subst b;exact Ha A c x f a n d w h g e
theorem Eb {y z:List Nat}{s:Nat}(a:s<=64)(o:Wd y)(hz:Wd z)(f:aE z=aE y*2^s)(B:1<=y.length)(u:y.getD (y.length-1) 0*2^s<18446744073709551616)(h:y.length<=z.length):aE (z.take y.length)=aE y*2^s:=by
 have b:aE z<18446744073709551616^(y.length+0):=by
  rw[f,yK];have e1:=aW 18446744073709551616 (l:=y) (k:=y.length-1) oM;rw[show y.length-1+1=y.length by omega,yN] at e1
  have h1:=cC (Dg.take o (y.length-1));rw[A2,Ga oM] at h1
  have j:aE y<18446744073709551616^(y.length-1)*(y.getD (y.length-1) 0+1):=by
   show aq _ y<_
   rw[e1,D1,JN];omega
  have x:aE y*2^s<18446744073709551616^(y.length-1)*(y.getD (y.length-1) 0+1)*2^s:=JZ j (H1 s)
  have d:18446744073709551616^(y.length-1)*(y.getD (y.length-1) 0+1)*2^s<=18446744073709551616^y.length:=by
   have p:(18446744073709551616:Nat)^y.length=18446744073709551616^(y.length-1)*18446744073709551616:=by rw[<-B2];congr 1;omega
   rw[p,Ft];refine Jx _ ?_;rw[JG,JI];exact vG a u
  exact e7 x d
 have c:=(iM 18446744073709551616 (l:=z) (k:=y.length) (m:=0) oM kD hz b).2;have e:=cn 18446744073709551616 (l:=z) (k:=y.length) oM;have d:aq 18446744073709551616 (z.drop y.length)=0:=ip _ (fun i=>by rw[bL];exact c _ oM);rw[d,Gb,yK] at e
 rw[<-f];exact e.symm
theorem Ct {y v:List Nat}{s:Nat}(h:Wd y)(hv:Wd v)(a:v.length=y.length)(f:aE v=aE y*2^s)(j:1<=y.length)(d:9223372036854775808<=y.getD (y.length-1) 0*2^s):v.getD (v.length-1) 0≠0:=by
 intro h0;have e1:=aW 18446744073709551616 (l:=v) (k:=v.length-1) oM;rw[show v.length-1+1=v.length by omega,yN,h0,Gb,yK] at e1
 have h1:=cC (Dg.take hv (v.length-1));rw[A2,Ga oM] at h1
 have e2:=aW 18446744073709551616 (l:=y) (k:=y.length-1) oM;rw[show y.length-1+1=y.length by omega,yN] at e2
 have b:18446744073709551616^(y.length-1)*y.getD (y.length-1) 0<=aE y:=by show _<=aq _ y;omega
 have c:18446744073709551616^(y.length-1)*y.getD (y.length-1) 0*2^s<=aE y*2^s:=yX _ b;rw[Ft] at c
 have i:18446744073709551616^(y.length-1)*1<=18446744073709551616^(y.length-1)*(y.getD (y.length-1) 0*2^s):=Jx _ oM
 have e:aE v<18446744073709551616^(y.length-1):=by
  show aq _ v<_
  rw[e1,<-a];exact h1
 omega
theorem Fn (A:Z9)(c:Nat)(x:List Nat)(D:Z9)(d:Nat)(y:List Nat)(hx:Wd x)(hy:Wd y)(hlx:x.length<=1000000000)(hny:2<=y.length)(hxy:y.length<=x.length)(b3:y.getD (y.length-1) 0≠0)(w:World)(h:Hp)(g:G w h)(hA:SlO 1 ar 0 h A x)(hD:SlO 1 ar 0 h D y):CR 151 #[.slice A x.length c,.slice D y.length d] w h (fun v h1=>∃ Aq cq,∃ q:List Nat,∃ Ar cr,∃ r:List Nat,v=.tuple #[.slice Aq q.length cq,.slice Ar r.length cr]/\q.length<=cq/\r.length<=cr/\Wd q/\Wd r/\aE q=aE x/aE y/\aE r=aE x%aE y/\q.length<=x.length/\r.length<=y.length/\SlO 1 ar 0 h1 Aq q/\SlO 1 ar 0 h1 Ar r):=by
 have e:=(((sS g).aS hA).aS hD);refine go Tryz.func151 [(0,qS A x.length c),(1,qS D y.length d)] rfl (ab e aN (a7 (lL e [.c,.v (nV y.length),.c] (a7 (lL e aN (bM 25 ((y.length:Nat)-1) (y.length-1) ?_))))));refine lX 26 D y.length d 1 (y.length-1:Nat) (y.length-1) ((e.f.1).ok oM) (lH 27 (mV (y.getD (y.length-1) 0)) e ((e.f.1).el (y.length-1) oM) ?_);have hyt:=hy.get (y.length-1);refine ak 28 e (DV (y.getD (y.length-1) 0) wM _ _ e.g) (fun w1 h2 e=>lL e ae (a7 (lL e aN (lC 31 e (xe D d y hy oM (64-nb (y.getD (y.length-1) 0)) oM _ _ e.g e.f.1) ?_))));rintro _ w3 h4 e ⟨V,vc,zv,rfl,hvc,cp,hWv,hVv,hFv⟩;replace e:=e.aS hFv;refine lL e ae (lT 33 V zv.length vc 1 (y.length:Nat) y.length ?_);obtain ⟨p,hvl_⟩:∃ p,p=zv.take y.length:=⟨_,rfl⟩;have bq:p.length=y.length:=by rw[hvl_,A2];omega
 have B:Wd p:=by rw[hvl_];exact Dg.take hWv _
 have cx:=(cW (n:=y.getD (y.length-1) 0) oM).2.2;have bl:=tJ (y:=y.getD (y.length-1) 0) oM (hy.get _);have bb:aE p=aE y*2^(64-nb (y.getD (y.length-1) 0)):=by rw[hvl_];exact Eb oM hy hWv hVv oM bl.2 oM
 have M:p.getD (p.length-1) 0≠0:=Ct hy B bq bb oM bl.1;replace e:=e.aS ((e.f.1).take y.length);rw[<-hvl_] at e
 refine lL e ae (a7 (lL e [.c,.v (nV x.length)] (bM 36 ((x.length:Nat)+1) (x.length+1) ?_)));refine lK 37 23 (x.length+1) 1 8 (uV 0) ar 0 e (fun u w6 h7 e=>?_);have hl8:(y2 (x.length+1) 0).length=(x.length+1):=by simp
 refine lL e ae (a7 (lL e ff (lC 41 e (xe A c x hx hlx (64-nb (y.getD (y.length-1) 0)) oM _ _ e.g e.f.r.2.1) ?_)));rintro _ w9 _ e ⟨Uo,uc,zu,rfl,huc,c3,b2,hVu,hFu⟩;replace e:=e.aS hFu;have b0:zu.length=x.length+1:=by omega
 refine Je 42 0 (.tmp 38) (.tmp 41) 176 23 ar 0 Uo zu (x.length+1) zu.length uc (x.length+1) e e.f.1 rfl oM oM (by show ((y2 (x.length+1) 0).flatMap ar).length=_;rw[eJ (sz:=1) (fun _=>rfl)];simp) (fun _ e=>?_);replace e:=e.to [⟨u,23,(zu).flatMap ar⟩] [];refine a7 (lL e [.c,.v (nV x.length),.c] (bM 46 ((x.length:Nat)-(y.length:Nat)) (x.length-y.length) ?_));refine bM 47 ((x.length-y.length:Nat)+1) ((x.length-y.length)+1) (lK 48 23 ((x.length-y.length)+1) 1 8 (uV 0) ar 0 e (fun za _ zD e=>?_));have zt:(y2 ((x.length-y.length)+1) 0).length=((x.length-y.length)+1):=by simp
 refine lL e ae (ag (ab e [.c,.v (nV x.length),.c] (lV 52 (iV (((x.length-y.length+1:Nat):Int)-1)) ?_ (hr:=rS (((x.length:Nat)-(y.length:Nat))) kR ((gz oM oM).trans oM)))));refine lL e ae (lN (bU [(4,qS (sB za) ((x.length-y.length)+1) ((x.length-y.length)+1)),(5,sZ),(6,nV y.length),(7,nV (64-nb (y.getD (y.length-1) 0))),(8,qS V y.length vc),(9,qS (sB u) (x.length+1) (x.length+1)),(10,iV (((x.length-y.length+1:Nat):Int)-1))] ?_));refine kZ ?_;refine bU _ (CG.loop (fun X Γ w_=>∃ (m:Nat)(H:List Nat)(K:List Nat)(C:Hp),X=m/\Γ=[(4,qS (sB za) ((x.length-y.length)+1) ((x.length-y.length)+1)),(5,sZ),(6,nV y.length),(7,nV (64-nb (y.getD (y.length-1) 0))),(8,qS V y.length vc),(9,qS (sB u) (x.length+1) (x.length+1)),(10,iV ((m:Int)-1))]/\SS w h w_ C [⟨za,23,(K).flatMap ar⟩,⟨u,23,(H).flatMap ar⟩] [] [fun C=>SlO 1 ar 0 C Uo zu,fun C=>SlO 1 ar 0 C V p,fun C=>SlO 1 ar 0 C V zv,fun C=>SlO 1 ar 0 C D y,fun C=>SlO 1 ar 0 C A x]/\m<=x.length-y.length+1/\H.length=x.length+1/\Wd H/\K.length=x.length-y.length+1/\Wd K/\aE H<18446744073709551616^m*aE p/\aE zu=aE K*aE p+aE H/\(∀ k,k<m->K.getD k 0=0)) _ ⟨x.length-y.length+1,zu,y2 ((x.length-y.length)+1) 0,zD,rfl,rfl,e.to _ _,nR _,b0,b2,zt,Wd.rep _,(by rw[hVu,bb];exact xE hx hy oM b3 oM),(by show _=aq _ _*_+_;rw[fZ,yS,yW]),fun k _=>gU⟩ ?_);rintro _ _ _ ⟨m,H,K,_,c0,rfl,e,hm,hul,J,hql,hWq,hR,inv,hq0⟩;refine cQ (ab e ae ?_);cases zd:(decide ((0:Int)<=((m:Int)-1:Int)))
 .
  have zl:=oF zd;refine lB 54 zd (ai (CG.exit ?_))
  show CG _ _ _ _ _ _ _ _
  refine aD ?_;have hm0:m=0:=by omega
  obtain ⟨_,e,bw,ds,c7⟩:=e.pub 0;replace e:=(e.to [⟨u,23,(H).flatMap ar⟩] []).aS (SlO.of_flat (sz:=1) (f:=ar) (d:=0) (b:=za) (o:=0) (l:=K) (fun _=>rfl) bw);obtain ⟨_,e,b7,dt,dc⟩:=e.pub 0;replace e:=(e.to [] []).aS (SlO.of_flat (sz:=1) (f:=ar) (d:=0) (b:=u) (o:=0) (l:=H) (fun _=>rfl) b7);refine lL e ff (lT 190 (sB u) (x.length+1) (x.length+1) 1 (y.length:Nat) y.length ?_);refine lL e ae (lC 192 e (EL (sB u) (x.length+1) (H.take y.length) y.length (by rw[A2];omega) (Dg.take J _) (by rw[A2];omega) (64-nb (y.getD (y.length-1) 0)) oM _ _ e.g ((e.f.1).take y.length)) ?_);rintro _ _ _ e ⟨Ar,cr,zr,rfl,hcr,hlr,hWr,hVr,hFr⟩;replace e:=e.aS hFr;refine lL e aN (lN (kX ?_));rw[hm0,J9,JI] at hR
  obtain ⟨hQ,hRm⟩:=FF bb hVu inv hR;rw[CU (v:=p) oM oM B J hR] at hVr
  exact e.ret [] (.tuple #[qS (sB za) ((x.length-y.length)+1) ((x.length-y.length)+1),qS Ar zr.length cr]) (⟨_,_,K,Ar,cr,zr,by rw[hql],by omega,hcr,hWq,hWr,hQ,hVr.trans hRm,by omega,(by have:=List.length_take_le y.length H;omega),e.f.r.1,e.f.1⟩)
 have zl:=oT zd;refine lB 54 zd (au (cK (cQ (kZ (cQ (cR 31 [] mixed e ao ?_))))));have hm1:0<m:=by omega
 have hn2:2<=p.length:=by omega
 have Z:m-1+p.length<H.length:=by omega
 have Y:aE H<18446744073709551616^(m-1+1)*aE p:=by rw[show m-1+1=m by omega];exact hR
 have hle:=EC (n:=p.length) (j:=m-1) hn2 rfl B J Z Y;refine eV 0 57 (qS (sB u) (x.length+1) (x.length+1)) (eV 1 58 (iV ((m:Int)-1)) (eV 2 59 (nV y.length) (nu 3 60 (((m:Int)-1)+(y.length:Nat)) (m-1+p.length) (eX 4 61 (sB u) (x.length+1) (x.length+1) 1 (m-1+p.length:Nat) (m-1+p.length) rfl (eQ 5 62 1 H ar 1 0 (m-1+p.length) (mV ((H).getD (m-1+p.length) 0)) e oM (eV 6 63 (qS (sB u) (x.length+1) (x.length+1)) (eV 7 64 (iV ((m:Int)-1)) (eV 8 65 (nV y.length) (nu 9 66 (((m:Int)-1)+(y.length:Nat)) (m-1+p.length) (nu 10 67 ((m-1+p.length:Nat)-1) (m-1+p.length-1) (eX 11 68 (sB u) (x.length+1) (x.length+1) 1 (m-1+p.length-1:Nat) (m-1+p.length-1) rfl (eQ 12 69 1 H ar 1 0 (m-1+p.length-1) (mV ((H).getD (m-1+p.length-1) 0)) e oM (eV 13 70 (qS (sB u) (x.length+1) (x.length+1)) (eV 14 71 (iV ((m:Int)-1)) (eV 15 72 (nV y.length) (nu 16 73 (((m:Int)-1)+(y.length:Nat)) (m-1+p.length) (nu 17 74 ((m-1+p.length:Nat)-2) (m-1+p.length-2) (eX 18 75 (sB u) (x.length+1) (x.length+1) 1 (m-1+p.length-2:Nat) (m-1+p.length-2) rfl (eQ 19 76 1 H ar 1 0 (m-1+p.length-2) (mV ((H).getD (m-1+p.length-2) 0)) e oM (eV 20 77 (qS V y.length vc) (eV 21 78 (nV y.length) (nu 22 79 ((y.length:Nat)-1) (p.length-1) (eX 23 80 V y.length vc 1 (p.length-1:Nat) (p.length-1) ((e.f.2.1).ok oM) (eH 24 81 (mV (p.getD (p.length-1) 0)) e ((e.f.2.1).el (p.length-1) oM) (eV 25 82 (qS V y.length vc) (eV 26 83 (nV y.length) (nu 27 84 ((y.length:Nat)-2) (p.length-2) (eX 28 85 V y.length vc 1 (p.length-2:Nat) (p.length-2) ((e.f.2.1).ok oM) (eH 29 86 (mV (p.getD (p.length-2) 0)) e ((e.f.2.1).el (p.length-2) oM) (eC 30 87 e (fun _ _ e=>Ea (((H).getD (m-1+p.length) 0)) (((H).getD (m-1+p.length-1) 0)) (((H).getD (m-1+p.length-2) 0)) ((p.getD (p.length-1) 0)) ((p.getD (p.length-2) 0)) (J.get _) (J.get _) (J.get _) (B.get _) (B.get _) hle oM _ _ e.g) ?_))))))))))))))))))))))))))))));rintro _ _ _ _ _ e ⟨g,rfl,hG0⟩;have hG:=vz (n:=p.length) (j:=m-1) hn2 rfl B J Z M Y hG0;have hgb:=hG0.2.2;refine ce e (fun _ zE e=>tV 31 11 (mV g) (tN (bU [(4,qS (sB za) ((x.length-y.length)+1) ((x.length-y.length)+1)),(5,sZ),(6,nV y.length),(7,nV (64-nb (y.getD (y.length-1) 0))),(8,qS V y.length vc),(9,qS (sB u) (x.length+1) (x.length+1)),(10,iV ((m:Int)-1)),(11,mV g)] ?_)));refine ab e aN (ag (ab e aN (be ?_)));refine bU _ (CG.loop (fun X Γ w_=>∃ (i:Nat)(u1:List Nat)(cy:Nat)(bo:Nat)(C:Hp),X=y.length-i/\Γ=[(4,qS (sB za) ((x.length-y.length)+1) ((x.length-y.length)+1)),(5,sZ),(6,nV y.length),(7,nV (64-nb (y.getD (y.length-1) 0))),(8,qS V y.length vc),(9,qS (sB u) (x.length+1) (x.length+1)),(10,iV ((m:Int)-1)),(11,mV g),(88,nV y.length),(89,nV i),(12,mV cy),(13,mV bo)]/\SS w h w_ C [⟨za,23,(K).flatMap ar⟩,⟨u,23,(u1).flatMap ar⟩] [] [fun C=>SlO 1 ar 0 C Uo zu,fun C=>SlO 1 ar 0 C V p,fun C=>SlO 1 ar 0 C V zv,fun C=>SlO 1 ar 0 C D y,fun C=>SlO 1 ar 0 C A x]/\i<=y.length/\u1.length=x.length+1/\Wd u1/\cy<18446744073709551616/\bo<=1/\aq 18446744073709551616 u1+18446744073709551616^(m-1)*(g*aq 18446744073709551616 (p.take i))=aE H+18446744073709551616^(m-1+i)*(cy+bo)/\Above u1 H (m-1+p.length+1)) _ ⟨0,H,0,0,zE,rfl,rfl,e.to _ _,JU _,hul,J,oM,oM,(by show aq _ H+_=aq _ H+_;simp[aq]),Above.refl _ _⟩ ?_);rintro _ _ _ ⟨i,u1,cy,bo,zq,c4,rfl,e,hi,hu1,hW1,hcy,hbo,W,bn⟩;have d0:=hW1.get (m-1+i);have hvk:=B.get i;refine aD ?_;cases ze:(decide ((i:Int)<(y.length:Int)))
 .
  have zm:=oF ze;refine lB 90 ze (ag (dv (CG.exit ?_)))
  show CG _ _ _ _ _ _ _ _
  refine aD ?_;rw[show i=p.length by omega] at W
  have ct:=hW1.get (m-1+p.length);refine lL e ff (bM 132 (((m:Int)-1)+(y.length:Nat)) (m-1+p.length) ?_);refine lL e ff (bM 136 (((m:Int)-1)+(y.length:Nat)) (m-1+p.length) ?_);refine lX 137 (sB u) (x.length+1) (x.length+1) 1 (m-1+p.length:Nat) (m-1+p.length) rfl (lQ 138 1 u1 ar 1 0 (m-1+p.length) (mV ((u1).getD (m-1+p.length) 0)) e oM (lL e aN ?_));obtain ⟨I,zc,cv,c8,dp,b1⟩:=jx ((u1).getD (m-1+p.length) 0) cy bo wM wM oM;refine lV 141 (.tuple #[mV I,mV zc]) ?_ (hr:=d3 kR (b1 _));refine lL e [.c,.v (mV I),.v (mV zc)] (lX 144 (sB u) (x.length+1) (x.length+1) 1 (m-1+p.length:Nat) (m-1+p.length) rfl ?_);refine lW 1 u1 ar 1 (m-1+p.length) I e oM (fun _ e=>?_);have zk:((u1).set (m-1+p.length) I).length=(x.length+1):=by rw[JJ];exact hu1
  replace e:=e.to [⟨za,23,(K).flatMap ar⟩,⟨u,23,((u1).set (m-1+p.length) I).flatMap ar⟩] [];refine lL e ae (ag (aD ?_));have hE:=FA oM W (s:=I) (bo':=zc) oM;have hW4:Wd ((u1).set (m-1+p.length) I):=hW1.set _ oM;have S:=bn.set (x:=I) (show m-1+p.length<m-1+p.length+1 by omega) oM;refine lL e ae ?_;cases zf:((zc:Int) != (0:Int))
  .
   have zn:=aJ zf;refine lB 146 zf (ai (cK (kQ ?_)));have hD_:=B8 hn2 rfl B J hW4 Z M Y hG S (by rw[show zc=0 by omega] at hE;exact hE);have hDw:=hW4;have hDg:=hgb;have hDu:=hD_.1;have hDe:=hD_.2;refine lL e ff (lX 186 (sB za) ((x.length-y.length)+1) ((x.length-y.length)+1) 1 ((m:Int)-1) (m-1) rfl ?_);refine lW 0 K ar 1 (m-1) g e oM (fun _ e=>?_);have zw:((K).set (m-1) g).length=((x.length-y.length)+1):=by rw[JJ];exact hql
   replace e:=e.to [⟨za,23,((K).set (m-1) g).flatMap ar⟩,⟨u,23,((u1).set (m-1+p.length) I).flatMap ar⟩] [];refine lN (kQ (lL e ae (lV 56 (iV (((m-1:Nat):Int)-1)) ?_ (hr:=rS ((((m:Int)-1)-1)) kR ((gz oM oM).trans oM)))));refine lL e ae (lD ?_);intro a_ ka;refine ⟨_,_,?_,⟨m-1,(u1).set (m-1+p.length) I,(K).set (m-1) g,zq,rfl,rfl,e.to _ _,oM,zk,hDw,zw,(hWq.set _ hDg),hDu,(vW oM (hq0 _ oM) inv hDe),(fun k hk=>by rw[bO oM,if_neg oM];exact hq0 k oM)⟩,ka.to _ kR⟩
   omega
  have zn:=aU zf;refine lB 146 zf (au (ab e ae ?_));have hE1:=hE;rw[show zc=1 by omega] at hE1
  have hgp:=FG hn2 rfl B J hW4 Z M Y hG S hE1;refine lV 148 (mV (g-1)) ?_ (hr:=rU (((g:Int)-(1:Int))) kR (gM g 1 oM oM));refine lL e ae (a7 (lL e ae (ag (ab e aN (be ?_)))));refine bU _ (CG.loop (fun X Γ w_=>∃ (z:Nat)(F:List Nat)(O:Nat)(C:Hp),X=y.length-z/\Γ=[(4,qS (sB za) ((x.length-y.length)+1) ((x.length-y.length)+1)),(5,sZ),(6,nV y.length),(7,nV (64-nb (y.getD (y.length-1) 0))),(8,qS V y.length vc),(9,qS (sB u) (x.length+1) (x.length+1)),(10,iV ((m:Int)-1)),(11,mV (g-1)),(149,nV y.length),(150,nV z),(19,mV O)]/\SS w h w_ C [⟨za,23,(K).flatMap ar⟩,⟨u,23,(F).flatMap ar⟩] [] [fun C=>SlO 1 ar 0 C Uo zu,fun C=>SlO 1 ar 0 C V p,fun C=>SlO 1 ar 0 C V zv,fun C=>SlO 1 ar 0 C D y,fun C=>SlO 1 ar 0 C A x]/\z<=y.length/\F.length=x.length+1/\Wd F/\O<=1/\aq 18446744073709551616 F+18446744073709551616^(m-1+z)*O=aq 18446744073709551616 ((u1).set (m-1+p.length) I)+18446744073709551616^(m-1)*aq 18446744073709551616 (p.take z)/\Above F H (m-1+p.length+1)) _ ⟨0,(u1).set (m-1+p.length) I,0,zq,rfl,rfl,e.to _ _,JU _,zk,hW4,oM,(by simp[aq]),S⟩ ?_);rintro _ _ _ ⟨z,F,O,zG,dn,rfl,e,hi2,hu2,hW2,hc2,bf,bm⟩;have b4:=hW2.get (m-1+z);have df:=B.get z;refine aD ?_;cases zg:(decide ((z:Int)<(y.length:Int)))
  .
   have zo:=oF zg;refine lB 151 zg (ag (dv (CG.exit ?_)))
   show CG _ _ _ _ _ _ _ _
   refine kQ (lL e ff (bM 177 (((m:Int)-1)+(y.length:Nat)) (m-1+p.length) ?_));refine lX 178 (sB u) (x.length+1) (x.length+1) 1 (m-1+p.length:Nat) (m-1+p.length) rfl (lQ 179 1 F ar 1 0 (m-1+p.length) (mV ((F).getD (m-1+p.length) 0)) e oM (lL e ae (lV 181 (mV ((((F).getD (m-1+p.length) 0)+O)%18446744073709551616)) ?_ (hr:=rU (((((F).getD (m-1+p.length) 0:Nat):Int)+(O:Int))) kR (xz ((F).getD (m-1+p.length) 0) O)))));refine lX 182 (sB u) (x.length+1) (x.length+1) 1 (m-1+p.length:Nat) (m-1+p.length) rfl (lW 1 F ar 1 (m-1+p.length) ((((F).getD (m-1+p.length) 0)+O)%18446744073709551616:Nat) e oM (fun _ e=>?_));have zx:((F).set (m-1+p.length) ((((F).getD (m-1+p.length) 0)+O)%18446744073709551616:Nat)).length=(x.length+1):=by rw[JJ];exact hu2
   replace e:=e.to [⟨za,23,(K).flatMap ar⟩,⟨u,23,((F).set (m-1+p.length) ((((F).getD (m-1+p.length) 0)+O)%18446744073709551616:Nat)).flatMap ar⟩] [];refine lN (kQ ?_);have b9:z=p.length:=by omega
   rw[b9] at bf
   have b4:=hW2.get (m-1+p.length);have hE3:=Fp (s:=(F.getD (m-1+p.length) 0+O)%18446744073709551616) (c':=(F.getD (m-1+p.length) 0+O)/18446744073709551616) oM bf (J3 _ _);have hDw:Wd ((F).set (m-1+p.length) ((((F).getD (m-1+p.length) 0)+O)%18446744073709551616:Nat)):=hW2.set _ (y5 _ kD);obtain ⟨hDu,hDe,hDp⟩:=FI hn2 rfl B J hW4 hDw Z M Y hG S (bm.set oM oM) hE1 hE3;have hDg:g-1<18446744073709551616:=by omega
   refine lL e ff (lX 186 (sB za) ((x.length-y.length)+1) ((x.length-y.length)+1) 1 ((m:Int)-1) (m-1) rfl ?_);refine lW 0 K ar 1 (m-1) (g-1) e oM (fun _ e=>?_);have zA:((K).set (m-1) (g-1)).length=((x.length-y.length)+1):=by rw[JJ];exact hql
   replace e:=e.to [⟨za,23,((K).set (m-1) (g-1)).flatMap ar⟩,⟨u,23,((F).set (m-1+p.length) ((((F).getD (m-1+p.length) 0)+O)%18446744073709551616:Nat)).flatMap ar⟩] [];refine lN (kQ (lL e ae (lV 56 (iV (((m-1:Nat):Int)-1)) ?_ (hr:=rS ((((m:Int)-1)-1)) kR ((gz oM oM).trans oM)))));refine lL e ae (lD ?_);intro a_ ka;refine ⟨_,_,?_,⟨m-1,(F).set (m-1+p.length) ((((F).getD (m-1+p.length) 0)+O)%18446744073709551616:Nat),(K).set (m-1) (g-1),zG,rfl,rfl,e.to _ _,oM,zx,hDw,zA,(hWq.set _ hDg),hDu,(vW oM (hq0 _ oM) inv hDe),(fun k hk=>by rw[bO oM,if_neg oM];exact hq0 k oM)⟩,ka.to _ kR⟩
   omega
  have zo:=oT zg;refine lB 151 zg (ag (bT (cK (cQ (kZ (ab e aN (lN (cR 19 [] mixed e ao ?_))))))));refine eV 0 154 (qS (sB u) (x.length+1) (x.length+1)) (eV 1 155 (iV ((m:Int)-1)) (eV 2 156 (nV z) (nu 3 157 (((m:Int)-1)+(z:Nat)) (m-1+z) (eV 4 158 (qS (sB u) (x.length+1) (x.length+1)) (eV 5 159 (iV ((m:Int)-1)) (eV 6 160 (nV z) (nu 7 161 (((m:Int)-1)+(z:Nat)) (m-1+z) (eX 8 162 (sB u) (x.length+1) (x.length+1) 1 (m-1+z:Nat) (m-1+z) rfl (eQ 9 163 1 F ar 1 0 (m-1+z) (mV ((F).getD (m-1+z) 0)) e oM (eV 10 164 (qS V y.length vc) (eV 11 165 (nV z) (eX 12 166 V y.length vc 1 (z:Nat) z ((e.f.2.1).ok oM) (eH 13 167 (mV (p.getD z 0)) e ((e.f.2.1).el z oM) (eV 14 168 (mV O) ?_))))))))))))));obtain ⟨Q,zj,c5,cz,c9,b6⟩:=eh ((F).getD (m-1+z) 0) (p.getD z 0) O wM wM oM;refine eV 15 169 (.tuple #[mV Q,mV zj]) ?_ (hv:=fun _=>d3 kR (b6 _));refine eV 16 153 (.tuple #[mV Q,mV zj]) (eV 17 170 (mV Q) (eV 18 171 (mV zj) (ce e (fun _ zH e=>tX 19 172 (sB u) (x.length+1) (x.length+1) 1 (m-1+z:Nat) (m-1+z) rfl (tW 20 1 F ar 1 (m-1+z) Q e oM (fun _ e=>?_))))));have zB:((F).set (m-1+z) Q).length=(x.length+1):=by rw[JJ];exact hu2
  replace e:=e.to [⟨za,23,(K).flatMap ar⟩,⟨u,23,((F).set (m-1+z) Q).flatMap ar⟩] [];refine tV 21 19 (mV zj) (tN (kQ (bM 173 ((z:Nat)+1) (z+1) ?_)));refine lL e ae (lD ?_);intro a_ ka;refine ⟨_,_,?_,⟨z+1,(F).set (m-1+z) Q,zj,zH,rfl,rfl,e.to _ _,oM,zB,(hW2.set _ oM),oM,(B3 oM bf oM),(bm.set oM oM)⟩,ka.to _ kR⟩
  omega
 have zm:=oT ze;refine lB 90 ze (ag (bT (cK (cQ (kZ (ab e aN (a7 (lL e ff (lX 96 V y.length vc 1 (i:Nat) i ((e.f.2.1).ok oM) ?_)))))))));refine lH 97 (mV (p.getD i 0)) e ((e.f.2.1).el i oM) (lC 98 e (mi g (p.getD i 0) wM wM _ _ e.g) ?_);rintro _ _ zI e ⟨U,zs,rfl,c6,d1,c1,db⟩;have cb:=iE (a:=g) (b:=(p.getD i 0)) wM wM;refine lL e [.c,.v (mV U),.v (mV zs),.c,.c] (a7 (lL e aN ?_));obtain ⟨s99,zb,cf,cl,ck,bt⟩:=eh zs cy 0 wM wM oM;refine lV 104 (.tuple #[mV s99,mV zb]) ?_ (hr:=d3 kR (bt _));refine lL e [.c,.v (mV s99),.v (mV zb),.c,.c] (a7 (lL e aN (lV 109 (mV (U+zb)) ?_ (hr:=rU (((U:Int)+(zb:Int))) kR (ji U zb oM)))));refine lL e ae (lN (kQ (lL e ff (bM 114 (((m:Int)-1)+(i:Nat)) (m-1+i) ?_))));refine lL e ff (bM 118 (((m:Int)-1)+(i:Nat)) (m-1+i) ?_);refine lX 119 (sB u) (x.length+1) (x.length+1) 1 (m-1+i:Nat) (m-1+i) rfl (lQ 120 1 u1 ar 1 0 (m-1+i) (mV ((u1).getD (m-1+i) 0)) e oM (lL e aN ?_));obtain ⟨L,zi,cm,cd,ch,bv⟩:=jx ((u1).getD (m-1+i) 0) s99 bo wM wM oM;refine lV 123 (.tuple #[mV L,mV zi]) ?_ (hr:=d3 kR (bv _));refine lL e [.c,.v (mV L),.v (mV zi)] (lX 126 (sB u) (x.length+1) (x.length+1) 1 (m-1+i:Nat) (m-1+i) rfl ?_);refine lW 1 u1 ar 1 (m-1+i) L e oM (fun _ e=>?_);have zp:((u1).set (m-1+i) L).length=(x.length+1):=by rw[JJ];exact hu1
 replace e:=e.to [⟨za,23,(K).flatMap ar⟩,⟨u,23,((u1).set (m-1+i) L).flatMap ar⟩] [];refine lL e ae (lN (bU [(4,qS (sB za) ((x.length-y.length)+1) ((x.length-y.length)+1)),(5,sZ),(6,nV y.length),(7,nV (64-nb (y.getD (y.length-1) 0))),(8,qS V y.length vc),(9,qS (sB u) (x.length+1) (x.length+1)),(10,iV ((m:Int)-1)),(11,mV g),(88,nV y.length),(89,nV i),(12,mV (U+zb)),(13,mV zi)] ?_));refine kQ (bM 127 ((i:Nat)+1) (i+1) ?_);refine lL e ae (lD ?_);intro a_ ka;refine ⟨_,_,?_,⟨i+1,(u1).set (m-1+i) L,(U+zb),zi,zI,rfl,rfl,e.to _ _,oM,zp,(hW1.set _ oM),oM,oM,(B4 (t:=s99) oM W oM oM),(bn.set oM oM)⟩,ka.to _ kR⟩
 omega
end Go.Proofs.YteipbelehcpooaaGreatDoor
