/- Laws of this claim, part 2. -/
import Derived.Test.YtmdaaeffcfheoaaGreatDoorQg0
set_option maxRecDepth 100000
set_option maxHeartbeats 4000000
namespace Go.Proofs.YtmdaaeffcfheoaaGreatDoor
open _root_.Array renaming getElem?_append_left -> x0, getElem?_append_right -> yP, getElem?_eq_none -> eq, getElem?_replicate -> yQ, getElem?_setIfInBounds_ne -> i2, getElem?_setIfInBounds_self_of_lt -> yT, replicate -> vl
open Bool renaming and_eq_true -> i3, true_and -> Gx
open Int renaming fdiv -> Gv, toNat_natCast -> yN
open List renaming all_eq_true -> oi, drop_eq_getElem_cons -> Ai, drop_eq_nil_of_le -> yC, drop_zero -> yu, eq_nil_of_length_eq_zero -> yD, flatMap_cons -> ys, getD_eq_getElem?_getD -> zh, getElem?_append_left -> yl, getElem?_append_right -> yo, getElem?_drop -> yn, getElem?_eq_none -> ws, getElem?_map -> Ga, getElem?_range -> Gb, length_append -> yA, length_drop -> zy, length_set -> Gq, length_take -> y9, mem_map -> g1, mem_of_mem_eraseIdx -> yX, mem_range -> o0, mem_singleton -> ul, replicate -> yJ, set_set -> GC, take_length -> yw, take_of_length_le -> Ft, take_zero -> Gz
open Nat renaming add_comm -> yz, add_mul -> zF, add_mul_div_left -> A9, add_mul_mod_self_left -> Gu, add_sub_cancel -> F7, add_zero -> yt, div_add_mod -> F5, div_div_eq_div_mul -> D0, div_eq_of_lt -> z1, div_eq_of_lt_le -> Gh, div_le_self -> zY, div_lt_iff_lt_mul -> y7, div_mul_le_self -> Gf, eq_zero_or_pos -> yU, gcd_comm -> GB, le_refl -> ey, le_trans -> ez, lt_div_mul_add -> Gg, lt_of_le_of_lt -> zX, lt_of_lt_of_le -> e4, lt_of_mul_lt_mul_right -> Gi, lt_or_ge -> ep, min_eq_left -> Ag, min_eq_right -> F9, mod_add_div -> Gp, mod_eq_of_lt -> yL, mod_lt -> yM, mul_add -> z8, mul_add_div -> Gt, mul_assoc -> Ab, mul_comm -> y8, mul_div_mul_right -> Gl, mul_le_mul -> Gm, mul_le_mul_left -> A5, mul_le_mul_right -> yG, mul_lt_mul_of_pos_left -> F6, mul_lt_mul_of_pos_right -> Gj, mul_mod_mul_right -> Gn, mul_one -> F8, mul_succ -> Gd, mul_zero -> Ah, one_mul -> F4, pos_of_ne_zero -> Ge, pow_add -> A4, pow_le_pow_right -> Aw, pow_mul -> A7, pow_pos -> Bs, pow_succ -> z6, pow_zero -> Gy, succ_pos -> GD, two_pow_add_eq_or_of_lt -> Gc, two_pow_pos -> As, zero_add -> yF, zero_le -> GA, zero_mod -> Gs, zero_mul -> yB
open Go.RowKit
theorem iJ {b n j R v d G f:Nat}(F:2<=b)(I:2<=n)(p:b^(n-1)<=v)(c:v<b^n)(hR:R<b^(j+1)*v)(C:d<b^(j+n+1))(e:d+b^j*(G*v)=R+b^(j+n+1)*f)(B:f<=1)
    (H:R/(b^j*v)<=G/\G<=R/(b^j*v)+1) :
    (f=0->G=R/(b^j*v)/\d=R-b^j*(G*v)/\d<b^j*v/\b^j*(G*v)<=R)/\(f=1->G=R/(b^j*v)+1/\d+b^j*v=(R-b^j*((G-1)*v))+b^(j+n+1)/\R-b^j*((G-1)*v)<b^j*v/\b^j*((G-1)*v)<=R):=by
  have u:0<b^j:=Bs oM;have i:0<v:=e4 (Bs oM) p;have y:0<b^j*v:=Nat.mul_pos u i;have o:∀ g,b^j*(g*v)=g*(b^j*v):=fun g=>by rw[<-Ab,y8 (b^j) g,Ab]
  have l:=F5 R (b^j*v);have D:=yM R y;rw[y8] at l
  rw[o] at e
  have x:b^j*v<b^(j+n+1):=by
    have h1:b^j*v<b^j*b^n:=F6 c u;rw[<-A4] at h1
    have J:b^(j+n)<=b^(j+n+1):=Aw oM oM
    omega
  have z:R<b^(j+n+1):=by
    have h1:b^(j+1)*v<b^(j+1)*b^n:=F6 c (Bs oM);rw[<-A4,show j+1+n=j+n+1 by omega] at h1
    omega
  generalize b^(j+n+1)=T at *
  generalize hWe:b^j*v=W at *
  generalize hQ:R/W=Q at *
  refine ⟨fun h=>?_,fun h=>?_⟩
  . subst h
    rw[o]
    have a:G=Q:=by
      rcases ep Q G with h1|h1
      . exfalso
        have:G=Q+1:=by omega
        subst this;rw[zF] at e
        omega
      . omega
    subst a
    omega
  . subst h
    have a:G=Q+1:=by
      rcases ep Q G with h1|h1
      . omega
      . exfalso
        have:G=Q:=by omega
        subst this
        omega
    subst a;rw[o,F7];rw[zF] at e
    omega
theorem rC {b n j G:Nat}{u v:List Nat}(L:2<=b)(O:2<=n)(J:v.length=n)(h:Dg b v)(p:Dg b u)(Q:j+n<u.length)(B:v.getD (n-1) 0≠0)(hR:ah b u<b^(j+1)*ah b v)
  (K:G*(v.getD (n-1) 0*b+v.getD (n-2) 0)<=u.getD (j+n) 0*b*b+u.getD (j+n-1) 0*b+u.getD (j+n-2) 0)
  (x:G+1=b\/u.getD (j+n) 0*b*b+u.getD (j+n-1) 0*b+u.getD (j+n-2) 0<(G+1)*(v.getD (n-1) 0*b+v.getD (n-2) 0))(y:G<b) :
  ah b u/(b^j*ah b v)<=G/\G<=ah b u/(b^j*ah b v)+1:=by
 have c:=bJ h;rw[J] at c
 have D:0<b^(j+n-2):=Bs oM
 have o:ah b u<b^(j+n-2+3):=by
  have h1:b^(j+1)*ah b v<b^(j+1)*b^n:=F6 c (Bs oM);rw[<-A4,show j+1+n=j+n-2+3 by omega] at h1
  omega
 have e:∀ {l:List Nat} {k:Nat},k+3<=l.length->ah b ((l.drop k).take 3)=l.getD (k+2) 0*b*b+l.getD (k+1) 0*b+l.getD k 0:=fun {l k} hk=>by
  rw[ay,ay,ay,br,br,br]
  simp[ah,z6]
  rw[y8 b (l[k+1]?.getD 0),y8 (b*b) (l[k+2]?.getD 0),Ab]
  omega
 have two:∀ {l:List Nat} {k:Nat},k+2<=l.length->ah b ((l.drop k).take 2)=l.getD (k+1) 0*b+l.getD k 0:=fun {l k} hk=>by
  rw[ay,ay,br,br]
  simp[ah]
  rw[y8 b (l[k+1]?.getD 0)]
  omega
 have H:=(fP b (l:=u) (k:=j+n-2) (m:=3) oM oM p o).1;have I:=(fP b (l:=v) (k:=n-2) (m:=2) oM oM h (by rw[show n-2+2=n by omega];exact c)).1;rw[e oM,show j+n-2+2=j+n by omega,show j+n-2+1=j+n-1 by omega] at H
 rw[two oM,show n-2+1=n-1 by omega] at I
 have a:b^(j+n-2)=b^j*b^(n-2):=by rw[<-A4];congr 1;omega
 have z:0<b^(n-2):=Bs oM;have f:=F5 (ah b u) (b^(j+n-2));have C:=yM (ah b u) D;have i:=F5 (ah b v) (b^(n-2));have F:=yM (ah b v) z;rw[H] at f
 rw[I] at i
 have d:b^(n-1)<=ah b v:=by
  have:=aR b (l:=v) (k:=n-1) oM;rw[show n-1+1=v.length by omega,yw] at this
  have M:b^(n-1)*1<=b^(n-1)*v.getD (n-1) 0:=A5 _ oM
  omega
 generalize hU:u.getD (j+n) 0*b*b+u.getD (j+n-1) 0*b+u.getD (j+n-2) 0=U at *
 generalize hV:v.getD (n-1) 0*b+v.getD (n-2) 0=V at *
 generalize ah b u%b^(j+n-2)=mu at *
 generalize ah b v%b^(n-2)=mv at *
 refine ve (b:=b) (P:=b^(j+n-2)) (U:=U) (V:=V) D ?_ ?_ ?_ ?_ ?_ ?_ K x y
 ·rw[y8];omega
 ·rw[zF,F4,y8 U];omega
 ·rw[a,y8 V,Ab]
  exact A5 _ oM
 ·rw[a,y8 (V+1),Ab,z8,F8]
  exact F6 oM (Bs oM)
 ·rw[a,y8 b (b^j*b^(n-2)),Ab]
  refine A5 _ ?_;rw[<-z6,show (n-2).succ=n-1 by omega];exact d
 ·rw[z6] at hR
  rw[<-Ab,y8 b (b^j)];exact hR
def aG (s:ByteArray)(i:Nat):Nat:=(s.data.toList.getD i 0).toNat
theorem bX (s:ByteArray)(i:Nat):aG s i<256:=UInt8.toNat_lt _
def wv (s:ByteArray):Nat:=aG s 0+aG s 1*256+aG s 2*65536+aG s 3*16777216+aG s 4*4294967296+aG s 5*1099511627776+aG s 6*281474976710656+aG s 7*72057594037927936
theorem Ad (s:ByteArray):wv s<18446744073709551616:=by
 have h0:=bX s 0;have h1:=bX s 1;have d:=bX s 2;have c:=bX s 3;have b:=bX s 4;have e:=bX s 5;have a:=bX s 6;have f:=bX s 7
 unfold wv;omega
section ops
variable {P:Program}{Γ:bO}{o:Oper}
theorem dG {tx:TypeId}{x i:Operand}{k:IntKind}{s:ByteArray}{n:Nat}{j:Int}(c:o.op=.index tx x i)(e:ev Γ x=.string s)(hi:ev Γ i=.int k j)(d:P.underlying tx=some .string)(f:j=(n:Int))(b:n<s.size)(w:World) :
  (execOp (ev Γ) o).run P w=.ok (.value (.int .u8 (aG s n:Nat))) w:=by
 unfold execOp;simp only[c];rw[e,hi,f]
 have h0:(0:Int)<=(n:Int):=Int.natCast_nonneg n;have a:n<s.data.size:=b
 have h1:s[n]?=some (s.data.toList.getD n 0):=by
  simp[b,a,ByteArray.getElem_eq_getElem_data]
 simp[Instr.index,asIntOf,run_underlying d,h1,aG,Result.andThen]
theorem mZ {tx:TypeId}{x i:Operand}{k:IntKind}{s:ByteArray}{n:Nat}{j:Int}(a:o.op=.slice tx x (some i) none none)(c:ev Γ x=.string s)(hi:ev Γ i=.int k j)(b:P.underlying tx=some .string)(d:j=(n:Int))(e:n<=s.size)(w:World) :
  (execOp (ev Γ) o).run P w=.ok (.value (.string (s.extract n s.size))) w:=by
 unfold execOp;simp only[a]
 subst d;have h0:(n:Int)<=(s.size:Int):=by omega
 simp[Instr.sliceAt,c,hi,Instr.slice,run_underlying b,Instr.sliceBounds,Instr.sliceBound,asIntOf,Result.andThen,h0,e]
theorem fy {t u:TypeId}{x y:Operand}{ky:IntKind}{a n:Nat}(c:o.op=.binOp .shl t x y u)(f:ev Γ x=.int .u64 (a:Int))(d:ev Γ y=.int ky (n:Int))(w:World) :
    (execOp (ev Γ) o).run P w=.ok (.value (.int .u64 ((a*2^n%18446744073709551616:Nat):Int))) w:=by
  unfold execOp;simp only[c];rw[f,d]
  have hz:¬((n:Int)<0):=by omega
  have e:IntKind.wrap .u64 ((a:Int)*2^(min n IntKind.u64.bits))=((a*2^n%18446744073709551616:Nat):Int):=by
    have e1:(a:Int)*2^(min n IntKind.u64.bits)=((a*2^(min n 64):Nat):Int):=by
      rw[show IntKind.u64.bits=64 from rfl];push_cast;rfl
    rw[e1,su]
    rcases ep n 64 with h|h
    . rw[Ag oM]
    . rw[F9 h]
      have e2:(2:Nat)^n=18446744073709551616*2^(n-64):=by
        rw[show (18446744073709551616:Nat)=2^64 from rfl,<-A4];congr 1;omega
      have b:a*2^n%18446744073709551616=0:=by rw[e2,<-Ab,y8 a,Ab,Nat.mul_mod_right]
      rw[b,show (2:Nat)^64=18446744073709551616 from rfl,Nat.mul_mod_left]
  simp[binOp,eqGuard,Op.shift,Result.andThen,hz,e]
theorem fA {t u:TypeId}{x y:Operand}{ky:IntKind}{a n:Nat}(b:o.op=.binOp .shr t x y u)(f:ev Γ x=.int .u64 (a:Int))(c:ev Γ y=.int ky (n:Int))(ha:a<18446744073709551616)(w:World) :
  (execOp (ev Γ) o).run P w=.ok (.value (.int .u64 ((a/2^n:Nat):Int))) w:=by
 unfold execOp;simp only[b];rw[f,c]
 have hz:¬((n:Int)<0):=by omega
 have d:(0:Int)<=2^(min n IntKind.u64.bits):=Int.pow_nonneg kD
 have e:(a:Int)/2^(min n IntKind.u64.bits)=((a/2^n:Nat):Int):=by
  have e1:(a:Int)/2^(min n IntKind.u64.bits)=((a/2^(min n 64):Nat):Int):=by
   rw[show IntKind.u64.bits=64 from rfl];push_cast;rfl
  rw[e1]
  rcases ep n 64 with h|h
  ·rw[Ag oM]
  ·have h1:(2:Nat)^64<=2^n:=Aw oM h
   rw[F9 h,z1 oM,z1 oM]
 simp[binOp,eqGuard,Op.shift,Result.andThen,hz,Int.fdiv_eq_ediv_of_nonneg _ d,e]
theorem sv {t u:TypeId}{x y:Operand}{a:Nat}{m:Int}(p:Nat)(c:o.op=.binOp .and t x y u)(f:ev Γ x=.int .u64 (a:Int))(d:ev Γ y=.int .u64 m)(ha:a<18446744073709551616)(b:p<=64/\m=((2^p-1:Nat):Int))(w:World) :
  (execOp (ev Γ) o).run P w=.ok (.value (.int .u64 ((a%2^p:Nat):Int))) w:=by
 unfold execOp;simp only[c];rw[f,d,b.2]
 have h:(2^p-1:Nat)<2^64:=by
  have:(2:Nat)^p<=2^64:=Aw oM b.1;have:=As p
  omega
 have e:bits .and .u64 (a:Int) ((2^p-1:Nat):Int)=((a%2^p:Nat):Int):=by
  unfold bits
  have h1:(BitVec.ofInt 64 (a:Int) &&& BitVec.ofInt 64 ((2^p-1:Nat):Int)).toNat=a%2^p:=by
   rw[BitVec.toNat_and,<-Nat.and_two_pow_sub_one_eq_mod]
   congr 1
   ·simp[BitVec.toNat_ofInt];omega
   ·rw[BitVec.toNat_ofInt,<-Int.natCast_emod,yN,yL h]
  show IntKind.wrap .u64 (((BitVec.ofInt 64 (a:Int) &&& BitVec.ofInt 64 ((2^p-1:Nat):Int)).toNat:Nat):Int)=_
  rw[h1,su];have:a%2^p<=a:=Nat.mod_le _ _;rw[yL oM]
 simp[binOp,eqGuard,Result.andThen,intBits_and,e]
end ops
theorem ti (a b:Nat):IntKind.wrap .u64 ((a:Int)+(b:Int))=(((a+b)%18446744073709551616:Nat):Int):=by rw[IntKind.wrap_u64];omega
theorem An (a b:Nat)(h:b<=18446744073709551616):IntKind.wrap .u64 ((a:Int)-(b:Int))=(((a+(18446744073709551616-b))%18446744073709551616:Nat):Int):=by rw[IntKind.wrap_u64];omega
theorem jM (a b:Nat):IntKind.wrap .u64 ((a:Int)*(b:Int))=((a*b%18446744073709551616:Nat):Int):=by
 rw[<-Int.natCast_mul,su]
theorem jZ (a b:Nat)(h:a*b<18446744073709551616):IntKind.wrap .u64 ((a:Int)*(b:Int))=((a*b:Nat):Int):=by rw[jM,yL h]
theorem ff (a b:Nat)(h:b<=a)(ha:a<18446744073709551616):IntKind.wrap .u64 ((a:Int)-(b:Int))=((a-b:Nat):Int):=by rw[IntKind.wrap_u64];omega
theorem gF (a b:Nat)(h:a+b<18446744073709551616):IntKind.wrap .u64 ((a:Int)+(b:Int))=((a+b:Nat):Int):=by rw[IntKind.wrap_u64];omega
theorem ip {s:ByteArray}(h:s=⟨#[]⟩):(s.toList == (⟨#[]⟩:ByteArray).toList)=true:=by rw[h,Lib.toList_data];rfl
theorem ku {s:ByteArray}(h:s.size≠0):s.data.toList≠[]:=fun e=>h (by
 have:s.data.size=s.data.toList.length:=by simp
 show s.data.size=0
 rw[this,e];rfl)
theorem gn {s:ByteArray}(h:s.size≠0):(s.toList == (⟨#[]⟩:ByteArray).toList)=false:=by
 rw[Lib.toList_data,Lib.toList_data];have:=ku h;cases e:s.data.toList with
 | nil=>exact absurd e this
 | cons a l=>rfl
theorem DD {s:ByteArray}(h:s=⟨#[]⟩):(!(s.toList == (⟨#[]⟩:ByteArray).toList))=false:=by rw[ip h];rfl
theorem Dm {s:ByteArray}(h:s.size≠0):(!(s.toList == (⟨#[]⟩:ByteArray).toList))=true:=by rw[gn h];rfl
theorem nB (s:ByteArray)(k i:Nat):aG (s.extract k s.size) i=aG s (k+i):=by
 unfold aG
 rw[Lib.extract_to_end]
 simp only[zh,yn]
def oJ (s t:ByteArray):Bool:=s.toList == t.toList
def nZ (s t:ByteArray):Bool:=!(s.toList == t.toList)
theorem oW {s t:ByteArray}(h:oJ s t=true):s=t:=by
 have e:=eq_of_beq (show (s.toList == t.toList)=true from h);rw[Lib.toList_data,Lib.toList_data] at e
 cases s;cases t;congr 1;exact Array.toList_inj.1 e
theorem oy {s t:ByteArray}(h:oJ s t=false):¬s=t:=fun e=>by
 subst e;have:oJ s s=true:=beq_self_eq_true _;rw[this] at h;cases h
theorem vH {s t:ByteArray}(h:nZ s t=true):¬s=t:=oy (by unfold nZ at h;unfold oJ;cases e:(s.toList == t.toList)<;>rw[e] at h<;>first|rfl|cases h)
theorem vo {s t:ByteArray}(h:nZ s t=false):s=t:=oW (by unfold nZ at h;unfold oJ;cases e:(s.toList == t.toList)<;>rw[e] at h<;>first|rfl|cases h)
def wds (n:Nat):List Nat:=gZ 18446744073709551616 n
def ax (l:List Nat):Nat:=ah 18446744073709551616 l
def Wd (l:List Nat):Prop:=Dg 18446744073709551616 l
theorem aI (n:Nat):ax (wds n)=n:=jv kD n
theorem Wd.wds (n:Nat):Wd (wds n):=rJ kD n
theorem Wd.get {l:List Nat}(h:Wd l)(k:Nat):l.getD k 0<18446744073709551616:=Dg.getD h kD k
theorem wM {p : Prop} (h : p := by first | omega | exact Wd.get (by assumption) _ | exact Ad _) : p := h
theorem ll (n k:Nat):(wds n).getD k 0<18446744073709551616:=(Wd.wds n).get k
def b8 (x:Nat):List UInt8:=(List.range 8).map (fun k=>UInt8.ofNat (x/256^k))
theorem iS (x:Nat):(b8 x).length=8:=rfl
theorem Cn (m:Nat):b8 (m%18446744073709551616)=b8 m:=by
 unfold b8
 apply List.map_congr_left
 intro k hk;have a:k<8:=o0.1 hk
 apply UInt8.toNat_inj.1
 show (m%18446744073709551616/256^k)%256=(m/256^k)%256
 have:k=0\/k=1\/k=2\/k=3\/k=4\/k=5\/k=6\/k=7:=by omega
 rcases this with rfl|rfl|rfl|rfl|rfl|rfl|rfl|rfl<;>omega
theorem sQ:∀ (f m:Nat),m<=f->wb f m=(gZ 18446744073709551616 m).flatMap b8
  | 0,m,h=>by
    have:m=0:=by omega
    subst this;rfl
  | f+1,m,h=>by
    unfold wb
    split
    . rename_i h0;subst h0;rfl
    . rw[dt kD oM,ys,Cn,sQ f _ oM];rfl
theorem vB (n:Nat):gZ 18446744073709551616 (n/18446744073709551616)=(gZ 18446744073709551616 n).drop 1:=by
 rcases yU n with h|h
 ·subst h;rfl
 ·conv=>rhs;rw[dt kD h]
  rfl
theorem lp (n:Nat):(hi n).data.toList=((wds n).drop 1).flatMap b8:=by
 unfold hi wds
 rw[sQ _ _ oM,vB]
theorem kM (l:List Nat):(l.flatMap b8).length=8*l.length:=by
 induction l with
 | nil=>rfl
 | cons x l ih=>rw[ys,yA,ih,iS,List.length_cons];omega
theorem fZ (n:Nat):(hi n).size=8*((wds n).length-1):=by
 have:(hi n).size=(hi n).data.toList.length:=by rw[Array.length_toList];rfl
 rw[this,lp,kM,zy]
theorem kU:∀ (l:List Nat) (j k:Nat),j<l.length->k<8->(l.flatMap b8).getD (8*j+k) 0=(b8 (l.getD j 0)).getD k 0
  | [],j,k,hj,_=>by simp at hj
  | x::l,0,k,hj,hk=>by
    rw[ys]
    simp only[zh]
    rw[yl (by rw[iS];omega)]
    simp
  | x::l,j+1,k,hj,hk=>by
    rw[ys,List.getD_cons_succ,<-kU l j k (by simpa using hj) hk]
    simp only[zh]
    rw[yo (by rw[iS];omega),iS]
    congr 2
    omega
theorem Cc (x k:Nat)(hk:k<8):((b8 x).getD k 0).toNat=x/256^k%256:=by
 unfold b8
 simp only[zh,Ga,Gb hk]
 rfl
theorem AQ (n j k:Nat)(a:j+1<(wds n).length)(hk:k<8):aG (hi n) (8*j+k)=(wds n).getD (j+1) 0/256^k%256:=by
 unfold aG
 rw[lp,kU _ _ _ (by rw[zy];omega) hk,Cc _ _ hk,br,yz 1 j]
theorem Ed {s:ByteArray}{x:Nat}(a:x<18446744073709551616)(h:∀ k,k<8->aG s k=x/256^k%256):wv s=x:=by
 unfold wv
 rw[h 0 oM,h 1 oM,h 2 oM,h 3 oM,h 4 oM,h 5 oM,h 6 oM,h 7 oM]
 simp only[Nat.reducePow,Nat.div_one]
 omega
theorem gW (n j:Nat)(a:j+1<(wds n).length):wv ((hi n).extract (8*j) (hi n).size)=(wds n).getD (j+1) 0 :=
 Ed (ll n _) (fun k hk=>by rw[nB,AQ n j k a hk])
theorem dB {n:Nat}(h:n<18446744073709551616):hi n=⟨#[]⟩:=ke h
theorem bU {n:Nat}(h:18446744073709551616<=n):2<=(wds n).length:=by
 rcases ep (wds n).length 2 with h1|h1
 ·have a:=gz (b:=18446744073709551616) kD n
  have:(18446744073709551616:Nat)^(gZ 18446744073709551616 n).length<=18446744073709551616^1:=Aw kD (by show (wds n).length<=1;omega)
  omega
 ·exact h1
theorem dS {n:Nat}(h:18446744073709551616<=n):(hi n).size≠0:=by rw[fZ];have:=bU h;omega
theorem iQ {n:Nat}(h0:0<n)(h:n<18446744073709551616):wds n=[n]:=by
 unfold wds
 rw[dt kD h0,yL h,z1 h,iw]
theorem jt:wds 0=[]:=rfl
theorem jl {n:Nat}:0<(wds n).length↔0<n:=p7 kD
theorem o5 (n:Nat):lo n=(((wds n).getD 0 0:Nat):Int):=by
 unfold lo wds
 rcases yU n with h|h
 ·subst h;rfl
 ·rw[dt kD h];rfl
theorem lr {l:List Nat}(h:Wd l):wds (ax l)=l.take (tl l l.length):=Bh kD h
theorem jY {n:Nat}(h:0<n):(wds n).getD ((wds n).length-1) 0≠0:=nE kD n h
theorem Dk {n:Nat}{l:List UInt8}(h:l=((wds n).drop 1).flatMap b8):(⟨l.toArray⟩:ByteArray)=hi n:=by
 have:(hi n).data.toList=l:=by rw[lp,h]
 cases e:hi n with
 | mk d=>rw[e] at this;rw[<-this]
theorem ct (n:Nat):n<18446744073709551616^(wds n).length:=gz kD n
theorem bV {a b:Nat}(h:a<=b):(wds a).length<=(wds b).length:=ew kD (zX h (ct b))
theorem fM {a b:Nat}(k:Nat)(h:a<2^k):a ||| b*2^k=a+b*2^k:=by
 have:=Gc h b;rw[Nat.or_comm,y8 b,<-this];omega
def bG (a b:Nat):Int:=if a<b then -1 else if b<a then 1 else 0
theorem cW {a b:Nat}(h:a<b):bG a b = -1:=by simp[bG,h]
theorem dW {a b:Nat}(h:b<a):bG a b=1:=by unfold bG;rw[if_neg oM,if_pos h]
theorem f4 {a b:Nat}(h:a=b):bG a b=0:=by unfold bG;rw[if_neg oM,if_neg oM]
theorem eU {a b:Nat}(h:b<=a):bG a b=0\/bG a b=1:=by
 unfold bG
 rw[if_neg oM]
 split<;>simp
theorem eL {a b:Nat}(h:(wds a).length<(wds b).length):a<b:=by
 rcases ep a b with hl|hl
 ·exact hl
 ·have:=bV hl;omega
theorem kd {a b k:Nat}(d:(wds a).length=(wds b).length)(hk:k<(wds a).length)(h:(wds a).drop (k+1)=(wds b).drop (k+1))(c:(wds a).getD k 0<(wds b).getD k 0):a<b:=by
 have e:=bE 18446744073709551616 (l:=wds a) (k:=k+1) oM;have p:=bE 18446744073709551616 (l:=wds b) (k:=k+1) oM;have e1:ah 18446744073709551616 (wds a)=a:=aI a;have e2:ah 18446744073709551616 (wds b)=b:=aI b;have o:=aR 18446744073709551616 (l:=wds a) (k:=k) hk;have j:=aR 18446744073709551616 (l:=wds b) (k:=k) oM;have f:=bJ (Dg.take (Wd.wds a) k);rw[y9,Ag oM] at f
 have i:18446744073709551616^k*(wds a).getD k 0+18446744073709551616^k<=18446744073709551616^k*(wds b).getD k 0:=by
  rw[<-Gd];exact A5 _ c
 rw[h] at e
 omega
theorem jq {a b k:Nat}(c:(wds a).length=(wds b).length)(hk:k<(wds a).length)(d:(wds a).drop (k+1)=(wds b).drop (k+1))(e:(wds a).getD k 0≠(wds b).getD k 0):bG ((wds a).getD k 0) ((wds b).getD k 0)=bG a b:=by
 rcases ep ((wds a).getD k 0) ((wds b).getD k 0) with h|h
 ·rw[cW h,cW (kd c hk d h)]
 ·rw[dW oM,dW (kd c.symm oM d.symm oM)]
theorem dY {l m:List Nat}{k:Nat}(c:l.length=m.length)(hk:k<l.length)(b:l.drop (k+1)=m.drop (k+1))(a:l.getD k 0=m.getD k 0):l.drop k=m.drop k:=by
 rw[Ai hk,Ai (l:=m) (i:=k) oM,b]
 simp[hk,show k<m.length by omega] at a
 rw[a]
theorem pj (n:Nat):n%18446744073709551616=(wds n).getD 0 0:=Int.ofNat.inj (o5 n)
theorem lg {a b:Nat}(c:(wds a).length=(wds b).length)(d:(wds a).drop 1=(wds b).drop 1):bG (a%18446744073709551616) (b%18446744073709551616)=bG a b:=by
  rw[pj,pj]
  by_cases h:(wds a).getD 0 0=(wds b).getD 0 0
  . have:a=b:=by
      rcases yU (wds a).length with h0|h0
      . have e1:=aI a
        have e2:=aI b;have e:wds a=[]:=yD h0;have f:wds b=[]:=yD oM;rw[e] at e1
        rw[f] at e2
        exact e1.symm.trans e2
      . have:=dY c h0 d h
        simp only[yu] at this
        rw[<-aI a,<-aI b,this]
    rw[h,f4 rfl,f4 this]
  . refine jq c ?_ d h
    rcases yU (wds a).length with h0|h0
    . exfalso;apply h
      have e1:wds a=[]:=yD h0;have e2:wds b=[]:=yD oM;rw[e1,e2]
    . exact h0
theorem qe {n:Nat}(h:(wds n).length<=1):n<18446744073709551616:=by
 rcases ep n 18446744073709551616 with h1|h1
 ·exact h1
 ·have:=bU h1;omega
theorem mN {a b:Nat}(c:(wds a).length-1=(wds b).length-1)(d:(wds a).drop 1=(wds b).drop 1):bG (a%18446744073709551616) (b%18446744073709551616)=bG a b:=by
 rcases ep 1 (wds a).length with h|h
 ·exact lg oM d
 ·rw[yL (qe h),yL (qe oM)]
theorem sF {n:Nat}(h:0<n):nb n=64*((wds n).length-1)+nb ((wds n).getD ((wds n).length-1) 0):=by
 have b:=jl.2 h;have e:=aR 18446744073709551616 (l:=wds n) (k:=(wds n).length-1) oM;rw[show (wds n).length-1+1=(wds n).length by omega,yw] at e
 have e1:ah 18446744073709551616 (wds n)=n:=aI n;have a:=bJ (Dg.take (Wd.wds n) ((wds n).length-1));rw[y9,Ag oM] at a
 have e2:(18446744073709551616:Nat)^((wds n).length-1)=2^(64*((wds n).length-1)):=by rw[A7]
 rw[e1,e2] at e
 rw[e2] at a
 have:=t7 a (Ge (jY h));rw[<-e] at this
 exact this
theorem gJ {n:Nat}(h:n<18446744073709551616):Value.agg #[.int .u64 (n:Int),.string ⟨#[]⟩]=nv n:=by unfold nv;rw[jH h,ke h]
theorem di {n:Nat}:(wds n).length<=1↔n<18446744073709551616:=by
 constructor
 ·intro h
  rcases ep n 18446744073709551616 with h1|h1
  ·exact h1
  ·have:=bU h1;omega
 ·intro h
  rcases yU n with h0|h0
  ·subst h0;simp[jt]
  ·rw[iQ h0 h];simp
structure HalfQ (Y y1 y0 u u1 q r:Nat):Prop where
  e:q*y1+r=u
  lt:u*4294967296+u1<(q+1)*Y
  qb:q<=4294967297
theorem ju {Y y1 y0 u u1:Nat}(c:Y=y1*4294967296+y0)(h1:u1<4294967296)(i:2147483648<=y1)(h0:y0<4294967296)(f:u<Y):HalfQ Y y1 y0 u u1 (u/y1) (u-u/y1*y1):=by
 have e:u/y1*y1<=u:=Gf u y1
 have d:u<(u/y1+1)*y1:=by
  have:=Gg (a:=u) (b:=y1) oM;rw[zF,F4];exact this
 refine ⟨by omega,?_,?_⟩
 ·have:(u/y1+1)*Y=(u/y1+1)*y1*4294967296+(u/y1+1)*y0:=by rw[c,z8,Ab]
  omega
 ·have h:u/y1<4294967298:=by
   rw[y7 oM]
   omega
  omega
theorem kB {u y1:Nat}(h:0<y1):u-u/y1*y1<y1:=by
 have:=Gg (a:=u) (b:=y1) h;have c:u/y1*y1<=u:=Gf u y1
 omega
theorem HalfQ.dec {Y y1 y0 u u1 q r:Nat}(h:HalfQ Y y1 y0 u u1 q r)(b:Y=y1*4294967296+y0)(h1:u1<4294967296)(c:u<Y)(a:4294967296<=q\/4294967296*r+u1<q*y0):HalfQ Y y1 y0 u u1 (q-1) (r+y1):=by
 have d:0<q:=by
  rcases a with h2|h2
  ·omega
  ·rcases yU q with h3|h3
   ·subst h3;omega
   ·exact h3
 obtain ⟨p,rfl⟩:∃ p,q=p+1:=⟨q-1,by omega⟩;have e:=h.e;rw[zF,F4] at e
 refine ⟨by rw[F7];omega,?_,by have:=h.qb;omega⟩;rw[F7]
 rcases a with h2|h2
 ·have:4294967296*Y<=(p+1)*Y:=yG _ h2
  omega
 ·have:(p+1)*Y=(p+1)*y1*4294967296+(p+1)*y0:=by rw[b,z8,Ab]
  rw[zF p 1 y1,F4] at this
  omega
theorem HalfQ.fin {Y y1 y0 u u1 q r:Nat}(h:HalfQ Y y1 y0 u u1 q r)(c:Y=y1*4294967296+y0)(f:¬4294967296*r+u1<q*y0):q=(u*4294967296+u1)/Y/\(u*4294967296+u1)-q*Y=(u*4294967296+u1)%Y/\q*Y<=u*4294967296+u1:=by
 have a:q*Y<=u*4294967296+u1:=by
  have:q*Y=q*y1*4294967296+q*y0:=by rw[c,z8,Ab]
  have:=h.e
  omega
 have b:q=(u*4294967296+u1)/Y:=(Gh a h.lt).symm;have d:=F5 (u*4294967296+u1) Y;rw[<-b,y8] at d
 exact ⟨b,by omega,a⟩
theorem HalfQ.brk {Y y1 y0 u u1 q r:Nat}(h:HalfQ Y y1 y0 u u1 q r)(a:Y=y1*4294967296+y0)(h0:y0<4294967296)(hr:4294967296<=r)(b:q<=4294967296):q=(u*4294967296+u1)/Y/\(u*4294967296+u1)-q*Y=(u*4294967296+u1)%Y/\q*Y<=u*4294967296+u1 :=
 h.fin a (by
  have:q*y0<=4294967296*y0:=yG _ b
  omega)
theorem kW {A y s Y Q R:Nat}(a:Y=y*2^s)(d:A*2^s=Y*Q+R)(f:R<Y):A=y*Q+R/2^s/\R/2^s<y:=by
 have c:0<2^s:=As s;have e:y*Q*2^s=Y*Q:=by rw[a];ac_rfl
 have h:y*Q<=A:=by
  have:y*Q*2^s<=A*2^s:=by rw[d,e];omega
  exact Nat.le_of_mul_le_mul_right this c
 have b:R=(A-y*Q)*2^s:=by rw[Nat.sub_mul,d,e];omega
 rw[b,Nat.mul_div_cancel _ c];refine ⟨by omega,?_⟩;have:(A-y*Q)*2^s<y*2^s:=by rw[<-b,<-a];exact f
 exact Gi this
theorem qE {A y s a d Y u1 h l f x R:Nat}(b:Y=y*2^s)(o:A*2^s=a*18446744073709551616+d)(e:d=u1*4294967296+h)(p:0<y)
  (e1:l=(a*4294967296+u1)/Y)(e2:f=(a*4294967296+u1)%Y)(u:x=(f*4294967296+h)/Y)(i:R=(f*4294967296+h)%Y) :
  A=y*(l*4294967296+x)+R/2^s/\R/2^s<y:=by
 have c:0<Y:=by rw[b];exact Nat.mul_pos p (As s)
 have z:=F5 (a*4294967296+u1) Y;have B:=F5 (f*4294967296+h) Y;rw[<-e1,<-e2] at z
 rw[<-u,<-i] at B
 have j:R<Y:=by rw[i];exact yM _ c
 refine kW b ?_ j;rw[o,e,z8,<-Ab]
 clear e1 e2 u i o e j b c p
 omega
theorem p8 {y:Nat}(h0:0<y)(h:y<18446744073709551616):9223372036854775808<=y*2^(64-nb y)/\y*2^(64-nb y)<18446744073709551616:=by
 obtain ⟨a,b,e⟩:=bR h0;have c:nb y<=64:=jy (k:=64) h
 have e1:(2:Nat)^(nb y-1)*2^(64-nb y)=9223372036854775808:=by
  rw[<-A4,show nb y-1+(64-nb y)=63 by omega]
 have e2:(2:Nat)^nb y*2^(64-nb y)=18446744073709551616:=by
  rw[<-A4,show nb y+(64-nb y)=64 by omega]
 have f:=yG (2^(64-nb y)) a;have d:=Gj b (As (64-nb y))
 omega
theorem xo {hi lo s:Nat}(c:s<=64)(a:lo<18446744073709551616):(hi*18446744073709551616+lo)*2^s=(hi*2^s+lo/2^(64-s))*18446744073709551616+lo*2^s%18446744073709551616/\lo/2^(64-s)<2^s:=by
 have e:(18446744073709551616:Nat)=2^(64-s)*2^s:=by rw[<-A4,show 64-s+s=64 by omega]
 have h1:lo*2^s/18446744073709551616=lo/2^(64-s):=by
  rw[e,Gl _ _ (As s)]
 have b:=F5 (lo*2^s) 18446744073709551616;rw[h1] at b
 constructor
 ·rw[zF,zF]
  have:hi*18446744073709551616*2^s=hi*2^s*18446744073709551616:=by ac_rfl
  omega
 ·rw[y7 (As _),y8,<-e];exact a
theorem kF {a b q Y r:Nat}(h:q*Y<=a*4294967296+b)(hr:a*4294967296+b-q*Y=r)(c:r<18446744073709551616):((a*4294967296%18446744073709551616+b)%18446744073709551616+(18446744073709551616-q*Y%18446744073709551616))%18446744073709551616=r:=by
 generalize q*Y=m at *
 omega
theorem x5 {a b:Nat}(ha:a<4294967296)(c:b<4294967296):a*b<18446744073709551616:=by
 have:a*b<=4294967295*4294967295:=Gm oM oM
 omega
theorem dh {a b c:Nat}(h:c<a*b):0<a:=by
 rcases yU a with h0|h0
 ·rw[h0,yB] at h;omega
 ·exact h0
theorem np {u u1 Y:Nat}(h:u<Y)(h1:u1<4294967296):(u*4294967296+u1)/Y<4294967296:=by
 rw[y7 oM];have:(u+1)*4294967296<=Y*4294967296:=yG _ h
 omega
theorem tQ {p:Nat}(h:p<=64):(18446744073709551616:Nat)=2^(64-p)*2^p:=by rw[<-A4,show 64-p+p=64 by omega]
theorem tO {x p o:Nat}(d:p<=64)(f:x<18446744073709551616)(c:o<2^p) :
  o ||| (x*2^p%18446744073709551616)=o+x*2^p%18446744073709551616/\o+x*2^p%18446744073709551616<18446744073709551616/\x*2^p%18446744073709551616+18446744073709551616*(x/2^(64-p))=x*2^p/\x/2^(64-p)<2^p:=by
 have e:=tQ d
 have b:x*2^p%18446744073709551616=x%2^(64-p)*2^p:=by
  conv=>lhs;rw[e]
  exact Gn _ _ _
 have a:x%2^(64-p)<2^(64-p):=yM _ (As _);refine ⟨by rw[b];exact fM p c,?_,?_,?_⟩
 ·rw[b]
  have:(x%2^(64-p)+1)*2^p<=2^(64-p)*2^p:=yG _ a;rw[<-e,zF] at this
  omega
 ·have h1:x*2^p/18446744073709551616=x/2^(64-p):=by
   conv=>lhs;rw[e]
   exact Gl _ _ (As _)
  rw[<-h1];exact Gp _ _
 ·rw[y7 (As _),y8,<-e];exact f
theorem sa {l w:List Nat}{i q p x o a c:Nat}(u:i+q+1<l.length)(hv:ax l=2^p*(18446744073709551616^q*ah 18446744073709551616 (w.take i)))(h0:l.getD (i+q+1) 0=0)(j:a+18446744073709551616*c=x*2^p)(h:x=w.getD i 0)(e:o=l.getD (i+q) 0) :
  ax ((l.set (i+q) (o+a)).set (i+q+1) c)=2^p*(18446744073709551616^q*ah 18446744073709551616 (w.take (i+1))):=by
 have d:=cj 18446744073709551616 (l:=l) (k:=i+q) (o+a) oM;have b:=cj 18446744073709551616 (l:=l.set (i+q) (o+a)) (k:=i+q+1) c (by rw[Gq];omega);rw[bv oM,if_neg oM,h0] at b
 rw[<-e] at d
 have f:2^p*(18446744073709551616^q*ah 18446744073709551616 (w.take (i+1)))=ax l+18446744073709551616^(i+q)*(x*2^p):=by
  rw[ay,hv,<-h,z8,z8,A4]
  congr 1
  ac_rfl
 rw[f,<-j];rw[z6] at b
 show ah 18446744073709551616 _=ah 18446744073709551616 l+_
 simp only[z8,<-Ab] at d b ⊢
 omega
theorem uQ (n:Nat):(2:Nat)^n=18446744073709551616^(n/64)*2^(n%64):=by
 have:n=64*(n/64)+n%64:=by omega
 conv=>lhs;rw[this,A4,A7]
theorem mI {x y p:Nat}(f:p<=64)(h:x<18446744073709551616) :
  (x/2^p) ||| (y*2^(64-p)%18446744073709551616)=x/2^p+y*2^(64-p)%18446744073709551616/\x/2^p+y*2^(64-p)%18446744073709551616<18446744073709551616/\2^p*(x/2^p+y*2^(64-p)%18446744073709551616)+x%2^p=x+18446744073709551616*(y%2^p):=by
 have e:=tQ f;have c:(18446744073709551616:Nat)=2^p*2^(64-p):=by rw[y8];exact e
 have a:y*2^(64-p)%18446744073709551616=y%2^p*2^(64-p):=by
  conv=>lhs;rw[c]
  exact Gn _ _ _
 have d:x/2^p<2^(64-p):=by rw[y7 (As _),<-e];exact h
 have b:y%2^p<2^p:=yM _ (As _);refine ⟨by rw[a];exact fM (64-p) d,?_,?_⟩
 ·rw[a]
  have:(y%2^p+1)*2^(64-p)<=2^p*2^(64-p):=yG _ b;rw[<-c,zF] at this
  omega
 ·rw[a,z8]
  have h1:=F5 x (2^p);have i:2^p*(y%2^p*2^(64-p))=18446744073709551616*(y%2^p):=by rw[c];ac_rfl
  omega
theorem nw {l W:List Nat}{i p d a:Nat}(c:i<l.length)(inv:2^p*ah 18446744073709551616 l+a=ah 18446744073709551616 (W.take i)+18446744073709551616^i*(W.getD i 0%2^p))(h0:l.getD i 0=0)(f:2^p*d+W.getD i 0%2^p=W.getD i 0+18446744073709551616*(W.getD (i+1) 0%2^p)) :
  2^p*ah 18446744073709551616 (l.set i d)+a=ah 18446744073709551616 (W.take (i+1))+18446744073709551616^(i+1)*(W.getD (i+1) 0%2^p):=by
 have b:=cj 18446744073709551616 (l:=l) (k:=i) d c;rw[h0] at b
 rw[ay,z6];have e1:18446744073709551616^i*(2^p*d+W.getD i 0%2^p)=18446744073709551616^i*(W.getD i 0+18446744073709551616*(W.getD (i+1) 0%2^p)):=by rw[f]
 have e2:ah 18446744073709551616 (l.set i d)=ah 18446744073709551616 l+18446744073709551616^i*d:=by omega
 rw[e2,z8];have e:2^p*(18446744073709551616^i*d)=18446744073709551616^i*(2^p*d):=by ac_rfl
 rw[e]
 simp only[z8,<-Ab] at e1 ⊢
 simp only[Ab] at e1 inv ⊢
 omega
theorem vr {l W:List Nat}{p m:Nat}(a:W.length<=m)(inv:2^p*ah 18446744073709551616 l+W.getD 0 0%2^p=ah 18446744073709551616 (W.take m)+18446744073709551616^m*(W.getD m 0%2^p)):ax l=ax W/2^p:=by
 rw[Ft a] at inv
 have h0:W.getD m 0=0:=by simp[ws a]
 rw[h0,Gs,Ah,yt] at inv
 have b:=As p;have c:=yM (W.getD 0 0) b
 show ah _ l=ah _ W/_
 rw[<-inv,Gt b,z1 c,yt]
theorem kK {w:List Nat}(b:Wd w){q:Nat}(a:q<=w.length):ax (w.drop q)=ax w/18446744073709551616^q:=by
 have e:=bE 18446744073709551616 a;have h1:=bJ (Dg.take b q);rw[y9,Ag a] at h1
 show ah _ _=ah _ w/_
 rw[e,A9 _ _ (Bs kD),z1 h1,yF]
def kp (x:Nat):List Value:=[.int .u8 (x:Nat)]
theorem oV {b:Nat}(a:0<b){l:List Nat}(h:Dg b l)(j:Nat):l.getD j 0=ah b l/b^j%b:=by
 rcases ep j l.length with hj|hj
 ·have h1:=bE b (l:=l) (k:=j) oM
  have e:=d5 b (l:=l) (k:=j) hj;have c:=bJ (Dg.take h j);rw[y9,Ag oM] at c
  have d:0<b^j:=Bs a;rw[h1,A9 _ _ d,z1 c,yF,e,Gu,yL (h.getD a j)]
 ·rw[bP hj,z1,Gs]
  exact e4 (bJ h) (Aw a hj)
theorem tk {b:Nat}{l:List Nat}{k P:Nat}(hk:k<l.length)(c:0<b)(h:ah b l<b^k*P):l.getD k 0<P:=by
 have h1:=bE b (l:=l) (k:=k) oM;have d:=d5 b (l:=l) (k:=k) hk;have e:0<b^k:=Bs c;refine Nat.lt_of_mul_lt_mul_left (a:=b^k) ?_;have f:b^k*l.getD k 0<=b^k*ah b (l.drop k):=A5 _ (by rw[d];omega)
 omega
theorem n8 (k:Nat):(256:Nat)^k=18446744073709551616^(k/8)*2^(8*(k%8)):=by
 have:k=8*(k/8)+k%8:=by omega
 conv=>lhs;rw[this,A4,A7]
 rw[A7 2 8]
theorem ny {l:List Nat}(a:Wd l)(k:Nat):l.getD (k/8) 0/2^(8*(k%8))%256=ax l/256^k%256:=by
 rw[oV kD a (k/8),n8,<-D0]
 show _=ah 18446744073709551616 l/_/_%256
 generalize ah 18446744073709551616 l/18446744073709551616^(k/8)=y
 have:k%8=0\/k%8=1\/k%8=2\/k%8=3\/k%8=4\/k%8=5\/k%8=6\/k%8=7:=by omega
 rcases this with h|h|h|h|h|h|h|h<;>rw[h]<;>omega
theorem sR (n k:Nat):(wds n).getD (k/8) 0/2^(8*(k%8))%256=n/256^k%256:=by
 rw[ny (Wd.wds n),aI]
theorem uK {b k:Nat}(a:b<256):b*2^(8*(k%8))<18446744073709551616:=by
 have:k%8=0\/k%8=1\/k%8=2\/k%8=3\/k%8=4\/k%8=5\/k%8=6\/k%8=7:=by omega
 rcases this with h|h|h|h|h|h|h|h<;>rw[h]<;>omega
theorem qK {a b k:Nat}(ha:a<2^(8*(k%8)))(c:b<256):a+b*2^(8*(k%8))<18446744073709551616:=by
 have:k%8=0\/k%8=1\/k%8=2\/k%8=3\/k%8=4\/k%8=5\/k%8=6\/k%8=7:=by omega
 rcases this with h|h|h|h|h|h|h|h<;>rw[h] at ha ⊢ <;> omega
theorem pI {l:List Nat}{n k x:Nat}(hk:k/8<l.length)(inv:ax l=n%256^k)(c:x=n/256^k%256) :
  (l.getD (k/8) 0 ||| x*2^(8*(k%8))%18446744073709551616)=l.getD (k/8) 0+x*2^(8*(k%8))/\l.getD (k/8) 0+x*2^(8*(k%8))<18446744073709551616 /\
  ax (l.set (k/8) (l.getD (k/8) 0+x*2^(8*(k%8))))=n%256^(k+1):=by
 have f:x<256:=by rw[c];exact yM _ oM
 have a:ax l<256^k:=by rw[inv];exact yM _ (Bs oM)
 have d:l.getD (k/8) 0<2^(8*(k%8)):=tk (b:=18446744073709551616) hk kD (by rw[<-n8];exact a);refine ⟨?_,qK d f,?_⟩
 ·rw[yL (uK f)];exact fM _ d
 ·have e:=cj 18446744073709551616 (l:=l) (k:=k/8) (l.getD (k/8) 0+x*2^(8*(k%8))) hk
  rw[s8,<-c,<-inv]
  show ah _ _=ah _ l+_
  have e2:256^k*x=18446744073709551616^(k/8)*(x*2^(8*(k%8))):=by rw[n8 k];ac_rfl
  rw[z8] at e
  rw[e2]
  omega
theorem r8 (n:Nat):n<256^((nb n+7)/8):=by
 have h:=Em n;have e:(256:Nat)^((nb n+7)/8)=2^(8*((nb n+7)/8)):=by rw[A7]
 rw[e];exact e4 h (Aw oM oM)
theorem jK (n:Nat):nb n<=64*(wds n).length:=by
 apply jy
 have:=ct n
 rwa [show (18446744073709551616:Nat)=2^64 by rfl,<-A7] at this
theorem jW (n:Nat):(wds n).length=(nb n+63)/64:=by
 rcases yU n with h|h
 ·subst h;rfl
 ·have h1:=sF h
  have a:=jY h;have b:=ll n ((wds n).length-1);have d:=jl.2 h
  generalize (wds n).getD ((wds n).length-1) 0=t at *
  have e:=(bR (Ge a)).2.2;have c:nb t<=64:=jy (k:=64) b
  omega
def eF (x:Nat):List Value:=[.int .u32 (x:Nat)]
abbrev S3 (A:Z9)(l:List Nat):Hp->Prop:=fun h_=>SlO 1 eF 0 h_ A l
theorem kP:∀ f n:Nat,m8 f n=mM 4294967296 f n
  | 0,_=>rfl
  | f+1,n=>by
    unfold m8 mM
    split
    . rfl
    . rw[kP f]
theorem xv (n:Nat):lim n=gZ 4294967296 n:=kP n n
def Ld (l:List Nat):Prop:=Dg 4294967296 l
theorem Ld.lim (n:Nat):Ld (lim n):=fun x a=>iN n x a
theorem Ld.get {l:List Nat}(h:Ld l)(k:Nat):l.getD k 0<4294967296:=Dg.getD h kD k
theorem Ld.set {l:List Nat}(h:Ld l)(k:Nat){x:Nat}(a:x<4294967296):Ld (l.set k x):=Dg.set h k a
theorem Ld.rep (n:Nat):Ld (yJ n 0):=Dg.rep kD
theorem nC (n:Nat):ah 4294967296 (lim n)=n:=by rw[<-iL];exact eA n
theorem sN {l:List Nat}(h:Ld l){n:Nat}(e:ah 4294967296 l=n):lim n=l.take (tl l l.length):=by
 rw[<-e,<-iL];exact r7 h
theorem oh {l:List Nat}(h:Ld l){n:Nat}(e:ah 4294967296 l=n):(lim n).length=tl l l.length:=by
 rw[sN h e,y9];have:=gA l l.length;omega
theorem gU (n:Nat):n<4294967296^(lim n).length:=by rw[xv];exact gz kD n
theorem ft {a b:Nat}(h:a<=b):(lim a).length<=(lim b).length:=fF (zX h (gU b))
theorem mX {a b k:Nat}(h:a<=b)(c:(lim b).length<=k):(lim a).length<=k:=ez (ft h) c
theorem pQ (n:Nat):(lim n).length<=2*(wds n).length:=by
 refine fF ?_;have:=ct n
 rwa [show (18446744073709551616:Nat)=4294967296^2 by rfl,<-A7] at this
theorem xk (n:Nat):(wds n).length<=(lim n).length:=by
 refine ew kD ?_;have:=gU n;exact e4 this (Nat.pow_le_pow_left kD _)
theorem e7 {a b:Nat}(h:(lim a).length<(lim b).length):a<b:=by
 rcases ep a b with hl|hl
 ·exact hl
 ·have:=ft hl;omega
theorem xK {a b:Nat}(h:lim a=lim b):a=b:=by rw[<-eA a,<-eA b,h]
theorem fv {a b k:Nat}(e:(lim a).length=(lim b).length)(hk:k<(lim a).length)(i:(lim a).drop (k+1)=(lim b).drop (k+1))(c:(lim a).getD k 0<(lim b).getD k 0):a<b:=by
 have d:=bE 4294967296 (l:=lim a) (k:=k+1) oM;have f:=bE 4294967296 (l:=lim b) (k:=k+1) oM;rw[nC] at d f
 rw[i] at d
 have p:=aR 4294967296 (l:=lim a) (k:=k) hk;have o:=aR 4294967296 (l:=lim b) (k:=k) oM;have h:=bJ (Dg.take (Ld.lim a) k);rw[y9,Ag oM] at h
 have j:4294967296^k*(lim a).getD k 0+4294967296^k<=4294967296^k*(lim b).getD k 0:=by
  rw[<-Gd];exact A5 _ c
 omega
def RN (h:Hp)(v:Value)(n:Nat):Prop:=EN 1 eF 0 h v (lim n)
def RI (h:Hp)(v:Value)(z:Int):Prop:=∃ A c,v=.agg #[.bool (aw z),.slice A (lim (ab z)).length c]/\(lim (ab z)).length<=c/\SlO 1 eF 0 h A (lim (ab z))
def RP (h:Hp)(v:Value)(z:Int)(n:Nat):Prop:=∃ A c B d,v=.agg #[.bool (aw z),.slice A (lim (ab z)).length c,.slice B (lim n).length d]/\(lim (ab z)).length<=c/\(lim n).length<=d/\SlO 1 eF 0 h A (lim (ab z))/\SlO 1 eF 0 h B (lim n)
def RQ (h:Hp)(v:Value)(q:Rat):Prop:=RP h v q.num q.den
theorem RP.gw {h a:Hp}{v:Value}{z:Int}{n:Nat}(r:RP h v z n)(u:Gw h a):RP a v z n:=by
 obtain ⟨A,c,B,d,h1,e,i,b,f⟩:=r;exact ⟨A,c,B,d,h1,e,i,b.gw u,f.gw u⟩
theorem RQ.gw {h a:Hp}{v:Value}{q:Rat}(r:RQ h v q)(u:Gw h a):RQ a v q:=RP.gw r u
theorem RN.trim {h:Hp}{A:Z9}{l:List Nat}{n m a:Nat}(b:Ld l)(e:ah 4294967296 l=n)(c:l.length=m)(d:m<=a)(s:SlO 1 eF 0 h A l):RN h (.slice A (tl l m) a) n:=by
 subst c;have e1:=oh b e;have:=gA l l.length;refine ⟨A,a,by rw[e1],by omega,?_⟩;rw[sN b e];exact s.take _
theorem oa {h:Hp}{p b:Bool}{n a:Nat}{A:Z9}(c:b=(p && decide (0<n)))(e:(lim n).length<=a)(d:SlO 1 eF 0 h A (lim n)):RI h (.agg #[.bool b,.slice A (lim n).length a]) (bT p n):=by
 subst c;refine ⟨A,a,?_,?_,?_⟩
 ·rw[iA,dP]
 ·rw[dP];exact e
 ·rw[dP];exact d
theorem xB {l:List Nat}{m:Nat}(h:0<m)(h0:l.getD (m-1) 0=0):tl l m=tl l (m-1):=by
 obtain ⟨k,rfl⟩:∃ k,m=k+1:=⟨m-1,by omega⟩;rw[jh,if_pos (by simpa using h0)];rfl
theorem BH {r x:Nat}(a:x<4294967296):r*4294967296 ||| x=r*4294967296+x:=by
 have:=Gc (i:=32) (b:=x) oM r;rw[y8];exact this.symm
theorem re {r x d:Nat}(a:0<d)(hr:r<d)(b:x<4294967296)(c:d<4294967296) :
  (r*4294967296+x)/d%4294967296=(r*4294967296+x)/d/\r*4294967296+x=d*((r*4294967296+x)/d)+(r*4294967296+x)%d/\(r*4294967296+x)%d<d:=by
 refine ⟨yL ?_,(F5 _ _).symm,yM _ a⟩;rw[y7 a];have h1:(r+1)*4294967296<=d*4294967296:=yG _ hr;rw[y8]
 omega
theorem tw {b:Nat}{l z:List Nat}{m d r a q X:Nat}(i:0<m)(f:m-1<z.length)(h0:z.getD (m-1) 0=0)(inv:X=d*ah b z+(b^m*r+ah b (l.take m)))(e:r*b+l.getD (m-1) 0=d*q+a) :
  X=d*ah b (z.set (m-1) q)+(b^(m-1)*a+ah b (l.take (m-1))):=by
 obtain ⟨k,rfl⟩:∃ k,m=k+1:=⟨m-1,by omega⟩;rw[F7] at *
 have h1:=cj b q f;rw[h0,Ah,yt] at h1
 have e2:=congrArg (b^k * ·) e
 simp only[z8] at e2
 rw[inv,h1,ay,z6,z8];have h:b^k*(r*b)=b^k*b*r:=by rw[y8 r b,Ab]
 have c:b^k*(d*q)=d*(b^k*q):=by ac_rfl
 rw[h,c] at e2
 omega
section bld
variable {P:Program}{n:Nat}{N R:Po}{X:Nat->Po}{ops:Array Oper}{k:Nat}{Γ:bO}{w0:World}{h0:Hp}{B:List Bx}{Rs:List Rw}{F:List (Hp->Prop)}{wB:World}{hB:Hp}
theorem SS.liftJ (s:SS w0 h0 wB hB B Rs F){w:World}(x:Ext wB w):∃ c,SS w0 h0 w c B Rs F/\∀ b,wB.heap.size<=b->b<w.heap.size->c[b]?=some a6:=by
 have h:=x.size;have f:=s.g.size;refine ⟨hB++vl (w.heap.size-wB.heap.size) a6,s.step ⟨x,⟨by simp,fun b a=>x0 a⟩,⟨by simp;omega,fun b=>?_⟩⟩,fun b h1 d=>?_⟩
 ·rcases ep b hB.size with a|a
  ·rw[x0 a]
   have e:=Below.block x b oM
   rcases s.g.blk b with h1|h1
   ·exact .inl (h1.trans e.symm)
   ·exact .inr h1
  ·rw[yP a,yQ]
   by_cases hl:b<w.heap.size
   ·right;rw[if_pos oM]
   ·left;rw[if_neg oM,eq oM]
 ·rw[yP oM,yQ,if_pos oM]
theorem F2 (t:Nat)(ty:TypeId)(vs:List Value){w:World}{h:Hp}(s:SS w0 h0 w h B Rs F)(H:∀ w',Ext w w'->w.heap.size<=w'.heap.size->w'.heap[w.heap.size]?=some (.cells vs.toArray ty (0,0))->LG P n N R X ops (k+1) ((t,.pointer (some ⟨w.heap.size,0,none⟩))::Γ) w')(a:cL ops Γ k t n=true:=by kernel_rfl)
  (hr:(execOp (ev Γ) (ak ops k)).run P w=.ok (.value (.pointer (some ⟨w.heap.size,0,none⟩))) (w.alloc (.cells vs.toArray ty (0,0))):=by kernel_rfl):LG P n N R X ops k Γ w :=
 LG.val t _ (w.alloc (.cells vs.toArray ty (0,0))) (bF a).1 (bF a).2 hr (H _ ((Ext.refl _).alloc _) (by rw[heap_alloc];simp) (by rw[heap_alloc];simp))
theorem FG (t:Nat){f:FuncId}{args:Array Value}{V:Value}{Q:World->Prop}{w:World}(s:SS w0 h0 wB hB B Rs F)(x:Ext wB w)(c:Calls P f args w fun e w'=>e=.returned V/\(Q w'/\Below wB.heap.size w w'))(H:∀ w' a,SS w0 h0 w' a B Rs F->Ext wB w'->Q w'->LG P n N R X ops (k+1) ((t,V)::Γ) w')(d:cL ops Γ k t n=true:=by kernel_rfl)
  (hr:(execOp (ev Γ) (ak ops k)).run P w=.ok (.enter f args) w:=by kernel_rfl):LG P n N R X ops k Γ w :=
 LG.call t f args (bF d).1 (bF d).2 hr (c.mono fun e w' ⟨i,q,b⟩=>by
  have h:Ext wB w':=Below.trans x b;obtain ⟨a,j,_⟩:=s.liftJ h;exact ⟨V,i,H w' a j h q⟩)
def vz (a b:Nat):List Nat:=(List.range b).filter (fun c=>decide (a<=c))
theorem j5 {a b c:Nat}:c∈vz a b↔a<=c/\c<b:=by
 unfold vz;rw[List.mem_filter,o0];simp;omega
theorem A.takeK {M:Ms}{Q:Exit->Act->World->Prop}{k0:Nat}{L:Array Bool}{a:Act}{w:World}{i:Nat}{o:Oper}{v:Value}{S:World->Prop}
  (hi:ops[i]?=some o)(hk:i<k0)(d:Region.noSelect ops=true)(hf:Region.free .any ops L i=true)(hr:i∈Region.ready .any ops L)(y:∀ c a w,¬Q (.panic c) a w)
  (h:∀ w w',S w->Mo M.l w w'->S w')(x:S w)(z:YieldsIf P ops S o v a)
  (b:(∀ w,S w)\/(∀ w w',S w->Tl M w w'->S w')\/∀ j f,ops[j]?=some f->k0<=j->j≠i->∃ e∈f.after,Region.binds .any e=true/\e.on=i)
  (H:A M P ops Q k0 (L.setIfInBounds i true) (a.put o.dst v) w):A M P ops Q k0 L a w:=by
 unfold A at *
 rw[d8 hr]
 exact jL hi (Region.noSelect_spec d) (fun c a w B=>absurd B (y _ _ _)) h _ _ _ _
  (fun j f C p u=>Region.free_spec hi hf j f C p u) b hr z x H hk
variable {M:Ms}{k0:Nat}{L:Array Bool}{w:World}
theorem aV (i t:Nat)(v:Value)(H:AG M P n N R X ops k0 (L.setIfInBounds i true) ((t,v)::Γ) w)(h:cE n ops k0 [] L Γ i t=true:=by kernel_rfl)(hv:∀ w,(execOp (ev Γ) (ak ops i)).run P w=.ok (.value v) w:=by intro _;kernel_rfl):AG M P n N R X ops k0 L Γ w:=by
 obtain ⟨b,f⟩:=iU h;rw[i3] at b
 have c:=c4 b.1;intro a d;have e1:=d.exec (Region.noSelect_spec c.sel i _ · · c.get) b.2;refine A.takeK (v:=v) (S:=fun _=>True) c.get c.lt c.sel c.free c.ready (fun _ _ _ e=>e) (fun _ _ _ _=>trivial) trivial (.inl ⟨d.want f,fun w _=>by rw[e1];exact hv w⟩) (.inl fun _=>trivial) ?_;rw[c.dst];exact H _ (d.put c.tn v)
theorem aL (i t:Nat)(v:Value)(hr:∀ w',Mo M.l w w'->(execOp (ev Γ) (ak ops i)).run P w'=.ok (.value v) w')(H:AG M P n N R X ops k0 (L.setIfInBounds i true) ((t,v)::Γ) w)(o:wh n ops k0 [] L Γ i t=true:=by kernel_rfl):AG M P n N R X ops k0 L Γ w:=by
 obtain ⟨b,j⟩:=g5 o;rw[i3,i3] at b
 obtain ⟨⟨f,d⟩,e⟩:=b;have c:=c4 f;intro a h;have e1:=h.exec (Region.noSelect_spec c.sel i _ · · c.get) d;refine A.takeK (v:=v) (S:=fun w'=>Mo M.l w w') c.get c.lt c.sel c.free c.ready (fun _ _ _ x=>x) (fun _ _ h1 u=>h1.trans u) (Mo.refl _ _) (.inl ⟨h.want j,fun w' p=>by rw[e1];exact hr w' p⟩) (.inr (.inr (ik e))) ?_;rw[c.dst];exact H _ (h.put c.tn v)
theorem aH (i t:Nat)(v:Value){h:Hp}{b o:Nat}{cs:List Value}(s:SS w0 h0 w h B Rs F)(d:Seg h b o cs)(H:AG M P n N R X ops k0 (L.setIfInBounds i true) ((t,v)::Γ) w)(hM:∀ b∈M.l,h[b]?=some a6)(e:wh n ops k0 [] L Γ i t=true:=by kernel_rfl)(c:bM P (execOp (ev Γ) (ak ops i)) cs=some (.value v,kw b o cs.length):=by kernel_rfl):AG M P n N R X ops k0 L Γ w :=
 aL i t v (fun _ a=>Seg.runM d s.g hM a c) H e
def D6 (ops:Array Oper)(k0:Nat)(L:Array Bool)(i:Nat):Bool:=decide (i<ops.size) && decide (i<k0) && Region.noSelect ops && (Region.ready .any ops L == [i])
theorem aC (i t:Nat){f:FuncId}{args:Array Value}(c:Calls P f args w fun e w'=>∃ v,e=.returned v/\Mo M.l w w'/\AG M P n N R X ops k0 (L.setIfInBounds i true) ((t,v)::Γ) w')(h:(D6 ops k0 L i && a7 Γ (ak ops i) && ((ak ops i).dst == some t) && decide (t<n))=true:=by kernel_rfl)(y:bg ops Γ (ak ops i)=some true:=by kernel_rfl)
  (hr:(execOp (ev Γ) (ak ops i)).run P w=.ok (.enter f args) w:=by kernel_rfl):AG M P n N R X ops k0 L Γ w:=by
 simp only[i3,decide_eq_true_eq,beq_iff_eq] at h
 obtain ⟨⟨⟨h1,z⟩,x⟩,u⟩:=h
 unfold D6 at h1
 simp only[i3,decide_eq_true_eq,beq_iff_eq] at h1
 have d:=bC (ops:=ops) h1.1.1.1;intro a b;refine A.intro (fun h0=>by rw[h1.2] at h0;cases h0) (fun j p=>?_);rw[h1.2,ul] at p
 subst p;refine OpR.wpOp (R:=fun v w'=>Mo M.l w w'/\AG M P n N R X ops k0 (L.setIfInBounds j true) ((t,v)::Γ) w') d ⟨b.want y,.inr (.inr ⟨f,args,?_,c⟩)⟩ (fun v w' o=>⟨Rl.mo h1.1.1.2 o.1,?_⟩)
 ·rw[b.exec (Region.noSelect_spec h1.1.2 j _ · · d) z];exact hr
 ·rw[x];exact o.2 _ (b.put u v)
theorem vk {id:Nat}(M:Ms)(k0:Nat)(b:P.follows .mixedOrders=true)(H:AG M P n N R X ops k0 (vl ops.size false) Γ w.drew):CG P n N R X (.region id ops true) Γ w:=by
 intro a c;refine wp_region_any b ?_;have h1:=H a c
 unfold A at h1
 rw[gt] at h1
 exact jP _ _ _ _ _ _ _ _ _ h1
theorem SS.drew {h:Hp}(s:SS w0 h0 w h B Rs F):SS w0 h0 w.drew h B Rs F:=s.step (Up.drew (Up.refl s.g))
theorem t6 {K:Nat}{w w':World}(x:Below K w w'):Mo (vz K w.heap.size) w w':=⟨x.os,x.tape,x.output,x.size,fun c b a=>by
 rcases ep c K with h|h
 ·exact Below.block x c h
 ·exact absurd (j5.2 ⟨h,b⟩) a⟩
theorem oU {K:Nat}{T e:TypeId}{b:Nat}{bs:List Value}{w w1:World}(h:Lib.IsBuilder T e K b bs w)(x:Ext w w1):Lib.IsBuilder T e K b bs w1:=by
 have key:∀ p,Lib.BuilderAt T e K b p bs w->Lib.BuilderAt T e K b p bs w1:=by
  rintro p ⟨h1,v,a,f,i⟩
  have d:b<w.heap.size:=by
   rcases ep b w.heap.size with h'|h'
   ·exact h'
   ·rw[eq h'] at a;cases a
  exact ⟨h1,v,(Below.block x b d).trans a,dD f (fun c j=>Below.block x c (iP f j)),i⟩
 rcases h with h|h
 ·exact .inl (key _ h)
 ·exact .inr (key _ h)
theorem aX (i t:Nat)(A:Z9)(len a sz:Nat)(x:Int)(j:Nat)(d:A=some ⟨aB A,aO A,none⟩)(H:AG M P n N R X ops k0 (L.setIfInBounds i true) ((t,.pointer (some ⟨aB A,aO A+j*sz,none⟩))::Γ) w)(e:cE n ops k0 [] L Γ i t=true:=by kernel_rfl)(c:wI P (ev Γ) (ak ops i)=some (.slice A len a,.int .i64 x,sz):=by kernel_rfl)(hk:x=j:=by omega)(b:j<len:=by omega):AG M P n N R X ops k0 L Γ w :=
 aV i t _ H e (fun w=>fw c d hk b w)
theorem oo {P:List UInt8}{x m:Nat}(a:m<8):Lib.byteCells (P++(b8 x).take m)++[.int .u8 ((x/2^(8*m)%256:Nat):Int)]=Lib.byteCells (P++(b8 x).take (m+1)):=by
 have e:(b8 x).take (m+1)=(b8 x).take m++[UInt8.ofNat (x/256^m)]:=by
  rw[List.take_add_one]
  congr 1
  unfold b8
  rw[Ga,Gb a];rfl
 rw[e,<-List.append_assoc]
 unfold Lib.byteCells
 rw[List.map_append (l₁:=P++_)]
 congr 1
 show _=[Value.int .u8 ((x/256^m%256:Nat):Int)]
 rw[A7]
theorem rq {l:List Nat}{k:Nat}(hk:k<l.length):((l.take k).flatMap b8)++(b8 (l.getD k 0)).take 8=(l.take (k+1)).flatMap b8:=by
 have e:(b8 (l.getD k 0)).take 8=b8 (l.getD k 0):=Ft (by rw[iS];omega);rw[fY hk,List.flatMap_append,e];simp
theorem rm {l:List Nat}{k m x:Nat}(hk:k<=l.length)(a:m<=8)(b:l.length<=1099511627776):(Lib.byteCells ((l.take k).flatMap b8++(b8 x).take m)).length+1<=140737488355328:=by
 rw[Lib.byteCells_length,yA,kM,y9,y9,iS];omega
theorem vL {l:List Nat}(h:tl l l.length=0):Value.agg #[.int .u64 0,.string ⟨#[]⟩]=nv (ax l):=by
 have e:=iI 18446744073709551616 l l.length (ey _);rw[h,yw] at e
 have:ax l=0:=e.symm;rw[this];rfl
theorem Ct {l:List Nat}(a:Wd l)(h:tl l l.length=1):Value.agg #[.int .u64 (l.getD 0 0:Nat),.string ⟨#[]⟩]=nv (ax l):=by
 have e:=iI 18446744073709551616 l l.length (ey _);have b:=gA l l.length;rw[h,yw,ay] at e
 have e2:ax l=l.getD 0 0:=by show ah _ l=_;rw[<-e];simp[ah]
 rw[e2];have:=a.get 0
 unfold nv
 rw[jH this,ke this]
theorem xg {l:List Nat}(a:Wd l)(h:0<tl l l.length):Value.agg #[.int .u64 (l.getD 0 0:Nat),.string ⟨(((l.drop 1).take (tl l l.length-1)).flatMap b8).toArray⟩]=nv (ax l):=by
 have e:=lr a;have e1:((l.drop 1).take (tl l l.length-1))=(wds (ax l)).drop 1:=by rw[e,List.drop_take]
 unfold nv
 rw[Dk (n:=ax l) (by rw[e1]),o5,e,gN h]
end bld
section
variable {P:Program}{Γ:bO}{o:Oper}
theorem dd {f:FuncId}{args:Array Value}{v:Value}{w:World}(h:(execOp (ev Γ) o).run P w=(callFunc f args).run P w)(k:(callFunc f args).run P w=.ok (.value v) w):(execOp (ev Γ) o).run P w=.ok (.value v) w:=h.trans k
end
theorem dv (x y c:Nat)(b:x<18446744073709551616)(a:y<18446744073709551616)(d:c<=1):∃ s c':Nat,s+18446744073709551616*c'=x+y+c/\s<18446744073709551616/\c'<=1/\∀ w,(callFunc 118 #[.int .u64 x,.int .u64 y,.int .u64 c]).run Tryz.prog w=.ok (.value (.tuple #[.int .u64 s,.int .u64 c'])) w:=by
 refine ⟨(x+y+c)%18446744073709551616,(x+y+c)/18446744073709551616,by omega,by omega,by omega,fun w=>?_⟩;rw[run_callFunc_extern Tryz.func118 kR kR kR (e:=add64Entry) kR,run_add64 x y c oM oM oM oM]
 simp only[Result.andThen]
 congr 5<;>omega
theorem gR (x y b:Nat)(f:x<18446744073709551616)(d:y<18446744073709551616)(c:b<=1):∃ s a:Nat,s+y+b=x+18446744073709551616*a/\s<18446744073709551616/\a<=1/\∀ w,(callFunc 119 #[.int .u64 x,.int .u64 y,.int .u64 b]).run Tryz.prog w=.ok (.value (.tuple #[.int .u64 s,.int .u64 a])) w:=by
 refine ⟨(x+18446744073709551616-y-b)%18446744073709551616,if x<y+b then 1 else 0,by split<;>omega,by omega,by split<;>omega,fun w=>?_⟩;rw[run_callFunc_extern Tryz.func119 kR kR kR (e:=sub64Entry) kR,run_sub64 x y b c]
 rfl
theorem Ret.of_same {f:FuncId}{args:Array Value}{V:Value}{P:Program}{w:World}{h:Hp}(g:G w h)(c:Calls P f args w fun e w'=>e=.returned V/\w'=w):Calls P f args w (Ret w h fun v _=>v=V) :=
 c.mono fun e w' ⟨a,b⟩=>by subst b;exact ⟨V,h,a,Up.refl g,rfl⟩
theorem l9 (x y:Nat)(c:x<18446744073709551616)(b:y<18446744073709551616)(w:World)(h:Hp)(g:G w h):CR 75 #[uV x,uV y] w h (fun v _=>∃ hi lo:Nat,v=.tuple #[uV hi,uV lo]/\lo+18446744073709551616*hi=x*y/\lo<18446744073709551616/\hi<18446744073709551616/\hi<=18446744073709551614):=by
 refine (Ret.of_same g (Tryz.bits_Mul64 x y c b w)).mono ?_;rintro e w' ⟨v,a,d,u,rfl⟩;have h1:x*y<=18446744073709551615*18446744073709551615:=Gm oM oM;exact ⟨_,a,d,u,x*y/18446744073709551616,x*y%18446744073709551616,rfl,by omega,by omega,by omega,by omega⟩
theorem kT {n:Nat}(h:n<18446744073709551616):Lib.bitLen n=nb n:=by
 rcases yU n with h0|h0
 ·subst h0;rfl
 ·obtain ⟨a,c,d⟩:=bR h0
  have b:nb n<=64:=jy (k:=64) h;have:=Lib.bitLen_shift (nb n-1) n a h
  have h1:n/2^(nb n-1)=1:=by
   have:n<2^(nb n-1)*2:=by rw[<-z6];rwa [show (nb n-1).succ=nb n by omega]
   refine Gh oM oM
  rw[h1] at this
  have e1:Lib.bitLen 1=1:=by decide
  omega
theorem uZ (x:Nat)(a:x<18446744073709551616)(w:World)(h:Hp)(g:G w h):CV 102 #[uV x] w h (nV (nb x)):=by
 have:=Ret.of_same g (Tryz.bits_Len64 x w oM oM);rw[yN,kT a] at this
 exact this
theorem x8 (x:Nat)(a:x<18446744073709551616)(w:World)(h:Hp)(g:G w h):CV 136 #[uV x] w h (nV (64-nb x)):=by
 have:=Ret.of_same g (Tryz.bits_LeadingZeros64 x w oM oM);have b:nb x<=64:=jy (k:=64) a;rw[yN,kT a,show (64:Int)-(nb x:Nat)=((64-nb x:Nat):Int) by omega] at this
 exact this
theorem ij {a b:Nat}(ha:a<18446744073709551616)(d:b<18446744073709551616):a*b<=340282366920938463426481119284349108225:=by
 have h1:a<=18446744073709551615:=by omega
 have c:b<=18446744073709551615:=by omega
 exact Gm h1 c
theorem sD (A:Z9)(c:Nat)(l:List Nat)(m:Nat)(B:l.length=m)(C:l.length<=1099511627776)(H:l.length<=c)(w:World)(h:Hp)(g:G w h)(z:S3 A l h):CV 87 #[.slice A m c] w h (.slice A (tl l m) c):=by
 have a:=((sS g).aS z);refine go Tryz.func87 [(0,qS A m c)] rfl (aa a ac (aK (lL a [.c,.v (nV m),.c] (af (kZ ?_)))));refine bS _ (CG.loop (fun j Γ u=>∃ (n:Nat)(h_:Hp),j=n/\Γ=[(0,qS A m c),(2,sZ),(3,nV n)]/\SS w h u h_ [] [] [S3 A l]/\n<=m/\tl l m=tl l n) _ ⟨m,h,rfl,rfl,a.to _ _,nR _,rfl⟩ ?_);rintro _ _ w1 ⟨n,x,p,rfl,a,F,o⟩;refine cQ (aa a ac ?_);cases d:(decide ((0:Int)<(n:Int)))
 .
  have e:=oF d;refine lB 7 d (lL a ac (lG 9 ?_));refine lG 10 (lG 11 (lG 12 (lG 13 (lG 14 (lL a [.v qF] (aj (CG.exit ?_)))))))
  show CG _ _ _ _ _ _ _ _
  refine aa a aF (lT 20 A m c 1 (n:Nat) n ?_);exact lL a ac (ae a [] (qS A n c) (by rw[o,k6 oM]))
 have e:=oT d;refine lB 7 d (lL a eo (bA 11 ((n:Nat)-1) (n-1) ?_));refine lX 12 A m c 1 (n-1:Nat) (n-1) ((a.f.1).ok oM) (lH 13 (mW (l.getD (n-1) 0)) a ((a.f.1).el (n-1) oM) ?_);cases b:(((l.getD (n-1) 0:Nat):Int) == (0:Int))
 .
  have i:=aq b;refine lB 14 b (lL a [.v qF] (aj (CG.exit ?_)))
  show CG _ _ _ _ _ _ _ _
  refine aa a aF (lT 20 A m c 1 (n:Nat) n ?_);exact lL a ac (ae a [] (qS A n c) (by rw[o,k6 oM]))
 have i:=eq_of_beq b;refine lB 14 b (lL a [.v qT] (ar (cK (kZ (kQ (lL a ac (bA 17 ((n:Nat)-1) (n-1) ?_)))))));refine lL a ac (lD ?_);intro D y;refine ⟨_,_,?_,⟨n-1,x,rfl,rfl,a.to _ _,oM,(by rw[o];exact xB oM oM)⟩,y.to _ kR⟩
 omega
theorem rr {h:Hp}{A:Z9}{n a:Nat}(c:n<18446744073709551616)(b:2<=a)(s:SlO 1 eF 0 h A [n%4294967296,n/4294967296]):RN h (.slice A (tl [n%4294967296,n/4294967296] 2) a) n :=
 RN.trim (Dg.cons oM (Dg.one oM)) (by simp only[ah];omega) rfl b s
theorem l7 (n:Nat)(c:n<18446744073709551616)(w:World)(h:Hp)(g:G w h):CR 53 #[mV n] w h (fun v h=>RN h v n):=by
 have a:=sS g;refine go Tryz.func53 [(0,mV n)] rfl (aa a ac (aK (lL a ac (lV 4 (mW (n%4294967296)) ?_ (hr:=rT ((n:Int)) kR (tC _))))));refine lL a ac (lV 6 (mV (n/4294967296)) ?_ (hr:=aY (n:=Gv (n:Int) 4294967296) kR (jm _ 4294967296)));refine lV 7 (mW (n/4294967296)) ?_ (hr:=rT (((n/4294967296:Nat):Int)) kR (oQ oM oM));refine lR 8 153 2 ([mW (n%4294967296),mW (n/4294967296)]) a (fun b w2 e a=>?_);replace a:=a.aS (SlO.of_flat (sz:=1) (f:=eF) (d:=0) (l:=[(n%4294967296),(n/4294967296)]) (fun _=>rfl) a.f.1);exact ao 9 a (sD (sB b) 2 ([(n%4294967296),(n/4294967296)]) 2 (by first|rfl|omega|assumption) (by simp) (by simp) _ _ a.g a.f.1) (fun i j a=>lL a ac (ae a [] (qS (sB b) (tl ([(n%4294967296),(n/4294967296)]) 2) 2) (rr c oM a.f.1)))
theorem EY (n:Nat)(A:Z9)(a:Nat)(e:(lim n).length<=a)(w:World)(h:Hp)(g:G w h)(d:S3 A (lim n) h):CR 86 #[.bool false,.slice A ((lim n).length) a] w h (fun v h=>RI h v (bT false n)):=by
 have b:=((sS g).aS d);refine go Tryz.func86 [(0,qF),(1,qS A ((lim n).length) a)] rfl (aD (lA 4 26 ([qF,sZ]) b (fun j w2 l b=>aK (lL b aF (lG 7 ?_)))));exact lG 8 (lG 9 (lL b [.v qF,.c,.v (.agg #[qF,qS A ((lim n).length) a])] (lP 0 0 ([qF,qS A ((lim n).length) a]) b (fun i b=>ae b [(0,0,2)] (.agg #[qF,qS A ((lim n).length) a]) (oa rfl e b.f.1)))))
theorem ER (n:Nat)(A:Z9)(a:Nat)(i:(lim n).length<=a)(w:World)(h:Hp)(g:G w h)(j:S3 A (lim n) h):CR 86 #[.bool true,.slice A ((lim n).length) a] w h (fun v h=>RI h v (bT true n)):=by
 have b:=((sS g).aS j);have l:=@de n;refine go Tryz.func86 [(0,qT),(1,qS A ((lim n).length) a)] rfl (aD (lA 4 26 ([qF,sZ]) b (fun o w2 p b=>aK (lL b [.c,.c,.c,.v (nV ((lim n).length))] ?_))));cases d:(decide ((0:Int)<(((lim n).length:Nat):Int)))
 .
  have e:=oF d;exact lB 9 d (lL b [.v qF,.c,.v (.agg #[qF,qS A ((lim n).length) a])] (lP 0 0 ([qF,qS A ((lim n).length) a]) b (fun u b=>ae b [(0,0,2)] (.agg #[qF,qS A ((lim n).length) a]) (oa (by simp only[Gx];first|(symm;exact decide_eq_true oM)|(symm;exact decide_eq_false oM)) i b.f.1))))
 have e:=oT d;exact lB 9 d (lL b [.v qT,.c,.v (.agg #[qT,qS A ((lim n).length) a])] (lP 0 0 ([qT,qS A ((lim n).length) a]) b (fun x b=>ae b [(0,0,2)] (.agg #[qT,qS A ((lim n).length) a]) (oa (by simp only[Gx];first|(symm;exact decide_eq_true oM)|(symm;exact decide_eq_false oM)) i b.f.1))))
theorem rI (p:Bool)(n:Nat)(A:Z9)(a:Nat)(c:(lim n).length<=a)(w:World)(h:Hp)(g:G w h)(b:S3 A (lim n) h):CR 86 #[.bool p,.slice A (lim n).length a] w h (fun v h=>RI h v (bT p n)):=by
 cases p
 ·exact EY n A a c w h g b
 ·exact ER n A a c w h g b
theorem oP (z:Int)(h0:z<0)(h1 : -9223372036854775808<=z)(w:World)(h:Hp)(g:G w h):CR 52 #[iV z] w h (fun v h=>RI h v (bT true (ab z))):=by
 have a:=sS g;have hi:ab z<=9223372036854775808:=by unfold ab;omega
 refine go Tryz.func52 [(0,iV z)] rfl (aD (lA 2 26 ([qF,sZ]) a (fun y w2 B a=>af (aa a ac ?_))));have ⟨d,i⟩:=dT (p:=(z:Int)<(0:Int)) oM;refine lB 4 d (ar (aa a ac (lV 6 (mV (18446744073709551616-ab z)) ?_ (hr:=rU (z) kR (by rw[IntKind.wrap_u64];unfold ab;omega)))));refine lV 7 (mV (ab z)) ?_ (hr:=rU ((0-((18446744073709551616-ab z:Nat):Int))) kR (by rw[IntKind.wrap_u64];omega));refine lC 8 a (l7 (ab z) oM _ _ a.g) ?_;rintro _ C _ a ⟨l,o,rfl,c,b⟩;replace a:=a.aS b;refine lC 9 a (rI true (ab z) l o c _ _ a.g a.f.1) ?_;rintro _ _ _ a ⟨j,e,rfl,u,x⟩;replace a:=a.aS x;exact lP 0 0 ([.bool (aw (bT true (ab z))),qS j ((lim (ab (bT true (ab z)))).length) e]) a (fun _ a=>ae a [(0,0,2)] (.agg #[.bool (aw (bT true (ab z))),qS j ((lim (ab (bT true (ab z)))).length) e]) (⟨_,_,rfl,u,a.f.1⟩))
theorem oX (z:Nat)(h1:z<9223372036854775808)(w:World)(h:Hp)(g:G w h):CR 52 #[nV z] w h (fun v h=>RI h v (bT false z)):=by
 have a:=sS g;refine go Tryz.func52 [(0,nV z)] rfl (aD (lA 2 26 ([qF,sZ]) a (fun y w2 B a=>af (aa a ac ?_))));have ⟨d,i⟩:=dF (p:=(z:Int)<(0:Int)) oM;refine lB 4 d (aj (cK (aa a ac (lV 11 (mV z) ?_ (hr:=rU ((z:Int)) kR (bD oM oM))))));refine lC 12 a (l7 z oM _ _ a.g) ?_;rintro _ C _ a ⟨l,o,rfl,c,b⟩;replace a:=a.aS b;refine lC 13 a (rI false z l o c _ _ a.g a.f.1) ?_;rintro _ _ _ a ⟨j,e,rfl,u,x⟩;replace a:=a.aS x;exact lP 0 0 ([.bool (aw (bT false z)),qS j ((lim (ab (bT false z))).length) e]) a (fun _ a=>ae a [(0,0,2)] (.agg #[.bool (aw (bT false z)),qS j ((lim (ab (bT false z))).length) e]) (⟨_,_,rfl,u,a.f.1⟩))
theorem oR (z:Int)(h0 : -9223372036854775808<=z)(h1:z<9223372036854775808)(w:World)(h:Hp)(g:G w h):CR 52 #[iV z] w h (fun v h=>RI h v z):=by
 rcases Int.lt_or_le z 0 with hz|hz
 ·have e:bT true (ab z)=z:=by unfold bT ab;simp;omega
  have:=oP z hz h0 w h g;rw[e] at this
  exact this
 ·obtain ⟨n,rfl⟩:=Int.eq_ofNat_of_zero_le hz
  exact oX n oM w h g
theorem js (a:Nat)(A:Z9)(c:Nat)(Y:(lim a).length<=c)(b:Nat)(D:Z9)(d:Nat)(V:(lim b).length<=d)(J:(lim a).length<=4000000000)(K:(lim b).length<=4000000000)(w:World)(h:Hp)(g:G w h)(S:S3 A (lim a) h)(I:S3 D (lim b) h):CV 101 #[.slice A ((lim a).length) c,.slice D ((lim b).length) d] w h (iV (bG a b)):=by
 have e:=(((sS g).aS S).aS I);refine go Tryz.func101 [(0,qS A ((lim a).length) c),(1,qS D ((lim b).length) d)] rfl (aa e ac (af (aa e [.c,.v (nV ((lim a).length)),.c,.v (nV ((lim b).length))] ?_)));cases l:((((lim a).length:Nat):Int) != (((lim b).length:Nat):Int))
 .
  have x:=aJ l;refine lB 10 l (aj (cK (cQ (aa e [.c,.v (nV ((lim a).length))] (lV 18 (iV ((((lim a).length:Nat):Int)-1)) ?_ (hr:=rS ((((lim a).length:Nat)-1)) kR ((fD oM oM).trans oM)))))));refine lL e ac (ba ?_);refine bS _ (CG.loop (fun C Γ H=>∃ (m:Nat)(h_:Hp),C=m/\Γ=[(0,qS A ((lim a).length) c),(1,qS D ((lim b).length) d),(5,iV ((m:Int)-1))]/\SS w h H h_ [] [] [S3 D (lim b),S3 A (lim a)]/\m<=(lim a).length/\(lim a).length=(lim b).length/\(lim a).drop m=(lim b).drop m) _ ⟨(lim a).length,h,rfl,rfl,e.to _ _,nR _,oM,(by rw[yC oM,yC oM])⟩ ?_);rintro _ _ w2 ⟨m,X,O,rfl,e,U,p,i⟩;refine cQ (aa e ac ?_);cases j:(decide ((0:Int)<=((m:Int)-1:Int)))
  .
   have y:=oF j;refine lB 20 j (aj (CG.exit ?_))
   show CG _ _ _ _ _ _ _ _
   exact aa e ac (ae e [] (iV 0) (by rw[f4 (xK (by obtain rfl:m=0:=oM;simpa using i))]))
  have y:=oT j;refine lB 20 j (ar (cK (cQ (kZ (cQ (cR 9 [] mixed e am ?_))))));refine eV 0 23 (qS A ((lim a).length) c) (eV 1 24 (iV ((m:Int)-1)) (eX 2 25 A ((lim a).length) c 1 ((m:Int)-1) (m-1) ((e.f.2.1).ok oM) (eH 3 26 (mW ((lim a).getD (m-1) 0)) e ((e.f.2.1).el (m-1) oM) (eV 4 27 (qS D ((lim b).length) d) (eV 5 28 (iV ((m:Int)-1)) (eX 6 29 D ((lim b).length) d 1 ((m:Int)-1) (m-1) ((e.f.1).ok oM) (eH 7 30 (mW ((lim b).getD (m-1) 0)) e ((e.f.1).el (m-1) oM) ?_)))))));cases o:((((lim a).getD (m-1) 0:Nat):Int) != (((lim b).getD (m-1) 0:Nat):Int))
  .
   have u:=aJ o;refine eB 8 31 o (bW e (fun Z F e=>tN (cG (cK (kQ (lL e ac (lV 22 (iV (((m-1:Nat):Int)-1)) ?_ (hr:=rS ((((m:Int)-1)-1)) kR ((fD oM oM).trans oM)))))))));refine lL e ac (lD ?_);intro W Q;refine ⟨_,_,?_,⟨m-1,F,rfl,rfl,e.to _ _,oM,p,(dY (k:=m-1) p oM (by rw[show m-1+1=m by omega];exact i) oM)⟩,Q.to _ kR⟩
   omega
  have u:=aU o;refine eB 8 31 o (bW e (fun _ _ e=>tN (bY (cQ (cQ (cR 9 [] mixed e am ?_))))));refine eV 0 32 (qS A ((lim a).length) c) (eV 1 33 (iV ((m:Int)-1)) (eX 2 34 A ((lim a).length) c 1 ((m:Int)-1) (m-1) ((e.f.2.1).ok oM) (eH 3 35 (mW ((lim a).getD (m-1) 0)) e ((e.f.2.1).el (m-1) oM) (eV 4 36 (qS D ((lim b).length) d) (eV 5 37 (iV ((m:Int)-1)) (eX 6 38 D ((lim b).length) d 1 ((m:Int)-1) (m-1) ((e.f.1).ok oM) (eH 7 39 (mW ((lim b).getD (m-1) 0)) e ((e.f.1).el (m-1) oM) ?_)))))));cases B:(decide ((((lim a).getD (m-1) 0:Nat):Int)<(((lim b).getD (m-1) 0:Nat):Int)))
  .
   have L:=oF B;exact eB 8 40 B (bW e (fun _ _ e=>tN (cG (cK (aa e ac (ae e [] (iV 1) (by rw[dW (by first|exact e7 oM|exact fv (k:=m-1) oM oM (by rw[show m-1+1=m by omega];exact i.symm) oM)])))))))
  have L:=oT B;exact eB 8 40 B (bW e (fun _ _ e=>tN (bY (aa e ac (ae e [] (iV (-1)) (by rw[cW (by first|exact e7 oM|exact fv (k:=m-1) oM oM (by rw[show m-1+1=m by omega];exact i) oM)]))))))
 have x:=aU l;refine lB 10 l (ar (cQ (aa e [.c,.v (nV ((lim a).length)),.c,.v (nV ((lim b).length))] ?_)));cases z:(decide ((((lim a).length:Nat):Int)<(((lim b).length:Nat):Int)))
 .
  have M:=oF z;exact lB 15 z (aj (cK (aa e ac (ae e [] (iV 1) (by rw[dW (by first|exact e7 oM|exact fv (k:=m-1) oM oM (by rw[show m-1+1=m by omega];exact i.symm) oM)])))))
 have M:=oT z;exact lB 15 z (ar (aa e ac (ae e [] (iV (-1)) (by rw[cW (by first|exact e7 oM|exact fv (k:=m-1) oM oM (by rw[show m-1+1=m by omega];exact i) oM)]))))
theorem ud {a b q r:Nat}(h:a=b*q+r)(hr:r<b):q=a/b/\r=a%b:=by
 subst h;rw[Gt oM,z1 hr,Nat.mul_add_mod,yL hr];simp
theorem Fa (a:Nat)(A:Z9)(c:Nat)(hc:(lim a).length<=c)(hLa:(lim a).length<=4000000000)(d:Nat)(F:0<d)(X:d<4294967296)(w:World)(h:Hp)(g:G w h)(hA:S3 A (lim a) h):CR 145 #[.slice A ((lim a).length) c,mW d] w h (fun v h1=>∃ S,∃ r:Nat,v=.tuple #[S,mW r]/\RN h1 S (a/d)/\r=a%d):=by
 have e:=((sS g).aS hA);refine go Tryz.func145 [(0,qS A ((lim a).length) c),(1,mW d)] rfl (aa e aF (aK (lL e [.c,.v (nV ((lim a).length))] (lK 11 153 ((lim a).length) 1 4 (uW 0) eF 0 e (fun p w2 h3 e=>?_)))));have J:(yJ ((lim a).length) 0).length=((lim a).length):=by simp
 refine lL e ac (aK (lL e ac (af (aa e [.c,.v (nV ((lim a).length))] (lV 14 (iV ((((lim a).length:Nat):Int)-1)) ?_ (hr:=rS ((((lim a).length:Nat)-1)) kR ((fD oM oM).trans oM)))))));refine lL e ac (ba ?_);refine bS _ (CG.loop (fun L Γ Z=>∃ (m:Nat)(z:List Nat)(r:Nat)(h_:Hp),L=m/\Γ=[(0,qS A ((lim a).length) c),(1,mW d),(4,sZ),(5,uW 0),(6,qS (sB p) ((lim a).length) ((lim a).length)),(8,iV ((m:Int)-1)),(7,mV r)]/\SS w h Z h_ [⟨p,153,(z).flatMap eF⟩] [] [S3 A (lim a)]/\m<=(lim a).length/\z.length=(lim a).length/\Ld z/\a=d*ah 4294967296 z+(4294967296^m*r+ah 4294967296 ((lim a).take m))/\r<d/\(∀ k,k<m->z.getD k 0=0)) _ ⟨(lim a).length,yJ ((lim a).length) 0,0,h3,rfl,rfl,e.to _ _,nR _,J,Ld.rep _,(by rw[ee,yw,nC];simp),F,fun k _=>fe⟩ ?_);rintro _ _ w5 ⟨m,z,r,h6,Y,rfl,e,hm,j,Q,inv,hr,hz⟩;have I:=(Ld.lim a).get (m-1);refine cQ (aa e ac ?_);cases i:(decide ((0:Int)<=((m:Int)-1:Int)))
 .
  have D:=oF i;refine lB 16 i (aj (CG.exit ?_))
  show CG _ _ _ _ _ _ _ _
  refine aa e ac ?_;have M:m=0:=by omega
  rw[M,Gy,F4,Gz] at inv
  have C:a=d*ah 4294967296 z+r:=by simpa [ah] using inv
  obtain ⟨O,K⟩:=ud C hr;have W:ah 4294967296 z=a/d:=O;obtain ⟨h9,e,H,U,V⟩:=e.pub 0;replace e:=(e.to [] []).aS (SlO.of_flat (sz:=1) (f:=eF) (d:=0) (b:=p) (o:=0) (l:=z) (fun _=>rfl) H);refine ao 40 e (sD (sB p) ((lim a).length) z ((lim a).length) j oM oM _ _ e.g e.f.1) (fun _ _ e=>lL e ac (lV 42 (mW r) ?_ (hr:=aY (aY (n:=IntKind.wrap .u32 (r:Int)) kR (tC _)) oM)));exact lL e aF (ae e [] (.tuple #[qS (sB p) (tl z ((lim a).length)) ((lim a).length),mW r]) (⟨_,r,rfl,RN.trim Q W j (nR _) e.f.1,K⟩))
 have D:=oT i;refine lB 16 i (ar (cK (cQ (kZ (aa e ac (lV 20 (mV (r*4294967296%18446744073709551616)) ?_ (hr:=rU (((r:Int)*4294967296)) kR (jM r 4294967296))))))));refine lL e aF (lX 23 A ((lim a).length) c 1 ((m:Int)-1) (m-1) ((e.f.1).ok oM) ?_);refine lH 24 (mW ((lim a).getD (m-1) 0)) e ((e.f.1).el (m-1) oM) (lV 25 (mV ((lim a).getD (m-1) 0)) ?_ (hr:=rU ((((lim a).getD (m-1) 0:Nat):Int)) kR (bD oM oM)));refine lV 26 (mV (r*4294967296+(lim a).getD (m-1) 0)) ?_ (hr:=aY (im (t:=33) (u:=33) (x:=.tmp 20) (y:=.tmp 25) (a:=(r*4294967296%18446744073709551616)) (b:=((lim a).getD (m-1) 0)) kR kR kR oM oM _) (by rw[yL (show r*4294967296<18446744073709551616 by omega),BH I]));refine lL e ac (aK (lL e m9 (lV 31 (mV d) ?_ (hr:=rU ((d:Int)) kR (bD oM oM)))));have B:=re (r:=r) (x:=(lim a).getD (m-1) 0) F hr I X;refine lV 32 (mV ((r*4294967296+(lim a).getD (m-1) 0)/d)) ?_ (hr:=aY (db (t:=33) (u:=33) (x:=.tmp 29) (y:=.tmp 31) (k:=.u64) (a:=((r*4294967296+(lim a).getD (m-1) 0:Nat):Int)) (b:=(d:Int)) kR kR kR oM _) (j8 (r*4294967296+(lim a).getD (m-1) 0) d oM));refine lV 33 (mW (((r*4294967296+(lim a).getD (m-1) 0)/d:Nat)%4294967296)) ?_ (hr:=rT ((((r*4294967296+(lim a).getD (m-1) 0)/d:Nat):Int)) kR (tC _));refine lX 34 (sB p) ((lim a).length) ((lim a).length) 1 ((m:Int)-1) (m-1) rfl (lW 0 z eF 1 (m-1) (((r*4294967296+(lim a).getD (m-1) 0)/d:Nat)%4294967296:Nat) e oM (fun _ e=>?_));have za:((z).set (m-1) (((r*4294967296+(lim a).getD (m-1) 0)/d:Nat)%4294967296:Nat)).length=((lim a).length):=by rw[Gq];exact j
 replace e:=e.to [⟨p,153,((z).set (m-1) (((r*4294967296+(lim a).getD (m-1) 0)/d:Nat)%4294967296:Nat)).flatMap eF⟩] [];refine lN (kQ (lL e aF (lV 37 (mV d) ?_ (hr:=rU ((d:Int)) kR (bD oM oM)))));refine lV 38 (mV ((r*4294967296+(lim a).getD (m-1) 0)%d)) ?_ (hr:=aY (eT (t:=33) (u:=33) (x:=.tmp 35) (y:=.tmp 37) (k:=.u64) (a:=((r*4294967296+(lim a).getD (m-1) 0:Nat):Int)) (b:=(d:Int)) kR kR kR oM _) (cX (r*4294967296+(lim a).getD (m-1) 0) d));refine lL e ac (lN (kQ (lL e ac (lV 18 (iV (((m-1:Nat):Int)-1)) ?_ (hr:=rS ((((m:Int)-1)-1)) kR ((fD oM oM).trans oM))))));refine lL e ac (lD ?_);intro a_ ka;refine ⟨_,_,?_,⟨m-1,(z).set (m-1) (((r*4294967296+(lim a).getD (m-1) 0)/d:Nat)%4294967296:Nat),((r*4294967296+(lim a).getD (m-1) 0)%d:Nat),h6,rfl,rfl,e.to _ _,oM,za,(Q.set _ (yM _ kD)),(by rw[B.1];exact tw oM oM (hz _ oM) inv B.2.1),B.2.2,(fun k hk=>by rw[bv oM,if_neg oM];exact hz k oM)⟩,ka.to _ kR⟩
 omega
theorem ol {B:List Bx}:∀ (ps:List (Nat × Nat × Nat)) (q:Nat) (a:Addr),(bK B ps)[q]?=some a->∃ p∈ps,a.block=(av B p.1).b:=by
  intro ps
  induction ps with
  | nil=>intro q a h;simp[bK] at h
  | cons p ps ih =>
    intro q a h
    unfold bK at h
    rcases ep q (kw (av B p.1).b p.2.1 p.2.2).length with hl|hl
    . rw[yl hl] at h
      exact ⟨p,by simp,by rw[dV _ _ _ _ _ h]⟩
    . rw[yo hl] at h
      obtain ⟨d,c,e⟩:=ih _ _ h;exact ⟨d,by simp[c],e⟩
section
variable {M:Ms}{P:Program}{n:Nat}{N R:Po}{X:Nat->Po}{ops:Array Oper}{k k0:Nat}{L:Array Bool}{Γ:bO}{w:World}{h:Hp}{w0:World}{h0:Hp}{B:List Bx}{Rs:List Rw}{F:List (Hp->Prop)}
theorem EH {α:Type}(j:Nat)(l:List α)(f:α->List Value)(sz e:Nat)(x:α)(s:SS w0 h0 w h B Rs F)(hk:e<l.length)(H:∀ w',Put (av B j).b w w'->SS w0 h0 w' h (fJ B j ((l.set e x).flatMap f)) Rs F->LG P n N R X ops (k+1) Γ w')(c:cS ops Γ k=true:=by kernel_rfl)
  (a:decide (j<B.length)=true:=by kernel_rfl)(hB:(av B j).vs=l.flatMap f:=by kernel_rfl)(hf:∀ x,(f x).length=sz:=by intro _;rfl)
  (d:dk P (execOp (ev Γ) (ak ops k))=some (.skip,mB (av B j).b (0+e*sz) (f x)):=by kernel_rfl):LG P n N R X ops k Γ w :=
 LG.putA j l f sz e x s.st s.g0 (gm c).1 (gm c).2 a hB hf hk d (fun w' p i=>H w' p (s.put0 (oT a) p i (iT (oT a))))
theorem FM {α:Type}(i j:Nat)(l:List α)(f:α->List Value)(sz e:Nat)(x:α)(s:SS w0 h0 w h B Rs F)(hk:e<l.length)(H:∀ w',Put (av B j).b w w'->SS w0 h0 w' h (fJ B j ((l.set e x).flatMap f)) Rs F->AG M P n N R X ops k0 (L.setIfInBounds i true) Γ w')(c:C0 ops k0 L Γ i=true:=by kernel_rfl)
  (a:decide (j<B.length)=true:=by kernel_rfl)(hB:(av B j).vs=l.flatMap f:=by kernel_rfl)(hf:∀ x,(f x).length=sz:=by intro _;rfl)
  (d:dk P (execOp (ev Γ) (ak ops i))=some (.skip,mB (av B j).b (0+e*sz) (f x)):=by kernel_rfl)(hz:∀ K bs,M.z=some (K,bs)->K<=(av B j).b\/(av B j).b∈bs:=by intro _ _ e;cases e):AG M P n N R X ops k0 L Γ w :=
 T.putA i j l f sz e x s.st s.g0 (i9 c).1 (i9 c).2 a hB hf hk d (fun w' p o=>H w' p (s.put0 (oT a) p o (iT (oT a)))) hz
theorem aQ {α:Type}(i t j:Nat)(l:List α)(f:α->List Value)(sz:Nat)(d:α)(e:Nat)(v:Value)(s:SS w0 h0 w h B Rs F)(hk:e<l.length)(H:AG M P n N R X ops k0 (L.setIfInBounds i true) ((t,v)::Γ) w)(hM:(av B j).b ∉ M.l:=by exact List.not_mem_nil)(o:wh n ops k0 [] L Γ i t=true:=by kernel_rfl)
  (C:decide (j<B.length)=true:=by kernel_rfl)(hB:(av B j).vs=l.flatMap f:=by kernel_rfl)(hf:∀ x,(f x).length=sz:=by intro _;rfl)
  (y:bM P (execOp (ev Γ) (ak ops i)) (f (l.getD e d))=some (.value v,kw (av B j).b (0+e*sz) (f (l.getD e d)).length):=by kernel_rfl):AG M P n N R X ops k0 L Γ w :=
 aL i t v (fun w' p=>ce _ _ _ _ y (fun q a u ha c=>by
  rw[dV _ _ _ _ _ ha,((s.st.own _ (a8 (oT C))).mo p hM).cell,hB];rw[<-fh hf d l e hk] at c
  have z:q<sz:=by
   rcases ep q sz with hl|hl
   ·exact hl
   ·rw[ws (by simp;omega)] at c;cases c
  rw[List.getElem?_take_of_lt z,yn] at c
  rw[yF];exact c)) H o
theorem wq (t j:Nat){f:FuncId}{args:Array Value}{Φ:Value->Prop}(s:SS w0 h0 w h B Rs F)(c:∀ hp,G w hp->AllF F hp->Seg hp (av B j).b 0 (av B j).vs->Calls P f args w (Ret w hp (fun v _=>Φ v)))(H:∀ v w' a,Up w h w' a->SS w0 h0 w' a B Rs F->Φ v->LG P n N R X ops (k+1) ((t,v)::Γ) w')(e:decide (j<B.length)=true:=by kernel_rfl)(i:cL ops Γ k t n=true:=by kernel_rfl)(hr:(execOp (ev Γ) (ak ops k)).run P w=.ok (.enter f args) w:=by kernel_rfl):LG P n N R X ops k Γ w :=
 i5 t (s.lends (oT e) c) (fun v w' a u d=>H v w' a u (s.step u) d) i hr
theorem SS.lends2 (s:SS w0 h0 w h B Rs F){i j:Nat}(hi:i<B.length)(I:j<B.length)(y:i≠j){f:FuncId}{args:Array Value}{Φ:Value->Prop}(c:∀ a,G w a->AllF F a->Seg a (av B i).b 0 (av B i).vs->Seg a (av B j).b 0 (av B j).vs->Calls P f args w (Ret w a (fun v _=>Φ v))):Calls P f args w (Ret w h (fun v _=>Φ v)):=by
 have p:=a8 hi;have o:=a8 I;have K:(av B j).b≠(av B i).b:=eW s.st (decide_eq_true I) (decide_eq_true hi) (by simpa using y.symm);obtain ⟨a,g,gw,Q,H⟩:=xd s.g (s.st.jk _ p) (s.st.own _ p);have l:a[(av B j).b]?=some a6:=by rw[H _ K];exact s.st.jk _ o
 obtain ⟨C,J,d,x,D⟩:=xd g l (s.st.own _ o);refine (c C J ((s.f.gw s.mo gw).gw s.mo d) (Q.gw d) x).mono ?_;rintro e w' ⟨v,S,M,u,z⟩;obtain ⟨h1,u1⟩:=oO l D (g.sz J) u;obtain ⟨O,L⟩:=oO (s.st.jk _ p) H (s.g.sz g) u1;exact ⟨v,O,M,L,z⟩
theorem ET (t i j:Nat){f:FuncId}{args:Array Value}{Φ:Value->Prop}(s:SS w0 h0 w h B Rs F)(c:∀ hp,G w hp->AllF F hp->Seg hp (av B i).b 0 (av B i).vs->Seg hp (av B j).b 0 (av B j).vs->Calls P f args w (Ret w hp (fun v _=>Φ v)))(H:∀ v w' h',SS w0 h0 w' h' B Rs F->Φ v->LG P n N R X ops (k+1) ((t,v)::Γ) w')(a:(decide (i<B.length) && decide (j<B.length) && (i != j))=true:=by kernel_rfl)(d:cL ops Γ k t n=true:=by kernel_rfl)(hr:(execOp (ev Γ) (ak ops k)).run P w=.ok (.enter f args) w:=by kernel_rfl):LG P n N R X ops k Γ w:=by
 simp only[i3,decide_eq_true_eq,bne_iff_ne,ne_eq] at a
 exact lC t s (s.lends2 a.1.1 a.1.2 a.2 c) H d hr
theorem wZ {w w':World}{h j f:Hp}{b:Nat}{M:List Nat}(l:h[b]?=some a6)(p:∀ c,c≠b->j[c]?=h[c]?)(i:j.size=h.size)(u:UpM M w j w' f):∃ d,UpM M w h w' d/\(∀ c,c≠b->d[c]?=f[c]?):=by
 have x:=aE l;have a:b<f.size:=e4 oM u.gr.size;refine ⟨f.setIfInBounds b a6,⟨u.mo,⟨by simp;rw[<-i];exact u.gr.size,fun c o=>?_⟩,⟨by simp;exact u.g.size,fun c=>?_⟩⟩,fun c o=>i2 (Ne.symm o)⟩
 ·by_cases e:b=c
  ·subst e;rw[yT a,l]
  ·rw[i2 e,u.gr.blk c oM,p c (Ne.symm e)]
 ·by_cases e:b=c
  ·subst e;right;rw[yT a]
  ·rw[i2 e];exact u.g.blk c
theorem Dv (t i j:Nat){f:FuncId}{args:Array Value}{Φ:Value->World->Prop}(s:SS w0 h0 w h B Rs F)(c:∀ d,G w d->AllF F d->d[(av B i).b]?=some a6->Seg d (av B j).b 0 (av B j).vs->Calls P f args w (dr (av B i).b w d (fun v w' _=>Φ v w')))(H:∀ v w' o,UpM [(av B i).b] w h w' o->Φ v w'->LG P n N R X ops (k+1) ((t,v)::Γ) w')(a:(decide (i<B.length) && decide (j<B.length) && (i != j))=true:=by kernel_rfl)(C:cL ops Γ k t n=true:=by kernel_rfl)(hr:(execOp (ev Γ) (ak ops k)).run P w=.ok (.enter f args) w:=by kernel_rfl):LG P n N R X ops k Γ w:=by
 simp only[i3,decide_eq_true_eq,bne_iff_ne,ne_eq] at a
 have p:=a8 a.1.2;have z:(av B i).b≠(av B j).b:=eW s.st (decide_eq_true a.1.1) (decide_eq_true a.1.2) (by simpa using a.2);obtain ⟨d,g,gw,J,y⟩:=xd s.g (s.st.jk _ p) (s.st.own _ p);refine eD (rb:=(av B i).b) (Φ:=fun v w' _=>Φ v w') (h:=h) t ((c d g (s.f.gw s.mo gw) (by rw[y _ z];exact s.st.jk _ (a8 a.1.1)) J).mono ?_) (fun v w' o u l=>H v w' o u l) C hr;rintro e w' ⟨v,o,I,u,l⟩;obtain ⟨x,D,_⟩:=wZ (s.st.jk _ p) y (s.g.sz g) u;exact ⟨v,x,I,D,l⟩
theorem FU {α:Type}(t j:Nat)(x y:Operand)(D e:TypeId)(f:α->List Value)(d:α)(A:Z9)(l2:List α)(m m2 c V:Nat)(s:SS w0 h0 w h B Rs F)(so:SlO 1 f d h A l2)(O:l2.length=m2)(K:m2=m)(Q:0<m)(i:(av B j).vs.length=m)
  (H:∀ w',SS w0 h0 w' h (fJ B j (l2.flatMap f)) Rs F->LG P n N R X ops (k+1) ((t,.int .i64 (m:Nat))::Γ) w')(U:m<=1099511627776:=by omega)(I:cL ops Γ k t n=true:=by kernel_rfl)(hj:decide (j<B.length)=true:=by kernel_rfl)
  (hf:∀ x,(f x).length=1:=by intro _;rfl)(h1:∀ x,(f x).all (·.oneCell')=true:=by intro _;kernel_rfl)(Y:(ak ops k).op=.call { callee:=.builtin .copy,args:=#[x,y],argTypes:=#[D,D] }:=by kernel_rfl)(Z:ev Γ x=.slice (some ⟨(av B j).b,0,none⟩) m V:=by kernel_rfl)(S:ev Γ y=.slice A m2 c:=by kernel_rfl)
  (M:P.underlying D=some (.slice e):=by kernel_rfl)(hi:(P.info? e).map (·.size)=some 1:=by kernel_rfl):LG P n N R X ops k Γ w:=by
 subst K;have W:=O;have o:=oT hj;have z:=s.st.own _ (a8 o);have C:(l2.flatMap f).length=m2:=by rw[dQ hf,W];omega
 rw[so.ok oM] at S
 have l:=run_copy_row (P:=P) w D D (ak ops k).type e (av B j).b 0 m2 V ⟨aB A,aO A,none⟩ m2 c (av B j).vs.toArray (av B j).t (l2.flatMap f) M hi z (by rw[C];exact (Nat.min_self m2).symm) (rB s.g (so.flat hf)) (by rw[C];simp[i]) (fun u M=>by
  obtain ⟨a,_,ha⟩:=List.mem_flatMap.1 M;exact (oi.1 (h1 a)) u ha)
 have e1:((av B j).vs.toArray.toList.take 0++l2.flatMap f++(av B j).vs.toArray.toList.drop (0+(l2.flatMap f).length)).toArray=(l2.flatMap f).toArray:=by
  rw[C];simp[yC,i]
 rw[e1,C] at l
 have p:Put (av B j).b w (w.setRow (av B j).b (l2.flatMap f).toArray):=⟨rfl,rfl,rfl,by simp,fun c I=>setRow_other _ _ _ _ I⟩
 have J:Own (w.setRow (av B j).b (l2.flatMap f).toArray) (av B j).b (av B j).t (en (av B j).vs 0 (l2.flatMap f)):=by
  have e2:en (av B j).vs 0 (l2.flatMap f)=l2.flatMap f:=by
   have:=iO (l2.flatMap f) (av B j).vs [] (by rw[i,C])
   simpa using this
  rw[e2];exact setRow_heap _ _ _ _ _ _ z
 have L:=s.st.put s.g0 o p J
 have e2:en (av B j).vs 0 (l2.flatMap f)=l2.flatMap f:=by
  have:=iO (l2.flatMap f) (av B j).vs [] (by rw[i,C])
  simpa using this
 unfold fB at L
 rw[e2] at L
 refine LG.val t _ _ (bF I).1 (bF I).2 ?_ (H _ (s.put0 o p L (iT o)))
 unfold execOp
 have e3:goInt m2=.int .i64 (m2:Nat):=rfl;rw[e3] at l
 simp only[Y,resolve,invoke,builtin,Sem.run_bind,Sem.run_pure,Result.andThen_ok,List.map_toArray,List.map_cons,List.map_nil,Z,S,l]
theorem nH {Q:Exit->Act->World->Prop}{i:Nat}{u:Oper}{v:Value}{S:World->Prop}(hi:ops[i]?=some u)(p:∀ (j:Nat) (o:Oper) cs b,ops[j]?=some o->o.op≠.select cs b)
    (Z:∀ c a w,Q (.panic c) (a.put u.dst v) w->Q (.panic c) a w)(O:∀ w w',S w->Tl M w w'->S w') :
    ∀ (n:Nat) (L:Array Bool) (a:Act) (w:World),
      (∀ j x,ops[j]?=some x->j≠i->L.getD j true=false->(∀ e∈x.after,Region.binds .any e=true->e.on≠i)->u.apart ops x=true) ->
      i∈Region.ready .any ops L->YieldsIf P ops S u v a->S w->oK M P ops Q 0 n (L.setIfInBounds i true) (a.put u.dst v) w->oK M P ops Q 0 (n+1) L a w:=by
  intro n
  induction n with
  | zero =>
    intro L a w _ hr I D H;refine ⟨fun h=>(by rw[h] at hr;cases hr),fun j J=>?_⟩
    by_cases hji:j=i
    . subst hji;exact I.wpOp hi D ⟨Rl.refl _ _ _ _,H⟩
    . have:=ready_mono J hji
      rw[H.1] at this
      cases this
  | succ n ih =>
    intro L a w d hr I D H;refine ⟨fun h=>(by rw[h] at hr;cases hr),fun j J=>?_⟩
    by_cases hji:j=i
    . subst hji;exact I.wpOp hi D ⟨Rl.refl _ _ _ _,H⟩
    . have h1:=H.2 j (ready_mono J hji)
      obtain ⟨l,x,y,B⟩:=mem_ready.1 J
      have z:∀ e∈x.after,Region.binds .any e=true->e.on≠i:=fun e he X W=>by
        have h1:=B e he X;have h0:=(mem_ready.1 hr).1;rw[W] at h1
        obtain ⟨Y,K⟩:=C2 h0
        simp[Array.getD,Y,K] at h1
      have h2:=wpOp_putIf y (d j x y hji l z) (fun cs b=>p i u cs b hi) (fun cs b=>p j x cs b y) Z I h1
      have f:∀ k ok,ops[k]?=some ok->k≠i->(L.setIfInBounds j true).getD k true=false ->
          (∀ e∈ok.after,Region.binds .any e=true->e.on≠i)->u.apart ops ok=true:=fun k ok hk V C U=>by
        refine d k ok hk V ?_ U
        by_cases hjk:j=k
        . subst hjk;exact l
        . rw[getD_set_ne true hjk] at C;exact C
      refine wpOp_mono (fun a' w' F=>⟨F.2.1,ih (L.setIfInBounds j true) a' w' f (ready_mono hr (Ne.symm hji)) F.1 (O _ _ D (F.2.1.2 (GA _))) ?_⟩) h2;rw[Array.setIfInBounds_comm _ _ hji];exact F.2.2
def xf (n:Nat)(ops:Array Oper)(L:Array Bool)(Γ:bO)(i t:Nat):Bool :=
  decide (i<ops.size) && Region.noSelect ops && Region.free .any ops L i && (Region.ready .any ops L).contains i && ((ak ops i).dst == some t) && decide (t<n) && a7 Γ (ak ops i) && (bg ops Γ (ak ops i) == some true)
theorem xR (i t:Nat)(v:Value){S:World->Prop}(f:∀ w w',S w->Tl M w w'->S w')(u:S w)(hv:∀ w',S w'->(execOp (ev Γ) (ak ops i)).run P w'=.ok (.value v) w')(H:AG M P n N R X ops 0 (L.setIfInBounds i true) ((t,v)::Γ) w)(e:xf n ops L Γ i t=true):AG M P n N R X ops 0 L Γ w:=by
 unfold xf at e
 simp only[i3,decide_eq_true_eq,beq_iff_eq] at e
 obtain ⟨⟨⟨⟨⟨⟨⟨h1,p⟩,C⟩,B⟩,y⟩,J⟩,F⟩,x⟩:=e;have hr:i∈Region.ready .any ops L:=by simpa using B
 have d:=bC (ops:=ops) h1;intro a l;have e1:=l.exec (Region.noSelect_spec p i _ · · d) F;have K:=H _ (l.put J v)
 unfold A at *
 rw[d8 hr];refine nH (S:=S) d (Region.noSelect_spec p) (fun c a w D=>D.elim) f _ _ _ _ (fun j z I h o=>Region.free_spec d C j z I h o) hr (.inl ⟨l.want x,fun w' b=>by rw[e1];exact hv w' b⟩) u ?_;rw[y];exact K
theorem zV (i t:Nat)(v:Value)(H:AG M P n N R X ops 0 (L.setIfInBounds i true) ((t,v)::Γ) w)(a:xf n ops L Γ i t=true:=by kernel_rfl)(hv:∀ w,(execOp (ev Γ) (ak ops i)).run P w=.ok (.value v) w:=by intro _;kernel_rfl):AG M P n N R X ops 0 L Γ w :=
 xR i t v (S:=fun _=>True) (fun _ _ _ _=>trivial) trivial (fun w' _=>hv w') H a
theorem zO {K:Nat}(i t:Nat)(ps:List (Nat × Nat × Nat))(v:Value)(hz:M.z=some (K,[]))(y:K<=w.heap.size)(s:SS w0 h0 w h B Rs F)(f:∀ p∈ps,(av B p.1).b<K)(H:AG M P n N R X ops 0 (L.setIfInBounds i true) ((t,v)::Γ) w)(o:xf n ops L Γ i t=true:=by kernel_rfl)(l:cc B ps=true:=by kernel_rfl)(D:bM P (execOp (ev Γ) (ak ops i)) (cI B ps)=some (.value v,bK B ps):=by kernel_rfl):AG M P n N R X ops 0 L Γ w :=
 xR i t v (S:=fun w'=>K<=w'.heap.size/\∀ b,b<K->w'.heap[b]?=w.heap[b]?) (fun w1 w2 c O=>by
  obtain ⟨h1,I⟩:=O K [] hz;exact ⟨ez c.1 h1,fun b j=>(I b j List.not_mem_nil).trans (c.2 b j)⟩) ⟨y,fun _ _=>rfl⟩ (fun w' c=>ce _ _ _ _ D (fun q a u ha J=>by
  obtain ⟨p,e,d⟩:=ol ps q a ha;have:=dO (fun x C=>s.st.own x C) ps l q a u ha J;rw[<-this]
  unfold World.cell?
  rw[c.2 _ (d▸f p e)])) H o
theorem zC (i t:Nat){f:FuncId}{args:Array Value}(c:Calls P f args w fun e w'=>∃ v,e=.returned v/\Tl M w w'/\AG M P n N R X ops 0 (L.setIfInBounds i true) ((t,v)::Γ) w')(j:(gT ops 0 L i && a7 Γ (ak ops i) && ((ak ops i).dst == some t) && decide (t<n))=true:=by kernel_rfl)(p:bg ops Γ (ak ops i)=some true:=by kernel_rfl)
  (hr:(execOp (ev Γ) (ak ops i)).run P w=.ok (.enter f args) w:=by kernel_rfl):AG M P n N R X ops 0 L Γ w:=by
 simp only[i3,decide_eq_true_eq,beq_iff_eq] at j
 obtain ⟨⟨⟨h1,u⟩,o⟩,l⟩:=j;obtain ⟨h,x⟩:=jC h1;intro a d;refine A.one h1 h (R':=fun v w'=>Tl M w w'/\AG M P n N R X ops 0 (L.setIfInBounds i true) ((t,v)::Γ) w') ⟨d.want p,.inr (.inr ⟨f,args,?_,c⟩)⟩ (fun v w' b=>b.1) (fun v w' b=>?_)
 ·rw[d.exec (Region.noSelect_spec x i _ · · h) u];exact hr
 ·rw[o];exact b.2 _ (d.put l v)
theorem Bm {K:Nat}{w':World}(hz:M.z=some (K,[]))(a:K<=w.heap.size)(x:Ext w w'):Tl M w w':=fun d bs e=>by
 rw[hz] at e
 injection e with e;injection e with e1 e2
 subst e1 e2;exact ⟨x.size,fun b c _=>Below.block x b oM⟩
theorem C8 {K b:Nat}{w':World}(hz:M.z=some (K,[]))(a:K<=w.heap.size)(d:K<=b)(x:Mo [b] w w'):Tl M w w':=fun f bs e=>by
 rw[hz] at e
 injection e with e;injection e with e1 e2
 subst e1 e2;exact ⟨x.size,fun c h _=>x.blk c oM (by simp;omega)⟩
theorem oY {K:Nat}(i t:Nat){f:FuncId}{args:Array Value}{Φ:Value->Hp->Prop}(c:Calls P f args w (Ret w h Φ))(hz:M.z=some (K,[]))(d:K<=w.heap.size)(H:∀ v w' a,Up w h w' a->K<=w'.heap.size->Φ v a->AG M P n N R X ops 0 (L.setIfInBounds i true) ((t,v)::Γ) w')(l:(gT ops 0 L i && a7 Γ (ak ops i) && ((ak ops i).dst == some t) && decide (t<n))=true:=by kernel_rfl)(j:bg ops Γ (ak ops i)=some true:=by kernel_rfl)
  (hr:(execOp (ev Γ) (ak ops i)).run P w=.ok (.enter f args) w:=by kernel_rfl):AG M P n N R X ops 0 L Γ w :=
 zC i t (c.mono fun e w' ⟨v,a,o,u,b⟩=>⟨v,o,Bm hz d u.ext,H v w' a u (ez d u.ext.size) b⟩) l j hr
theorem FP {K rb:Nat}(i t:Nat){f:FuncId}{args:Array Value}{Φ:Value->World->Hp->Prop}(c:Calls P f args w (dr rb w h Φ))(hz:M.z=some (K,[]))(j:K<=w.heap.size)(b:K<=rb)(H:∀ v w' a,UpM [rb] w h w' a->K<=w'.heap.size->Φ v w' a->AG M P n N R X ops 0 (L.setIfInBounds i true) ((t,v)::Γ) w')(o:(gT ops 0 L i && a7 Γ (ak ops i) && ((ak ops i).dst == some t) && decide (t<n))=true:=by kernel_rfl)(l:bg ops Γ (ak ops i)=some true:=by kernel_rfl)
  (hr:(execOp (ev Γ) (ak ops i)).run P w=.ok (.enter f args) w:=by kernel_rfl):AG M P n N R X ops 0 L Γ w :=
 zC i t (c.mono fun e w' ⟨v,a,p,u,d⟩=>⟨v,p,C8 hz j b u.mo,H v w' a u (ez j u.mo.size) d⟩) o l hr
theorem dR (s:SS w0 h0 w h B Rs F)(j:Nat)(a:decide (j<B.length)=true:=by kernel_rfl):(av B j).b<w.heap.size:=by rw[s.g.size];exact aE (s.jk j a)
theorem CY (t b o len a sz:Nat)(i:Int)(j e:Nat)(H:LG P n N R X ops (k+1) ((t,.pointer (some ⟨b,0+e*sz,none⟩))::Γ) w)(f:cL ops Γ k t n=true:=by kernel_rfl)(h:wI P (ev Γ) (ak ops k)=some (.slice (some ⟨b,o,none⟩) len a,.int .i64 i,sz):=by kernel_rfl)(hk:i=j:=by omega)(c:j<len:=by omega)(d:o+j*sz=0+e*sz:=by omega):LG P n N R X ops k Γ w :=
 LG.val t _ w (bF f).1 (bF f).2 (d▸fw h rfl hk c w) H
theorem FC (i t b o len a sz:Nat)(x:Int)(j e:Nat)(H:AG M P n N R X ops k0 (L.setIfInBounds i true) ((t,.pointer (some ⟨b,0+e*sz,none⟩))::Γ) w)(h:cE n ops k0 [] L Γ i t=true:=by kernel_rfl)(f:wI P (ev Γ) (ak ops i)=some (.slice (some ⟨b,o,none⟩) len a,.int .i64 x,sz):=by kernel_rfl)(hk:x=j:=by omega)(c:j<len:=by omega)(d:o+j*sz=0+e*sz:=by omega):AG M P n N R X ops k0 L Γ w :=
 aV i t _ H h (fun w=>d▸fw f rfl hk c w)
theorem F3 (i t b o len a sz:Nat)(x:Int)(j e:Nat)(H:AG M P n N R X ops k0 (L.setIfInBounds i true) ((t,.pointer (some ⟨b,0+e*sz,none⟩))::Γ) w)(f:cT n ops k0 L Γ i t=true:=by kernel_rfl)(h:wI P (ev Γ) (ak ops i)=some (.slice (some ⟨b,o,none⟩) len a,.int .i64 x,sz):=by kernel_rfl)(hk:x=j:=by omega)(c:j<len:=by omega)(d:o+j*sz=0+e*sz:=by omega):AG M P n N R X ops k0 L Γ w :=
 T.val i t _ w (rh f).1 (rh f).2 (d▸fw h rfl hk c w) H
theorem FN (t b o len a sz:Nat)(i:Int)(j d:Nat)(H:LG P n N R X ops (k+1) ((t,.slice (some ⟨b,d,none⟩) (len-j) (a-j))::Γ) w)(p:cL ops Γ k t n=true:=by kernel_rfl)(u:B3 P (ev Γ) (ak ops k)=some (.slice (some ⟨b,o,none⟩) len a,some (.int .i64 i),none,sz):=by kernel_rfl)(hk:i=j:=by omega)(c:j<=len:=by omega)(l:a≠j:=by omega)(f:d=o+j*sz:=by omega):LG P n N R X ops k Γ w:=by
 have h:=ne j u hk c w;rw[if_neg l] at h
 have e:(some (⟨b,o,none⟩:Addr)).map (·.add (j*sz))=some ⟨b,d,none⟩:=by subst f;simp[Addr.add]
 rw[e] at h
 exact LG.val t _ w (bF p).1 (bF p).2 h H
theorem SS.torow {α:Type}(s:SS w0 h0 w h B Rs F)(j:Nat)(f:α->List Value)(l:List α)(sz m:Nat)(y:l.length=m)(D:m<=1099511627776)(hB:(av B j).vs=l.flatMap f:=by kernel_rfl)(hf:∀ x,(f x).length=sz:=by intro _;rfl)(C:decide (j<B.length)=true:=by kernel_rfl) :
    SS w0 h0 w h (B.eraseIdx j) (⟨(av B j).t,sz,some ⟨(av B j).b,0,none⟩,m,m,l.flatMap f⟩::Rs) F:=by
  have o:=oT C;have d:=a8 o;have H:=s.st.own _ d
  have z:∀ x∈B.eraseIdx j,x.b≠(av B j).b:=by
    intro x a c;obtain ⟨i,hi,u⟩:=List.mem_iff_getElem.1 a;rw[List.getElem_eraseIdx] at u
    rw[List.length_eraseIdx_of_lt o] at hi
    split at u
    . rename_i I
      refine eW s.st (i:=i) (j:=j) (decide_eq_true oM) C (by simp;omega) ?_;rw[<-c,<-u];simp[av,show i<B.length by omega]
    . rename_i I
      refine eW s.st (i:=i+1) (j:=j) (decide_eq_true oM) C (by simp;omega) ?_;rw[<-c,<-u];simp[av,show i+1<B.length by omega]
  refine ⟨s.g0,⟨s.st.up,fun x a=>s.st.own x (yX a),fun x a=>s.st.jk x (yX a),fun x a=>s.st.lo x (yX a),s.st.nd.sublist ((List.eraseIdx_sublist B j).map (·.b))⟩,?_,?_,s.mo,s.f⟩
  . intro r hr
    rcases List.mem_cons.1 hr with rfl|hr
    . refine ⟨⟨by rw[dQ hf,y],.inr ⟨(av B j).b,m,(av B j).vs.toArray,rfl,s.st.lo _ d,H,ey _,by unfold maxLen;omega,by rw[hB];simp[dQ hf,y],by rw[hB];simp[Ft,dQ hf,y]⟩⟩,?_,?_⟩
      . intro b c
        have:(av B j).b=b:=by simpa [Rw.v,Value.ownBlock] using c
        rw[<-this];exact s.st.jk _ d
      . intro b c p
        have:(av B j).b=b:=by simpa [Rw.v,Value.ownBlock] using c
        obtain ⟨x,a,e⟩:=g1.1 p;exact z x a (e.trans this.symm)
    . exact (s.ro r hr).sub _ (fun b c=>by
        obtain ⟨x,a,e⟩:=g1.1 c;exact g1.2 ⟨x,yX a,e⟩)
  . refine List.pairwise_cons.2 ⟨fun r hr b c hv=>?_,s.ap⟩
    have:(av B j).b=b:=by simpa [Rw.v,Value.ownBlock] using c
    exact (s.ro r hr).ap b hv (this▸g1.2 ⟨_,d,rfl⟩)
theorem EJ {α:Type}(t j m I:Nat)(l:List α)(f:α->List Value)(d x:α)(o:Nat)(z:Value)(s:SS w0 h0 w h B Rs F)(V:Seg h I 0 (f x))(C:l.length=m)(D:m<=1000000000)
  (H:∀ a c' w' e,SS w0 h0 w' e (B.eraseIdx j) Rs ((fun h=>SlO 1 f d h a (l++[x]))::F)->m+1<=c'->LG P n N R X ops (k+1) ((t,.slice a (m+1) c')::Γ) w')(M:cL ops Γ k t n=true:=by kernel_rfl)(S:decide (j<B.length)=true:=by kernel_rfl)(hB:(av B j).vs=l.flatMap f:=by kernel_rfl)
  (O:C4 P (ev Γ) (ak ops k)=some (.slice (some ⟨(av B j).b,0,none⟩) m m,.slice (some ⟨I,0,none⟩) 1 1,(av B j).t,z,1,o):=by kernel_rfl)(p:z.cells.size=1:=by kernel_rfl)(hf:∀ x,(f x).length=1:=by intro _;rfl)(h1:(f x).all (·.oneCell')=true:=by kernel_rfl)(i:o<=100:=by decide):LG P n N R X ops k Γ w:=by
 have J:=s.torow j f l 1 m C oM hB hf S
 refine FF t 0 (f x) J (j9 J.g V) (hf x) (fun u U=>(oi.1 h1) u U) (by simp) rfl M O p kD oM (by
  have:(m+1)*o<=(m+1)*100:=A5 _ i
  omega) (fun a c' w' e K=>?_)
 have e1:m+1=(l++[x]).length:=by simp[C]
 have e2:l.flatMap f++f x=(l++[x]).flatMap f:=by simp
 rw[e2,List.set_cons_zero] at K
 have L:SS w0 h0 w' e (B.eraseIdx j) (⟨(av B j).t,1,a,c',(l++[x]).length,(l++[x]).flatMap f⟩::Rs) F:=by rw[<-e1];exact K
 obtain ⟨y,Q,c⟩:=L.pubr 0 d hf rfl (by simp);exact H a c' w' y Q (by rw[e1];exact c)
theorem SS.perm (s:SS w0 h0 w h B Rs F){c:List Bx}(p:B.Perm c):SS w0 h0 w h c Rs F :=
 ⟨s.g0,⟨s.st.up,fun x a=>s.st.own x (p.mem_iff.2 a),fun x a=>s.st.jk x (p.mem_iff.2 a),fun x a=>s.st.lo x (p.mem_iff.2 a),(p.map (·.b)).nodup_iff.1 s.st.nd⟩,
  fun r hr=>(s.ro r hr).sub _ (fun b d=>(p.map (·.b)).mem_iff.2 d),s.ap,s.mo,s.f⟩
end
theorem uO (a:Nat)(A:Z9)(c:Nat)(J:(lim a).length<=c)(B:(lim a).length<=4000000000)(w:World)(h:Hp)(g:G w h)(H:S3 A (lim a) h):CV 120 #[.slice A ((lim a).length) c] w h (nV (nb a)):=by
 have b:=((sS g).aS H);have z:=@de a;have l:=(Ld.lim a).get ((lim a).length-1);refine go Tryz.func120 [(0,qS A ((lim a).length) c)] rfl (aa b ac (af (aa b [.c,.v (nV ((lim a).length))] ?_)));cases e:((((lim a).length:Nat):Int) == (0:Int))
 .
  have i:=aq e;refine lB 7 e (aj (cK (aa b [.c,.v (nV ((lim a).length))] (bA 10 (((lim a).length:Nat)-1) (((lim a).length)-1) ?_))));refine bA 11 (32*(((lim a).length)-1:Nat)) (32*(((lim a).length)-1:Nat)) (lL b ac (af (aa b [.c,.c,.v (nV ((lim a).length))] (lI 15 (((lim a).length:Nat)-1) ?_))));refine lX 16 A ((lim a).length) c 1 (((lim a).length:Nat)-1) (((lim a).length)-1) ((b.f.1).ok oM) (lH 17 (mW ((lim a).getD (((lim a).length)-1) 0)) b ((b.f.1).el (((lim a).length)-1) oM) (lL b ac (ba ?_)));refine bS _ (CG.loop (fun o Γ y=>∃ (n:Nat)(x:Nat)(h_:Hp),o=x/\Γ=[(2,iV 0),(3,nV n),(4,mW x)]/\SS w h y h_ [] [] [S3 A (lim a)]/\n+nb x=nb a/\x<4294967296/\nb a<=128000000000) _ ⟨32*((lim a).length-1),(lim a).getD ((lim a).length-1) 0,h,rfl,rfl,b.to _ _,(B5 oM).symm,l,(by have:=n9 a;omega)⟩ ?_);rintro _ _ w2 ⟨n,x,C,D,rfl,b,p,K,u⟩;refine cQ (aa b ac ?_);cases d:(decide ((0:Int)<(x:Int)))
  .
   have j:=oF d;refine lB 19 d (aj (CG.exit ?_))
   show CG _ _ _ _ _ _ _ _
   exact aa b aF (ae b [] (nV n) (by obtain rfl:x=0:=oM;rw[xL] at p;rw[<-p];rfl))
  have j:=oT d;refine lB 19 d (ar (cK (cQ (kZ (kQ (lL b ac (bA 23 ((n:Nat)+1) (n+1) ?_)))))));refine lL b ac (lN (kQ (lL b ac (lV 21 (mW (x/2)) ?_ (hr:=aY (n:=Gv (x:Nat) 2) kR (jm x 2))))));refine lL b ac (lD ?_);intro I F;refine ⟨_,_,?_,⟨n+1,x/2,C,rfl,rfl,b.to _ _,(by have:=wD (n:=x) oM;omega),oM,u⟩,F.to _ kR⟩
  omega
 have i:=eq_of_beq e;exact lB 7 e (ar (aa b ac (ae b [] (iV 0) (by obtain rfl:a=0:=oM;rfl))))
def l3 (u2 u1 u0:Nat):Nat:=4294967296*(4294967296*u2+u1)+u0
def l2 (v1 v0:Nat):Nat:=4294967296*v1+v0
structure Hss (u2 u1 u0 v1 v0 g r o:Nat):Prop where
  e:g*v1+(r+4294967296*o)=4294967296*u2+u1
  lt:g+1=4294967296\/l3 u2 u1 u0<(g+1)*l2 v1 v0
  gb:g<4294967296
structure Gk (u2 u1 u0 v1 v0 g r:Nat):Prop where
  e:g*v1+r=4294967296*u2+u1
  lt:4294967296<=g+1\/l3 u2 u1 u0<(g+1)*l2 v1 v0
section joi
variable {P:Program}{n:Nat}{N R:Po}{X:Nat->Po}{Γ:bO}{w:World}
theorem CG.join {x y:Code}(I:bO->World->Prop)(h1:CG P n (fun a w'=>∃ b,I b w'/\Kn n a b) R X x Γ w)(h:∀ Γ w,I Γ w->CG P n N R X y Γ w):CG P n N R X (.seq x y) Γ w:=by
 intro a f;refine wp_seq (wp_mono (h1 a f) ?_);intro e a w d;cases e with
 | normal=>obtain ⟨b,i,c⟩:=d;exact h b w i a c
 | _=>exact d
end joi
section fin
variable {M:Ms}{P:Program}{n:Nat}{N R:Po}{X:Nat->Po}{ops:Array Oper}{k0:Nat}{hr:Hp}{L:Array Bool}{Γ:bO}{w:World}{h:Hp}{w0:World}{h0:Hp}{B:List Bx}{Rs:List Rw}{F:List (Hp->Prop)}
theorem ig (s:SS w0 h0 w h B Rs F)(H:∀ w' a,Up w h w' a->SS w0 h0 w' a B Rs F->AG M P n N R X ops k0 L Γ w')(b:eu ops [] L=true:=by kernel_rfl):EG M P n N R X ops k0 hr [] L Γ w h:=Rg.fin0 b (fun w' a u=>H w' a u (s.step u))
end fin
theorem rv (a:Nat)(A:Z9)(c:Nat)(u:(lim a).length<=c)(b:Nat)(D:Z9)(d:Nat)(y:(lim b).length<=d)(B:(lim a).length<=3000000000)(C:(lim b).length<=3000000000)(i:a<b)(w:World)(h:Hp)(g:G w h)(H:S3 A (lim a) h)(z:S3 D (lim b) h):CR 122 #[.slice A ((lim a).length) c,.slice D ((lim b).length) d] w h (fun v h1=>∃ x l,v=.tuple #[x,l]/\RN h1 x (a/b)/\RN h1 l (a%b)):=by
 have e:=(((sS g).aS H).aS z);have F:=cW i;refine go Tryz.func122 [(0,qS A ((lim a).length) c),(1,qS D ((lim b).length) d)] rfl (aa e aF (af (aa e aF (ao 27 e (js a A c u b D d y oM oM _ _ e.g e.f.2.1 e.f.1) (fun w1 I e=>?_)))));have ⟨j,o⟩:=dT (p:=(bG a b:Int)<(0:Int)) oM;exact lB 28 j (ar (aa e eo (ae e [] (.tuple #[sZ,qS A ((lim a).length) c]) (⟨_,_,rfl,by rw[z1 i];exact ⟨none,0,rfl,nR _,SlO.nil⟩,by rw[yL i];exact ⟨A,c,rfl,u,e.f.2.1⟩⟩))))
theorem oC {b:Nat}(h:(lim b).length=1):b<4294967296/\(lim b).getD 0 0=b/\0<b:=by
 have h1:=gU b;rw[h] at h1
 have a:0<b:=de.1 oM;refine ⟨by omega,?_,a⟩;rw[wT a oM];rfl
theorem oe (a:Nat)(A:Z9)(c:Nat)(H:(lim a).length<=c)(b:Nat)(D:Z9)(d:Nat)(K:(lim b).length<=d)(M:(lim a).length<=3000000000)(Q:(lim b).length<=3000000000)(u:b<=a)(h1:(lim b).length=1)(w:World)(h:Hp)(g:G w h)(Z:S3 A (lim a) h)(L:S3 D (lim b) h):CR 122 #[.slice A ((lim a).length) c,.slice D ((lim b).length) d] w h (fun v h1=>∃ J z,v=.tuple #[J,z]/\RN h1 J (a/b)/\RN h1 z (a%b)):=by
 have e:=(((sS g).aS Z).aS L);have U:=eU u;obtain ⟨X,l,i⟩:=oC h1;refine go Tryz.func122 [(0,qS A ((lim a).length) c),(1,qS D ((lim b).length) d)] rfl (aa e aF (af (aa e aF (ao 27 e (js a A c H b D d K oM oM _ _ e.g e.f.2.1 e.f.1) (fun w1 h2 e=>?_)))));have ⟨i,F⟩:=dF (p:=(bG a b:Int)<(0:Int)) oM;refine lB 28 i (aj (cK (cQ (aa e [.c,.v (nV ((lim b).length))] ?_))));have j:((((lim b).length:Nat):Int) == (1:Int))=true:=Cg oM;have I:=eq_of_beq j;refine lB 32 j (ar (aa e aF (lX 36 D ((lim b).length) d 1 0 0 ((e.f.1).ok oM) ?_)));refine lH 37 (mW ((lim b).getD 0 0)) e ((e.f.1).el 0 oM) (lC 38 e (Fa a A c H oM ((lim b).getD 0 0) oM oM _ _ e.g e.f.2.1) ?_);rintro _ w5 h6 e ⟨_,r,rfl,⟨B,C,rfl,o,V⟩,x⟩;replace e:=e.aS V;refine lL e [.c,.v (qS B ((lim (a/((lim b).getD 0 0))).length) C),.v (mW r),.c,.c] (aK (lL e aF ?_));have S:=yM a (show 0<(lim b).getD 0 0 by omega);refine lV 43 (mV r) ?_ (hr:=rU ((r:Int)) kR (bD oM oM));refine lC 44 e (l7 r oM _ _ e.g) ?_;rintro _ _ _ e ⟨Y,W,rfl,y,O⟩;replace e:=e.aS O;exact lL e aF (ae e [] (.tuple #[qS B ((lim (a/((lim b).getD 0 0))).length) C,qS Y ((lim r).length) W]) (⟨_,_,rfl,by rw[l] at *;exact ⟨_,_,rfl,o,e.f.2.1⟩,by rw[<-l,<-x];exact ⟨_,_,rfl,y,e.f.1⟩⟩))
theorem kv (x y:Nat):Nat.gcd y (x%y)=Nat.gcd x y:=by rw[GB y,<-Nat.gcd_rec,GB]
def ag (x:Nat):List Value:=[.int .u64 (x:Nat)]
theorem uM {l:List Nat}{m:Nat}(h:0<m)(h0:l.getD (m-1) 0=0):tl l m=tl l (m-1):=by
 obtain ⟨k,rfl⟩:∃ k,m=k+1:=⟨m-1,by omega⟩;rw[jh,if_pos (by simpa using h0)];rfl
theorem mK (s:ByteArray)(d:8<=s.size)(w:World)(h:Hp)(g:G w h):CV 103 #[.string s] w h (mV (wv s)):=by
 have c:=sS g;have f:=bX s 0;have p:=bX s 1;have o:=bX s 2;have D:=bX s 3;have C:=bX s 4;have z:=bX s 5;have l:=bX s 6;have e:=bX s 7;refine go Tryz.func103 [(0,.string s)] rfl (aa c ac (af (cR 38 [] mixed c am ?_)));refine eV 0 3 (.string s) (eV 1 4 (.int .u8 (aG s 0:Nat)) ?_ (hv:=fun _=>dG (tx:=9) (x:=.tmp 3) (i:=.const (iV 0)) (k:=.i64) (s:=s) (n:=0) (j:=(0:Int)) kR kR kR kR oM oM _));refine eV 2 5 (mV (aG s 0)) ?_ (hv:=fun _=>rU (((aG s 0:Nat):Int)) kR (bD oM oM));refine eV 3 6 (.string s) (eV 4 7 (.int .u8 (aG s 1:Nat)) ?_ (hv:=fun _=>dG (tx:=9) (x:=.tmp 6) (i:=.const (iV 1)) (k:=.i64) (s:=s) (n:=1) (j:=(1:Int)) kR kR kR kR oM oM _));refine eV 5 8 (mV (aG s 1)) ?_ (hv:=fun _=>rU (((aG s 1:Nat):Int)) kR (bD oM oM));refine eV 6 9 (mV ((aG s 1)*256)) ?_ (hv:=fun _=>rU ((((aG s 1:Nat):Int)*256)) kR ((bD oM oM).trans oM));refine eV 7 10 (mV (aG s 0+aG s 1*256)) ?_ (hv:=fun _=>aY (im (t:=33) (u:=33) (x:=.tmp 5) (y:=.tmp 9) (a:=(aG s 0)) (b:=((aG s 1)*256)) kR kR kR oM oM _) (by rw[fM 8 oM];first|done|omega));refine eV 8 11 (.string s) (eV 9 12 (.int .u8 (aG s 2:Nat)) ?_ (hv:=fun _=>dG (tx:=9) (x:=.tmp 11) (i:=.const (iV 2)) (k:=.i64) (s:=s) (n:=2) (j:=(2:Int)) kR kR kR kR oM oM _));refine eV 10 13 (mV (aG s 2)) ?_ (hv:=fun _=>rU (((aG s 2:Nat):Int)) kR (bD oM oM));refine eV 11 14 (mV ((aG s 2)*65536)) ?_ (hv:=fun _=>rU ((((aG s 2:Nat):Int)*65536)) kR ((bD oM oM).trans oM));refine eV 12 15 (mV (aG s 0+aG s 1*256+aG s 2*65536)) ?_ (hv:=fun _=>aY (im (t:=33) (u:=33) (x:=.tmp 10) (y:=.tmp 14) (a:=(aG s 0+aG s 1*256)) (b:=((aG s 2)*65536)) kR kR kR oM oM _) (by rw[fM 16 oM];first|done|omega));refine eV 13 16 (.string s) (eV 14 17 (.int .u8 (aG s 3:Nat)) ?_ (hv:=fun _=>dG (tx:=9) (x:=.tmp 16) (i:=.const (iV 3)) (k:=.i64) (s:=s) (n:=3) (j:=(3:Int)) kR kR kR kR oM oM _));refine eV 15 18 (mV (aG s 3)) ?_ (hv:=fun _=>rU (((aG s 3:Nat):Int)) kR (bD oM oM));refine eV 16 19 (mV ((aG s 3)*16777216)) ?_ (hv:=fun _=>rU ((((aG s 3:Nat):Int)*16777216)) kR ((bD oM oM).trans oM));refine eV 17 20 (mV (aG s 0+aG s 1*256+aG s 2*65536+aG s 3*16777216)) ?_ (hv:=fun _=>aY (im (t:=33) (u:=33) (x:=.tmp 15) (y:=.tmp 19) (a:=(aG s 0+aG s 1*256+aG s 2*65536)) (b:=((aG s 3)*16777216)) kR kR kR oM oM _) (by rw[fM 24 oM];first|done|omega));refine eV 18 21 (.string s) (eV 19 22 (.int .u8 (aG s 4:Nat)) ?_ (hv:=fun _=>dG (tx:=9) (x:=.tmp 21) (i:=.const (iV 4)) (k:=.i64) (s:=s) (n:=4) (j:=(4:Int)) kR kR kR kR oM oM _));refine eV 20 23 (mV (aG s 4)) ?_ (hv:=fun _=>rU (((aG s 4:Nat):Int)) kR (bD oM oM));refine eV 21 24 (mV ((aG s 4)*4294967296)) ?_ (hv:=fun _=>rU ((((aG s 4:Nat):Int)*4294967296)) kR ((bD oM oM).trans oM));refine eV 22 25 (mV (aG s 0+aG s 1*256+aG s 2*65536+aG s 3*16777216+aG s 4*4294967296)) ?_ (hv:=fun _=>aY (im (t:=33) (u:=33) (x:=.tmp 20) (y:=.tmp 24) (a:=(aG s 0+aG s 1*256+aG s 2*65536+aG s 3*16777216)) (b:=((aG s 4)*4294967296)) kR kR kR oM oM _) (by rw[fM 32 oM];first|done|omega));refine eV 23 26 (.string s) (eV 24 27 (.int .u8 (aG s 5:Nat)) ?_ (hv:=fun _=>dG (tx:=9) (x:=.tmp 26) (i:=.const (iV 5)) (k:=.i64) (s:=s) (n:=5) (j:=(5:Int)) kR kR kR kR oM oM _));refine eV 25 28 (mV (aG s 5)) ?_ (hv:=fun _=>rU (((aG s 5:Nat):Int)) kR (bD oM oM));refine eV 26 29 (mV ((aG s 5)*1099511627776)) ?_ (hv:=fun _=>rU ((((aG s 5:Nat):Int)*1099511627776)) kR ((bD oM oM).trans oM));refine eV 27 30 (mV (aG s 0+aG s 1*256+aG s 2*65536+aG s 3*16777216+aG s 4*4294967296+aG s 5*1099511627776)) ?_ (hv:=fun _=>aY (im (t:=33) (u:=33) (x:=.tmp 25) (y:=.tmp 29) (a:=(aG s 0+aG s 1*256+aG s 2*65536+aG s 3*16777216+aG s 4*4294967296)) (b:=((aG s 5)*1099511627776)) kR kR kR oM oM _) (by rw[fM 40 oM];first|done|omega));refine eV 28 31 (.string s) (eV 29 32 (.int .u8 (aG s 6:Nat)) ?_ (hv:=fun _=>dG (tx:=9) (x:=.tmp 31) (i:=.const (iV 6)) (k:=.i64) (s:=s) (n:=6) (j:=(6:Int)) kR kR kR kR oM oM _));refine eV 30 33 (mV (aG s 6)) ?_ (hv:=fun _=>rU (((aG s 6:Nat):Int)) kR (bD oM oM));refine eV 31 34 (mV ((aG s 6)*281474976710656)) ?_ (hv:=fun _=>rU ((((aG s 6:Nat):Int)*281474976710656)) kR ((bD oM oM).trans oM));refine eV 32 35 (mV (aG s 0+aG s 1*256+aG s 2*65536+aG s 3*16777216+aG s 4*4294967296+aG s 5*1099511627776+aG s 6*281474976710656)) ?_ (hv:=fun _=>aY (im (t:=33) (u:=33) (x:=.tmp 30) (y:=.tmp 34) (a:=(aG s 0+aG s 1*256+aG s 2*65536+aG s 3*16777216+aG s 4*4294967296+aG s 5*1099511627776)) (b:=((aG s 6)*281474976710656)) kR kR kR oM oM _) (by rw[fM 48 oM];first|done|omega));refine eV 33 36 (.string s) (eV 34 37 (.int .u8 (aG s 7:Nat)) ?_ (hv:=fun _=>dG (tx:=9) (x:=.tmp 36) (i:=.const (iV 7)) (k:=.i64) (s:=s) (n:=7) (j:=(7:Int)) kR kR kR kR oM oM _));refine eV 35 38 (mV (aG s 7)) ?_ (hv:=fun _=>rU (((aG s 7:Nat):Int)) kR (bD oM oM));refine eV 36 39 (mV ((aG s 7)*72057594037927936)) ?_ (hv:=fun _=>rU ((((aG s 7:Nat):Int)*72057594037927936)) kR ((bD oM oM).trans oM));refine eV 37 40 (mV (aG s 0+aG s 1*256+aG s 2*65536+aG s 3*16777216+aG s 4*4294967296+aG s 5*1099511627776+aG s 6*281474976710656+aG s 7*72057594037927936)) ?_ (hv:=fun _=>aY (im (t:=33) (u:=33) (x:=.tmp 35) (y:=.tmp 39) (a:=(aG s 0+aG s 1*256+aG s 2*65536+aG s 3*16777216+aG s 4*4294967296+aG s 5*1099511627776+aG s 6*281474976710656)) (b:=((aG s 7)*72057594037927936)) kR kR kR oM oM _) (by rw[fM 56 oM];first|done|omega));exact bW c (fun w1 B c=>tV 38 2 (mV (aG s 0+aG s 1*256+aG s 2*65536+aG s 3*16777216+aG s 4*4294967296+aG s 5*1099511627776+aG s 6*281474976710656+aG s 7*72057594037927936)) (tN (kX (c.ret [] (mV (aG s 0+aG s 1*256+aG s 2*65536+aG s 3*16777216+aG s 4*4294967296+aG s 5*1099511627776+aG s 6*281474976710656+aG s 7*72057594037927936)) rfl))))
theorem xZ (A:Z9)(c:Nat)(l:List Nat)(D:l.length<=1099511627776)(H:l.length<=c)(w:World)(h:Hp)(g:G w h)(B:SlO 1 ag 0 h A l):CV 114 #[.slice A l.length c] w h (.slice A (tl l l.length) c):=by
 have a:=((sS g).aS B);refine go Tryz.func114 [(0,qS A l.length c)] rfl (aa a ac (af (kZ ?_)));refine bS _ (CG.loop (fun o Γ x=>∃ (m:Nat)(j:Hp),o=m/\Γ=[(2,sZ),(0,qS A m c)]/\SS w h x j [] [] [fun j=>SlO 1 ag 0 j A l]/\m<=l.length/\tl l l.length=tl l m) _ ⟨l.length,h,rfl,rfl,a.to _ _,nR _,rfl⟩ ?_);rintro _ _ w1 ⟨m,y,u,rfl,a,C,p⟩;refine cQ (aa a [.c,.v (nV m)] ?_);cases d:(decide ((0:Int)<(m:Int)))
 .
  have e:=oF d;refine lB 5 d (lL a ac (lG 7 ?_));refine lG 8 (lG 9 (lG 10 (lG 11 (lG 12 (lG 13 (lL a [.v qF] (aj (CG.exit ?_))))))))
  show CG _ _ _ _ _ _ _ _
  exact aa a aF (ae a [] (qS A m c) (by rw[p,k6 oM]))
 have e:=oT d;refine lB 5 d (lL a [.c,.c,.c,.v (nV m)] (bA 10 ((m:Nat)-1) (m-1) ?_));refine lX 11 A m c 1 (m-1:Nat) (m-1) ((a.f.1).ok oM) (lH 12 (mV (l.getD (m-1) 0)) a ((a.f.1).el (m-1) oM) ?_);cases b:(((l.getD (m-1) 0:Nat):Int) == (0:Int))
 .
  have i:=aq b;refine lB 13 b (lL a [.v qF] (aj (CG.exit ?_)))
  show CG _ _ _ _ _ _ _ _
  exact aa a aF (ae a [] (qS A m c) (by rw[p,k6 oM]))
 have i:=eq_of_beq b;refine lB 13 b (lL a [.v qT] (ar (cK (kZ (kQ (lL a [.c,.c,.v (nV m)] (bA 18 ((m:Nat)-1) (m-1) ?_)))))));refine lT 19 A m c 1 (m-1:Nat) (m-1) (lL a ac (lD ?_));intro F z;refine ⟨_,_,?_,⟨m-1,y,rfl,rfl,a.to _ _,oM,(by rw[p];exact uM oM oM)⟩,z.to _ kR⟩
 omega
theorem nY {l m:List Nat}(a:l.length=m.length)(h:∀ j,j<l.length->l.getD j 0=m.getD j 0):l=m:=by
 apply List.ext_getElem a
 intro i h1 b;have:=h i h1
 simpa [h1,b] using this
theorem n0 {l m:List Nat}{i x:Nat}(hi:i<l.length)(h:∀ j,j<i->l.getD j 0=m.getD j 0)(a:x=m.getD i 0):∀ j,j<i+1->(l.set i x).getD j 0=m.getD j 0:=fun j b=>by
 rw[bv hi]
 split
 ·rename_i e;rw[<-e];exact a
 ·exact h j oM
def wl (h h1:Hp)(v:Value)(l:List Nat):Prop:=∃ b,v=.slice (some ⟨b,0,none⟩) l.length l.length/\h.size<=b/\h1[b]?=some (.cells (l.flatMap ag).toArray 33 (0,0))/\SlO 1 ag 0 h1 (some ⟨b,0,none⟩) l
theorem jd  (w:World)(h:Hp)(g:G w h):CV 78 #[nv 0] w h sZ:=by
 have a:=sS g;exact go Tryz.func78 [(0,nv 0)] rfl (aD (lA 1 35 ([uV 0,eS]) a (fun b w2 d a=>lL a ac (af (aa a [.v (qP b 1),.o (eS) 0 1 1,.v qT,.c,.v (pB b),.o (uV 0) 0 0 1,.v qT,.v qT] (ar (aa a ac (ae a [] (sZ) rfl))))))))
theorem fW (s:ByteArray)(k:Nat):(s.extract k s.size).size=s.size-k:=by
 simp[ByteArray.size_extract]
theorem nM {n L:Nat}(a:0<L):∀ j,j<1->((yJ L 0).set 0 (n%18446744073709551616)).getD j 0=(wds n).getD j 0:=fun j b=>by
 have:j=0:=by omega
 subst this;rw[bv (by simpa using a),if_pos rfl];have:=o5 n
 unfold lo at this
 exact Int.ofNat.inj this
theorem vA (n:Nat)(U:0<n)(hl:(wds n).length<=1000000000)(B:n<18446744073709551616)(w:World)(h:Hp)(g:G w h):CR 78 #[nv n] w h (fun v h1=>wl h h1 v (wds n)):=by
 have e:=sS g;have hz:=fZ n;have hp:=jl.2 U;have hlo:=jH B;have J:=congrArg List.length (iQ U B)
 simp only[List.length_singleton] at J
 refine go Tryz.func78 [(0,nv n)] rfl (aD (lA 1 35 (nc n) e (fun p w2 h3 e=>lL e ac (af (aa e [.v (qP p 1),.o (.string (hi n)) 0 1 1] (lV 7 qT ?_ (hr:=rb kR (ip (dB B)))))))));refine lL e [.c,.v (pB p),.o (mV (n%18446744073709551616)) 0 0 1] ?_;have H:(((n%18446744073709551616:Nat):Int) == (0:Int))=false:=e9 oM;have V:=aq H;refine lB 11 H (lL e [.v qF] (aj (cK (aa e [.v (qP p 1),.o (.string (hi n)) 0 1 1,.v (nV ((hi n).size))] (lV 16 (nV (((hi n).size)/8)) ?_ (hr:=aY (db (t:=3) (u:=3) (x:=.tmp 15) (y:=.const (iV 8)) (k:=.i64) (a:=(((hi n).size:Nat):Int)) (b:=(8:Int)) kR kR kR oM _) (cM ((hi n).size) 8 oM)))))));refine bA 17 (1+(((hi n).size)/8:Nat)) ((wds n).length) (lK 18 33 ((wds n).length) 1 8 (uV 0) ag 0 e (fun z w6 h7 e=>?_));have K:(yJ ((wds n).length) 0).length=((wds n).length):=by simp
 refine lL e ac (aK (lL e [.c,.v (pB p),.o (mV (n%18446744073709551616)) 1 0 1] (lX 22 (sB z) ((wds n).length) ((wds n).length) 1 0 0 rfl ?_)));refine lW 0 (yJ ((wds n).length) 0) ag 1 0 (n%18446744073709551616) e oM (fun w9 e=>?_);have Z:((yJ ((wds n).length) 0).set 0 (n%18446744073709551616)).length=((wds n).length):=by rw[Gq];exact K
 replace e:=e.to [⟨z,33,((yJ ((wds n).length) 0).set 0 (n%18446744073709551616)).flatMap ag⟩,⟨p,35,nc n⟩] [];refine af (aa e ac (ba ?_));refine bS _ (CG.loop (fun M Γ W=>∃ (i:Nat)(l:List Nat)(h_:Hp),M=(wds n).length-i/\Γ=[(1,pB p),(2,sZ),(3,qS (sB z) ((wds n).length) ((wds n).length)),(4,nV i)]/\SS w h W h_ [⟨z,33,(l).flatMap ag⟩,⟨p,35,nc n⟩] [] []/\1<=i/\i<=(wds n).length/\l.length=(wds n).length/\(∀ j,j<i->l.getD j 0=(wds n).getD j 0)) _ ⟨1,(yJ ((wds n).length) 0).set 0 (n%18446744073709551616),h7,rfl,rfl,e.to _ _,nR _,by omega,Z,nM oM⟩ ?_);rintro _ _ _ ⟨i,l,_,Q,rfl,e,Y,hi2,O,S⟩;refine cQ (aa e [.c,.c,.v (nV ((wds n).length))] ?_);cases I:(decide ((i:Int)<((((wds n).length):Nat):Int)))
 .
  have X:=oF I;refine lB 26 I (aj (CG.exit ?_))
  show CG _ _ _ _ _ _ _ _
  refine aa e aF (lN (kX ?_));have hiL:i=(wds n).length:=by omega
  have L:l=wds n:=nY oM (fun j hj=>S j oM);rw[L] at e
  obtain ⟨_,e,F,D,C⟩:=e.pub 0;replace e:=(e.to [⟨p,35,nc n⟩] []).aS (SlO.of_flat (sz:=1) (f:=ag) (d:=0) (b:=z) (o:=0) (l:=wds n) (fun _=>rfl) F);exact e.ret [] (qS (sB z) ((wds n).length) ((wds n).length)) (⟨z,rfl,D,C,e.f.1⟩)
 have X:=oT I;refine lB 26 I (ar (cK (cQ (kZ (kQ (lL e [.c,.c,.v (qP p 1),.o (.string (hi n)) 1 1 1,.c] (lI 34 ((i:Nat)-1) ?_)))))));refine bA 35 (8*((i:Nat)-1)) (8*(i-1)) (lV 36 (.string ((hi n).extract (8*(i-1)) (hi n).size)) ?_ (hr:=mZ (tx:=9) (x:=.tmp 32) (i:=.tmp 35) (k:=.i64) (s:=hi n) (n:=(8*(i-1))) (j:=((8*(i-1):Nat):Int)) kR kR kR kR oM oM _));refine ao 37 e (mK ((hi n).extract (8*(i-1)) (hi n).size) (by rw[fW];omega) _ _ e.g) (fun _ ze e=>lX 38 (sB z) ((wds n).length) ((wds n).length) 1 (i:Nat) i rfl (lW 0 l ag 1 i (wv ((hi n).extract (8*(i-1)) (hi n).size):Nat) e oM (fun _ e=>?_)));have zd:((l).set i (wv ((hi n).extract (8*(i-1)) (hi n).size):Nat)).length=((wds n).length):=by rw[Gq];exact O
 replace e:=e.to [⟨z,33,((l).set i (wv ((hi n).extract (8*(i-1)) (hi n).size):Nat)).flatMap ag⟩,⟨p,35,nc n⟩] [];refine lN (kQ (lL e ac (bA 28 ((i:Nat)+1) (i+1) ?_)));refine lL e ac (lD ?_);intro a_ ka;refine ⟨_,_,?_,⟨i+1,(l).set i (wv ((hi n).extract (8*(i-1)) (hi n).size):Nat),ze,rfl,rfl,e.to _ _,oM,oM,zd,(n0 oM S (by rw[gW n (i-1) oM,show i-1+1=i by omega]))⟩,ka.to _ kR⟩
 omega
theorem vv (n:Nat)(V:0<n)(hl:(wds n).length<=1000000000)(J:18446744073709551616<=n)(w:World)(h:Hp)(g:G w h):CR 78 #[nv n] w h (fun v h1=>wl h h1 v (wds n)):=by
 have e:=sS g;have hz:=fZ n;have hp:=jl.2 V;refine go Tryz.func78 [(0,nv n)] rfl (aD (lA 1 35 (nc n) e (fun p w2 h3 e=>lL e ac (af (aa e [.v (qP p 1),.o (.string (hi n)) 0 1 1] (lV 7 qF ?_ (hr:=rb kR (gn (dS J)))))))));refine lL e ac (lG 9 ?_);refine lG 10 (lG 11 (lL e [.v qF] (aj (cK (aa e [.v (qP p 1),.o (.string (hi n)) 0 1 1,.v (nV ((hi n).size))] (lV 16 (nV (((hi n).size)/8)) ?_ (hr:=aY (db (t:=3) (u:=3) (x:=.tmp 15) (y:=.const (iV 8)) (k:=.i64) (a:=(((hi n).size:Nat):Int)) (b:=(8:Int)) kR kR kR oM _) (cM ((hi n).size) 8 oM))))))));refine bA 17 (1+(((hi n).size)/8:Nat)) ((wds n).length) (lK 18 33 ((wds n).length) 1 8 (uV 0) ag 0 e (fun z w5 Z e=>?_));have I:(yJ ((wds n).length) 0).length=((wds n).length):=by simp
 refine lL e ac (aK (lL e [.c,.v (pB p),.o (mV (n%18446744073709551616)) 1 0 1] (lX 22 (sB z) ((wds n).length) ((wds n).length) 1 0 0 rfl ?_)));refine lW 0 (yJ ((wds n).length) 0) ag 1 0 (n%18446744073709551616) e oM (fun w8 e=>?_);have H:((yJ ((wds n).length) 0).set 0 (n%18446744073709551616)).length=((wds n).length):=by rw[Gq];exact I
 replace e:=e.to [⟨z,33,((yJ ((wds n).length) 0).set 0 (n%18446744073709551616)).flatMap ag⟩,⟨p,35,nc n⟩] [];refine af (aa e ac (ba ?_));refine bS _ (CG.loop (fun L Γ S=>∃ (i:Nat)(l:List Nat)(h_:Hp),L=(wds n).length-i/\Γ=[(1,pB p),(2,sZ),(3,qS (sB z) ((wds n).length) ((wds n).length)),(4,nV i)]/\SS w h S h_ [⟨z,33,(l).flatMap ag⟩,⟨p,35,nc n⟩] [] []/\1<=i/\i<=(wds n).length/\l.length=(wds n).length/\(∀ j,j<i->l.getD j 0=(wds n).getD j 0)) _ ⟨1,(yJ ((wds n).length) 0).set 0 (n%18446744073709551616),Z,rfl,rfl,e.to _ _,nR _,by omega,H,nM oM⟩ ?_);rintro _ _ _ ⟨i,l,_,Q,rfl,e,W,hi2,M,O⟩;refine cQ (aa e [.c,.c,.v (nV ((wds n).length))] ?_);cases F:(decide ((i:Int)<((((wds n).length):Nat):Int)))
 .
  have U:=oF F;refine lB 26 F (aj (CG.exit ?_))
  show CG _ _ _ _ _ _ _ _
  refine aa e aF (lN (kX ?_));have hiL:i=(wds n).length:=by omega
  have K:l=wds n:=nY oM (fun j hj=>O j oM);rw[K] at e
  obtain ⟨_,e,C,D,B⟩:=e.pub 0;replace e:=(e.to [⟨p,35,nc n⟩] []).aS (SlO.of_flat (sz:=1) (f:=ag) (d:=0) (b:=z) (o:=0) (l:=wds n) (fun _=>rfl) C);exact e.ret [] (qS (sB z) ((wds n).length) ((wds n).length)) (⟨z,rfl,D,B,e.f.1⟩)
 have U:=oT F;refine lB 26 F (ar (cK (cQ (kZ (kQ (lL e [.c,.c,.v (qP p 1),.o (.string (hi n)) 1 1 1,.c] (lI 34 ((i:Nat)-1) ?_)))))));refine bA 35 (8*((i:Nat)-1)) (8*(i-1)) (lV 36 (.string ((hi n).extract (8*(i-1)) (hi n).size)) ?_ (hr:=mZ (tx:=9) (x:=.tmp 32) (i:=.tmp 35) (k:=.i64) (s:=hi n) (n:=(8*(i-1))) (j:=((8*(i-1):Nat):Int)) kR kR kR kR oM oM _));refine ao 37 e (mK ((hi n).extract (8*(i-1)) (hi n).size) (by rw[fW];omega) _ _ e.g) (fun _ Y e=>lX 38 (sB z) ((wds n).length) ((wds n).length) 1 (i:Nat) i rfl (lW 0 l ag 1 i (wv ((hi n).extract (8*(i-1)) (hi n).size):Nat) e oM (fun _ e=>?_)));have X:((l).set i (wv ((hi n).extract (8*(i-1)) (hi n).size):Nat)).length=((wds n).length):=by rw[Gq];exact M
 replace e:=e.to [⟨z,33,((l).set i (wv ((hi n).extract (8*(i-1)) (hi n).size):Nat)).flatMap ag⟩,⟨p,35,nc n⟩] [];refine lN (kQ (lL e ac (bA 28 ((i:Nat)+1) (i+1) ?_)));refine lL e ac (lD ?_);intro a_ ka;refine ⟨_,_,?_,⟨i+1,(l).set i (wv ((hi n).extract (8*(i-1)) (hi n).size):Nat),Y,rfl,rfl,e.to _ _,oM,oM,X,(n0 oM O (by rw[gW n (i-1) oM,show i-1+1=i by omega]))⟩,ka.to _ kR⟩
 omega
theorem ej (n:Nat)(b:0<n)(a:(wds n).length<=1000000000)(w:World)(h:Hp)(g:G w h):CR 78 #[nv n] w h (fun v h1=>wl h h1 v (wds n)):=by
 rcases ep n 18446744073709551616 with hs|hs
 ·exact vA n b a hs w h g
 ·exact vv n b a hs w h g
open Go.RowKit Go.Shelf
def vg:Go.Shelf.Ren:=⟨fun|167=>116|240=>143|276=>154|n=>n,fun|0=>0|4=>4|5=>5|9=>9|20=>20|37=>148|70=>189|72=>191|75=>194|164=>227|80=>196|n=>n,fun n=>n⟩
theorem vP:Go.Proofs.Lays.n167 Tryz.prog vg:={
 mixed:=by kernel_rfl
 f167:=Tryz.func116.trans (congrArg some kR)
 f240:=Tryz.func143.trans (congrArg some kR)
 f276:=Tryz.func154.trans (congrArg some kR)
 t0:=Tryz.underlying0
 a0:=Tryz.isAgg0
 z0:=Tryz.sizeOf0
 v0:=Tryz.zeroValue0
 t4:=Tryz.underlying4
 a4:=Tryz.isAgg4
 z4:=Tryz.sizeOf4
 v4:=Tryz.zeroValue4
 t5:=Tryz.underlying5
 a5:=Tryz.isAgg5
 z5:=Tryz.sizeOf5
 v5:=Tryz.zeroValue5
 t9:=Tryz.underlying9
 a9:=Tryz.isAgg9
 z9:=Tryz.sizeOf9
 v9:=Tryz.zeroValue9
 t20:=Tryz.underlying20
 a20:=Tryz.isAgg20
 z20:=Tryz.sizeOf20
 v20:=Tryz.zeroValue20
 t37:=Tryz.underlying148
 a37:=Tryz.isAgg148
 z37:=Tryz.sizeOf148
 v37:=Tryz.zeroValue148
 t70:=Tryz.underlying189
 a70:=Tryz.isAgg189
 z70:=Tryz.sizeOf189
 v70:=Tryz.zeroValue189
 t72:=Tryz.underlying191
 a72:=Tryz.isAgg191
 z72:=Tryz.sizeOf191
 v72:=Tryz.zeroValue191
 t75:=Tryz.underlying194
 a75:=Tryz.isAgg194
 z75:=Tryz.sizeOf194
 v75:=Tryz.zeroValue194
 t164:=Tryz.underlying227
 a164:=Tryz.isAgg227
 z164:=Tryz.sizeOf227
 v164:=Tryz.zeroValue227 }
theorem rz:Builder.Extra Tryz.prog vg:={
 sizeBuilder:=by kernel_rfl
 liesBuilder:=by kernel_rfl
 t5:=Tryz.underlying5
 a5:=Tryz.isAgg5
 z5:=Tryz.sizeOf5
 v5:=Tryz.zeroValue5
 infoByte:=by kernel_rfl
 cellsByte:=by kernel_rfl
 sizeByte:=by kernel_rfl
 neB5:=by decide }
theorem xY (A:Z9)(c:Nat)(l:List Nat)(V:Wd l)(hl:l.length<=1099511627776)(Y:l.length<=c)(w:World)(h:Hp)(g:G w h)(hA:SlO 1 ag 0 h A l):CV 76 #[.slice A l.length c] w h (nv (ax l)):=by
 have d:=((sS g).aS hA);have htl:=gA l l.length;have hdl:(l.drop 1).length=l.length-1:=zy;refine go Tryz.func76 [(0,qS A l.length c)] rfl (aD (lA 2 35 ([uV 0,eS]) d (fun O w2 h3 d=>aK (lL d ac (ao 8 d (xZ A c l hl Y _ _ d.g d.f.1) (fun e h5 d=>lL d ac (af (aa d [.c,.v (nV (tl l l.length))] (ba (aD ?_))))))))));cases F:((((tl l l.length):Nat):Int) == (0:Int))
 .
  have J:=aq F;refine lB 12 F (lL d ac (aj (aD ?_)));cases B:((((tl l l.length):Nat):Int) == (1:Int))
  .
   have M:=aq B;refine lB 15 B (lL d ac (aj (cK (aD ?_))));have i:=d;refine F2 3 191 [.pointer none,sZ] d (fun w8 j hxs X=>?_);obtain ⟨h9,d,-⟩:=i.liftJ j;refine aK (lL d [.c,.v (nV (tl l l.length))] (bA 22 (((tl l l.length):Nat)-1) ((tl l l.length)-1) ?_));refine bA 23 (8*((tl l l.length)-1:Nat)) (8*((tl l l.length)-1)) (FG 24 i j (Tryz.Builder_Grow_fresh e.heap.size e.heap.size (8*((tl l l.length)-1):Nat) _ (nR _) X hxs oM) (fun _ ze d o C=>?_))
   clear j
   have j:=o;clear o;have D:Lib.IsBuilder 191 5 e.heap.size e.heap.size (Lib.byteCells (((l.drop 1).take 0).flatMap b8)) _:=.inr C;refine af (aa d ac (lF 26 A (tl l l.length) c 1 1 1 ?_));replace d:=d.aS (d.f.1.drop 1 c Y);replace i:=i.aS (i.f.1.drop 1 c Y);refine lL d [.v (nV ((tl l l.length)-1)),.c] (ba ?_);refine bS _ (CG.loop (fun I Γ H=>∃ (k:Nat)(p:Hp),I=(tl l l.length)-k/\Γ=[(0,qS A (tl l l.length) c),(2,pB O),(3,.pointer (some ⟨e.heap.size,0,none⟩)),(26,qS (if c=1 then A else A.map (·.add (1*1))) ((tl l l.length)-1) (c-1)),(27,nV ((tl l l.length)-1)),(28,nV k)]/\SS w h H p [⟨O,35,[uV 0,eS]⟩] [] [fun p=>SlO 1 ag 0 p (if c=1 then A else A.map (·.add (1*1))) (l.drop 1),fun p=>SlO 1 ag 0 p A l]/\k<=(tl l l.length)-1/\Ext e H/\Lib.IsBuilder 191 5 e.heap.size e.heap.size (Lib.byteCells (((l.drop 1).take k).flatMap b8)) H) _ ⟨0,ze,rfl,rfl,d.to _ _,GA _,j,D⟩ ?_);rintro _ _ zf ⟨k,zg,bb,rfl,d,hk,j,D⟩;have hxk:(l.drop 1).getD k 0<18446744073709551616:=Dg.getD (Dg.drop V 1) kD k;refine aD ?_;cases S:(decide ((k:Int)<(((tl l l.length)-1:Nat):Int)))
   .
    have zc:=oF S;refine lB 29 S (af (cG (CG.exit ?_)))
    show CG _ _ _ _ _ _ _ _
    refine cQ (vk ⟨vz e.heap.size zf.heap.size,none⟩ 5 mixed ?_);obtain ⟨_,d,hj⟩:=i.liftJ j.drew;refine aV 0 43 (qS A (tl l l.length) c) (aX 1 44 A (tl l l.length) c 1 0 0 ((d.f.2.1).ok oM) (aH 2 45 (mV (l.getD 0 0)) d ((d.f.2.1).el 0 oM) ?_ (fun b hb=>hj b (j5.1 hb).1 (j5.1 hb).2)));refine aC 3 46 ((Tryz.Builder_String_any e.heap.size e.heap.size (((l.drop 1).take k).flatMap b8) _ (oU D ((Ext.refl _).drew)) j.size).mono fun e_ _ ⟨W,K⟩=>⟨_,W,t6 K,?_⟩);obtain ⟨_,d,-⟩:=i.liftJ (Below.trans j.drew K);refine aV 4 47 (.agg #[mV (l.getD 0 0),.string (⟨(((l.drop 1).take k).flatMap b8).toArray⟩)]) (tP 5 0 0 ([mV (l.getD 0 0),.string (⟨(((l.drop 1).take k).flatMap b8).toArray⟩)]) d (fun _ d=>tN (kX ?_)));have U:k=(tl l l.length)-1:=by omega
    exact d.ret [(0,0,2)] (.agg #[mV (l.getD 0 0),.string (⟨(((l.drop 1).take k).flatMap b8).toArray⟩)]) (by rw[U];exact xg V oM)
   have zc:=oT S;refine lB 29 S (af (bY (cK (cQ (kZ (aD (lX 30 (if c=1 then A else A.map (·.add (1*1))) ((tl l l.length)-1) (c-1) 1 (k:Nat) k ((d.f.1).ok oM) ?_)))))));refine lH 31 (mV ((l.drop 1).getD k 0)) d ((d.f.1).el k oM) (lL d ac (aK (lL d ac (ba ?_))));refine bS _ (CG.loop (fun I Γ H=>∃ (m:Nat)(p:Hp),I=8-m/\Γ=[(0,qS A (tl l l.length) c),(2,pB O),(3,.pointer (some ⟨e.heap.size,0,none⟩)),(26,qS (if c=1 then A else A.map (·.add (1*1))) ((tl l l.length)-1) (c-1)),(27,nV ((tl l l.length)-1)),(28,nV k),(5,mV ((l.drop 1).getD k 0)),(32,nV m)]/\SS w h H p [⟨O,35,[uV 0,eS]⟩] [] [fun p=>SlO 1 ag 0 p (if c=1 then A else A.map (·.add (1*1))) (l.drop 1),fun p=>SlO 1 ag 0 p A l]/\m<=8/\Ext e H/\Lib.IsBuilder 191 5 e.heap.size e.heap.size (Lib.byteCells (((l.drop 1).take k).flatMap b8++(b8 ((l.drop 1).getD k 0)).take m)) H) _ ⟨0,zg,rfl,rfl,d.to _ _,GA _,j,(by simpa using D)⟩ ?_);rintro _ _ _ ⟨m,zi,bd,rfl,d,hm,j,z⟩;refine aD ?_;cases Q:(decide ((m:Int)<(8:Int)))
   .
    have zd:=oF Q;refine lB 33 Q (af (cG (CG.exit ?_)))
    show CG _ _ _ _ _ _ _ _
    refine kQ (bA 42 ((k:Nat)+1) (k+1) ?_);refine lL d ac (lD ?_);intro a_ Z;refine ⟨_,_,?_,⟨k+1,zi,rfl,rfl,d.to _ _,oM,j,(by rw[show m=8 by omega,rq oM] at z;exact z)⟩,Z.to _ kR⟩
    omega
   have zd:=oT Q;refine lB 33 Q (af (bY (cK (cQ (kZ (aa d aF (lN (kQ (lL d aF (bA 37 (8*(m:Nat)) (8*m) ?_))))))))));refine lV 38 (mV (((l.drop 1).getD k 0)/2^(8*m))) ?_ (hr:=fA (t:=33) (u:=3) (x:=.tmp 35) (y:=.tmp 37) (ky:=.i64) (a:=((l.drop 1).getD k 0)) (n:=(8*m)) kR kR kR oM _);refine lV 39 (.int .u8 ((((l.drop 1).getD k 0)/2^(8*m):Nat)%256:Nat)) ?_ (hr:=aY (n:=IntKind.wrap .u8 ((((l.drop 1).getD k 0)/2^(8*m):Nat):Int)) kR (vJ _));refine FG 40 i j (Any.Builder_WriteByte vP rz e.heap.size e.heap.size _ ((((l.drop 1).getD k 0)/2^(8*m)%256:Nat):Int) _ z (rm oM oM oM) j.size) (fun _ zj d o C=>?_)
   clear j
   have j:=o;clear o;rw[oo oM] at C
   have L:Lib.IsBuilder 191 5 e.heap.size e.heap.size _ _:=.inr C;refine lN (kQ (bA 41 ((m:Nat)+1) (m+1) ?_));refine lL d ac (lD ?_);intro a_ Z;refine ⟨_,_,?_,⟨m+1,zj,rfl,rfl,d.to _ _,oM,j,L⟩,Z.to _ kR⟩
   omega
  have M:=eq_of_beq B;refine lB 15 B (lL d ac (ar (aa d ac (lX 17 A (tl l l.length) c 1 0 0 ((d.f.1).ok oM) ?_))));exact lH 18 (mV (l.getD 0 0)) d ((d.f.1).el 0 oM) (lL d [.v (.agg #[mV (l.getD 0 0),eS])] (lP 0 0 ([mV (l.getD 0 0),eS]) d (fun _ d=>ae d [(0,0,2)] (.agg #[mV (l.getD 0 0),eS]) (Ct V oM))))
 have J:=eq_of_beq F;exact lB 12 F (lL d ac (ar (aa d [.v (.agg #[uV 0,eS])] (lP 0 0 ([uV 0,eS]) d (fun _ d=>ae d [(0,0,2)] (.agg #[uV 0,eS]) (vL oM))))))
theorem EI (n:Nat)(b:n<18446744073709551616)(w:World)(h:Hp)(g:G w h):CV 71 #[mV n] w h (nv n):=by
 have a:=sS g;exact go Tryz.func71 [(0,mV n)] rfl (aD (lA 2 35 ([uV 0,eS]) a (fun e w2 f a=>aK (lL a [.c,.v (.agg #[mV n,eS])] (lP 0 0 ([mV n,eS]) a (fun d a=>ae a [(0,0,2)] (.agg #[mV n,eS]) (gJ b)))))))
theorem pZ (n:Nat)(d:n<18446744073709551616)(w:World)(h:Hp)(g:G w h):CV 70 #[nv n] w h (.tuple #[mV n,.bool true]):=by
 have a:=sS g;refine go Tryz.func70 [(0,nv n)] rfl (aD (lA 1 35 (nc n) a (fun b w2 e a=>lL a aF (af (aa a [.v (qP b 1),.o (.string (hi n)) 0 1 1] (lV 6 qF ?_ (hr:=rb kR (DD (dB d)))))))));exact aj (cK (aa a [.v (pB b),.o (mV (n%18446744073709551616)) 0 0 1,.c,.c] (ae a [] (.tuple #[mV (n%18446744073709551616),qT]) (by rw[yL d]))))
theorem vV (n:Nat)(c:18446744073709551616<=n)(w:World)(h:Hp)(g:G w h):CV 70 #[nv n] w h (.tuple #[uV 0,.bool false]):=by
 have a:=sS g;refine go Tryz.func70 [(0,nv n)] rfl (aD (lA 1 35 (nc n) a (fun b w2 d a=>lL a aF (af (aa a [.v (qP b 1),.o (.string (hi n)) 0 1 1] (lV 6 qT ?_ (hr:=rb kR (Dm (dS c)))))))));exact ar (aa a aF (ae a [] (.tuple #[uV 0,qF]) rfl))
theorem xX (a b:Nat)(w:World)(h:Hp)(g:G w h):CV 104 #[mV a,mV b] w h (iV (bG a b)):=by
 have c:=sS g;refine go Tryz.func104 [(0,mV a),(1,mV b)] rfl (aa c ac (af (kZ (aa c aF ?_))));cases e:(decide ((a:Int)<(b:Int)))
 .
  have f:=oF e;refine lB 8 e (lL c ac (aj (aa c aF ?_)));cases d:(decide ((b:Int)<(a:Int)))
  .
   have i:=oF d;exact lB 12 d (lL c ac (aj (cK (aa c ac (ae c [] (iV 0) (by rw[f4 oM]))))))
  have i:=oT d;exact lB 12 d (lL c ac (ar (aa c ac (ae c [] (iV 1) (by rw[dW oM])))))
 have f:=oT e;exact lB 8 e (lL c ac (ar (aa c ac (ae c [] (iV (-1)) (by rw[cW oM])))))
theorem BJ (n:Nat)(c:n<18446744073709551616)(w:World)(h:Hp)(g:G w h):CV 67 #[nv n] w h (nV (nb n)):=by
 have a:=sS g;refine go Tryz.func67 [(0,nv n)] rfl (aD (lA 1 35 (nc n) a (fun b w2 e a=>lL a ac (af (aa a [.v (qP b 1),.o (.string (hi n)) 0 1 1] (lV 5 qT ?_ (hr:=rb kR (ip (dB c)))))))));exact ar (aa a [.v (pB b),.o (mV (n%18446744073709551616)) 0 0 1] (ao 8 a (uZ (n%18446744073709551616) wM _ _ a.g) (fun d f a=>lL a ac (ae a [] (nV (nb (n%18446744073709551616))) (by rw[yL c])))))
theorem AS (n:Nat)(e:18446744073709551616<=n)(u:(wds n).length<=1000000000)(w:World)(h:Hp)(g:G w h):CV 67 #[nv n] w h (nV (nb n)):=by
 have a:=sS g;have hz:=fZ n;have D:=bU e;refine go Tryz.func67 [(0,nv n)] rfl (aD (lA 1 35 (nc n) a (fun b w2 y a=>lL a ac (af (aa a [.v (qP b 1),.o (.string (hi n)) 0 1 1] (lV 5 qF ?_ (hr:=rb kR (gn (dS e)))))))));refine aj (cK (cQ (cR 14 [] mixed a am ?_)));refine eV 0 9 (qP b 1) (eO 1 10 [(0,1,1)] (.string (hi n)) a (eV 2 11 (nV ((hi n).size)) (km 3 12 (8*((hi n).size:Nat)) (8*(hi n).size) (eV 4 13 (qP b 1) (eO 5 14 [(0,1,1)] (.string (hi n)) a (eV 6 15 (qP b 1) (eO 7 16 [(0,1,1)] (.string (hi n)) a (eV 8 17 (nV ((hi n).size)) (km 9 18 (((hi n).size:Nat)-8) (8*((wds n).length-2)) (eV 10 19 (.string ((hi n).extract (8*((wds n).length-2):Nat) (hi n).size)) ?_ (hv:=fun _=>mZ (tx:=9) (x:=.tmp 14) (i:=.tmp 18) (k:=.i64) (s:=hi n) (n:=(8*((wds n).length-2):Nat)) (j:=((8*((wds n).length-2):Nat):Int)) kR kR kR kR oM oM _)))))))))));refine ai 11 20 a (fun _ _ a=>mK ((hi n).extract (8*((wds n).length-2):Nat) (hi n).size) (by rw[fW];omega) _ _ a.g) (fun l p a=>ai 12 21 a (fun _ _ a=>uZ (wv ((hi n).extract (8*((wds n).length-2):Nat) (hi n).size):Nat) wM _ _ a.g) (fun z F a=>?_));have d:=gW n ((wds n).length-2) oM;rw[show (wds n).length-2+1=(wds n).length-1 by omega] at d
 have c:=sF (n:=n) oM;have f:nb (wv ((hi n).extract (8*((wds n).length-2)) (hi n).size))<=64:=jy (k:=64) (Ad _);rw[<-d] at c
 exact km 13 22 ((8*(hi n).size:Nat)+(nb (wv ((hi n).extract (8*((wds n).length-2):Nat) (hi n).size):Nat):Nat)) (nb n) (bW a (fun B C a=>tV 14 2 (nV (nb n)) (tN (kX (a.ret [] (nV (nb n)) rfl)))))
theorem ef (n:Nat)(a:(wds n).length<=1000000000)(w:World)(h:Hp)(g:G w h):CV 67 #[nv n] w h (nV (nb n)):=by
 rcases ep n 18446744073709551616 with hs|hs
 ·exact BJ n hs w h g
 ·exact AS n hs a w h g
theorem ki (a b:Nat)(U:(wds a).length<=1000000000)(K:(wds b).length<=1000000000)(w:World)(h:Hp)(g:G w h):CV 68 #[nv a,nv b] w h (iV (bG a b)):=by
 have c:=sS g;have Q:=fZ a;have L:=fZ b;refine go Tryz.func68 [(0,nv a),(1,nv b)] rfl (aD (lA 2 35 (nc a) c (fun f w2 h3 c=>lA 3 35 (nc b) c (fun l w5 W c=>lL c ac (af (aa c [.v (qP f 1),.o (.string (hi a)) 1 1 1,.v (nV ((hi a).size)),.v (qP l 1),.o (.string (hi b)) 0 1 1,.v (nV ((hi b).size))] ?_))))));cases d:((((hi a).size:Nat):Int) != (((hi b).size:Nat):Int))
 .
  have u:=aJ d;refine lB 14 d (aj (cK (cQ (aa c [.v (qP f 1),.o (.string (hi a)) 1 1 1,.v (nV ((hi a).size))] (lV 25 (iV (8*(((wds a).length-1:Nat):Int)-8)) ?_ (hr:=rS ((((hi a).size:Nat)-8)) kR ((fD oM oM).trans oM)))))));refine lL c ac (ba ?_);refine bS _ (CG.loop (fun I Γ M=>∃ (m:Nat)(h_:Hp),I=m/\Γ=[(2,pB f),(3,pB l),(5,iV (8*(m:Int)-8))]/\SS w h M h_ [⟨l,35,nc b⟩,⟨f,35,nc a⟩] [] []/\m<=(wds a).length-1/\(wds a).length-1=(wds b).length-1/\(wds a).drop (m+1)=(wds b).drop (m+1)) _ ⟨(wds a).length-1,W,rfl,rfl,c.to _ _,nR _,oM,(by rw[yC oM,yC oM])⟩ ?_);rintro _ _ w8 ⟨m,h9,J,rfl,c,Z,p,e⟩;refine cQ (aa c ac ?_);cases z:(decide ((0:Int)<=(8*(m:Int)-8:Int)))
  .
   have V:=oF z;refine lB 27 z (aj (CG.exit ?_))
   show CG _ _ _ _ _ _ _ _
   exact aa c [.v (pB f),.o (mV (a%18446744073709551616)) 1 0 1,.v (pB l),.o (mV (b%18446744073709551616)) 0 0 1] (ao 50 c (xX (a%18446744073709551616) (b%18446744073709551616) _ _ c.g) (fun _ _ c=>lL c ac (ae c [] (iV (bG (a%18446744073709551616) (b%18446744073709551616))) (by rw[mN (a:=a) (b:=b) oM (by have H:m=0:=oM;rw[H] at e;exact e)]))))
  have V:=oT z;refine lB 27 z (ar (cK (cQ (kZ (cQ ?_)))));have F:=c;refine wQ 10 [] [] mixed c am (eV 0 30 (qP f 1) (eO 1 31 [(1,1,1)] (.string (hi a)) c (eV 2 32 (iV (8*(m:Int)-8)) (eV 3 33 (.string ((hi a).extract (8*(m-1)) (hi a).size)) ?_ (hv:=fun _=>mZ (tx:=9) (x:=.tmp 31) (i:=.tmp 32) (k:=.i64) (s:=hi a) (n:=8*(m-1)) (j:=(8*(m:Int)-8:Int)) kR kR kR kR oM oM _)))));refine eV 5 35 (qP l 1) (rF 6 36 [(0,1,1)] (.string (hi b)) F c (eV 7 37 (iV (8*(m:Int)-8)) (eV 8 38 (.string ((hi b).extract (8*(m-1)) (hi b).size)) ?_ (hv:=fun _=>mZ (tx:=9) (x:=.tmp 36) (i:=.tmp 37) (k:=.i64) (s:=hi b) (n:=8*(m-1)) (j:=(8*(m:Int)-8:Int)) kR kR kR kR oM oM _))));refine ai 4 34 c (fun _ _ c=>mK ((hi a).extract (8*(m-1)) (hi a).size) (by rw[fW];omega) _ _ c.g) (fun _ _ c=>ai 9 39 c (fun _ _ c=>mK ((hi b).extract (8*(m-1)) (hi b).size) (by rw[fW];omega) _ _ c.g) (fun _ _ c=>bW c (fun _ O c=>tV 10 6 (mV (wv ((hi a).extract (8*(m-1)) (hi a).size))) (tV 11 7 (mV (wv ((hi b).extract (8*(m-1)) (hi b).size))) (qQ ?_)))));have D:=gW a (m-1) oM;have C:=gW b (m-1) oM;rw[show m-1+1=m by omega] at D C
  refine lL c aF ?_;cases y:(((wv ((hi a).extract (8*(m-1)) (hi a).size):Nat):Int) != ((wv ((hi b).extract (8*(m-1)) (hi b).size):Nat):Int))
  .
   have X:=aJ y;refine lB 42 y (aj (cK (kQ (lL c ac (lV 29 (iV (8*((m-1:Nat):Int)-8)) ?_ (hr:=rS (((8*(m:Int)-8)-8)) kR ((fD oM oM).trans oM)))))));refine lL c ac (lD ?_);intro a_ Y;refine ⟨_,_,?_,⟨m-1,O,rfl,rfl,c.to _ _,oM,p,(by rw[show m-1+1=m by omega];exact dY oM oM e oM)⟩,Y.to _ kR⟩
   omega
  have X:=aU y;exact lB 42 y (ar (aa c aF (ao 45 c (xX (wv ((hi a).extract (8*(m-1)) (hi a).size):Nat) (wv ((hi b).extract (8*(m-1)) (hi b).size):Nat) _ _ c.g) (fun _ _ c=>lL c ac (ae c [] (iV (bG (wv ((hi a).extract (8*(m-1)) (hi a).size):Nat) (wv ((hi b).extract (8*(m-1)) (hi b).size):Nat))) (by rw[gW a (m-1) oM,gW b (m-1) oM,show m-1+1=m by omega];exact congrArg (Value.int .i64) (jq oM oM e oM)))))))
 have u:=aU d;refine lB 14 d (ar (cQ (aa c [.v (qP f 1),.o (.string (hi a)) 1 1 1,.v (nV ((hi a).size)),.v (qP l 1),.o (.string (hi b)) 0 1 1,.v (nV ((hi b).size))] ?_)));cases B:(decide ((((hi a).size:Nat):Int)<(((hi b).size:Nat):Int)))
 .
  have S:=oF B;exact lB 21 B (aj (cK (aa c ac (ae c [] (iV 1) (by rw[dW (eL oM)])))))
 have S:=oT B;exact lB 21 B (ar (aa c ac (ae c [] (iV (-1)) (by rw[cW (eL oM)]))))
theorem rZ (hi lo y:Nat)(S:hi<y)(hy:y<18446744073709551616)(hlo:lo<18446744073709551616)(w:World)(h:Hp)(g:G w h):CR 135 #[mV hi,mV lo,mV y] w h (fun v _=>∃ q r:Nat,v=.tuple #[uV q,uV r]/\hi*18446744073709551616+lo=y*q+r/\r<y/\q<18446744073709551616):=by
 have c:=sS g;refine go Tryz.func135 [(0,mV hi),(1,mV lo),(2,mV y)] rfl (aa c aF (af (aa c ac ?_)));have Z:((y:Int) == (0:Int))=false:=e9 oM;have bd:=aq Z;refine lB 20 Z (aj (cK (cQ (aa c aF ?_))));have ⟨hb2,bf⟩:=dF (p:=(y:Int)<=(hi:Int)) oM;refine lB 24 hb2 (aj (cK (cQ (aa c ac ?_))));cases F:((hi:Int) == (0:Int))
 .
  have U:=aq F;refine lB 27 F (aj (cK (aa c ac (ao 35 c (x8 y wM _ _ c.g) (fun w4 h5 c=>?_)))));obtain ⟨s,hsd⟩:∃ e,e=64-nb y:=⟨_,rfl⟩;refine lV 36 (mV s) ?_ (hr:=aY (aY (n:=IntKind.wrap .u64 ((64-nb y:Nat):Int)) kR (bD oM oM)) (by rw[hsd]));refine lL c ac (aK (lL c aF ?_));obtain ⟨Y,hY⟩:∃ e,e=y*2^s:=⟨_,rfl⟩;have hn:=p8 (y:=y) oM oM;rw[<-hsd,<-hY] at hn
  refine lV 39 (mV Y) ?_ (hr:=aY (fy (t:=33) (u:=154) (x:=.tmp 37) (y:=.tmp 38) (ky:=.u64) (a:=y) (n:=s) kR kR kR _) (by rw[<-hY,yL hn.2]));refine lL c ac (aK (lL c ac ?_));obtain ⟨y1,hy1⟩:∃ e,e=Y/4294967296:=⟨_,rfl⟩;refine lV 41 (mV y1) ?_ (hr:=aY (aY (n:=Gv (Y:Int) 4294967296) kR (jm _ 4294967296)) (by rw[hy1]));refine lL c ac (aK (lL c ac ?_));obtain ⟨y0,hy0⟩:∃ e,e=Y%4294967296:=⟨_,rfl⟩;refine lV 43 (mV y0) ?_ (hr:=aY (sv (t:=33) (u:=33) (x:=.tmp 42) (y:=.const (uV 4294967295)) (a:=Y) (m:=4294967295) 32 kR kR kR oM kD _) (by rw[hy0]));refine lL c ac (aK (lL c aF ?_));have hhi:hi*2^s<Y:=by rw[hY];exact Gj S (As s)
  obtain ⟨I,hsl⟩:=xo (hi:=hi) (lo:=lo) (s:=s) oM hlo;have hdl:=zY lo (2^(64-s));have d:Y=y1*4294967296+y0:=by omega
  refine lV 46 (mV (hi*2^s)) ?_ (hr:=aY (fy (t:=33) (u:=154) (x:=.tmp 44) (y:=.tmp 45) (ky:=.u64) (a:=hi) (n:=s) kR kR kR _) (by rw[yL oM]));refine lL c aF (lV 49 (mV (64-s)) ?_ (hr:=rU (((64:Int)-(s:Int))) kR (ff 64 s oM oM)));refine lV 50 (mV (lo/2^(64-s))) ?_ (hr:=fA (t:=33) (u:=154) (x:=.tmp 47) (y:=.tmp 49) (ky:=.u64) (a:=lo) (n:=(64-s)) kR kR kR oM _);obtain ⟨u32,hu32⟩:∃ e,e=hi*2^s+lo/2^(64-s):=⟨_,rfl⟩;rw[<-hu32] at I
  have C:u32<Y:=by
    have e2:(hi+1)*2^s<=y*2^s:=yG _ S;rw[zF,F4,<-hY] at e2
    omega
  refine lV 51 (mV u32) ?_ (hr:=aY (im (t:=33) (u:=33) (x:=.tmp 46) (y:=.tmp 50) (a:=(hi*2^s)) (b:=(lo/2^(64-s))) kR kR kR oM oM _) (by rw[hu32,Nat.or_comm,fM s hsl,yz]));refine lL c ac (aK (lL c aF ?_));obtain ⟨u10,hu10⟩:∃ e,e=lo*2^s%18446744073709551616:=⟨_,rfl⟩;rw[<-hu10] at I
  have bb:u10<18446744073709551616:=by omega
  refine lV 54 (mV u10) ?_ (hr:=aY (fy (t:=33) (u:=154) (x:=.tmp 52) (y:=.tmp 53) (ky:=.u64) (a:=lo) (n:=s) kR kR kR _) (by rw[hu10]));refine lL c ac (aK (lL c ac ?_));obtain ⟨u1,hu1⟩:∃ e,e=u10/4294967296:=⟨_,rfl⟩;refine lV 56 (mV u1) ?_ (hr:=aY (aY (n:=Gv (u10:Int) 4294967296) kR (jm _ 4294967296)) (by rw[hu1]));refine lL c ac (lN (bS [(2,mV Y),(6,uV 0),(7,uV 0),(8,mV s),(9,mV y1),(10,mV y0),(11,mV u32),(12,mV u10),(13,mV u1)] ?_));refine aa c ac ?_;obtain ⟨u0,hu0⟩:∃ e,e=u10%4294967296:=⟨_,rfl⟩;refine lV 58 (mV u0) ?_ (hr:=aY (sv (t:=33) (u:=33) (x:=.tmp 57) (y:=.const (uV 4294967295)) (a:=u10) (m:=4294967295) 32 kR kR kR oM kD _) (by rw[hu0]));refine lL c ac (aK (lL c aF ?_));have J:=ju (Y:=Y) (y1:=y1) (y0:=y0) (u:=u32) (u1:=u1) d oM oM oM C;have Q:=kB (u:=u32) (y1:=y1) oM;have hM0:=Gf u32 y1;obtain ⟨qa,hqa⟩:∃ e,e=u32/y1:=⟨_,rfl⟩;rw[<-hqa] at J Q hM0
  refine lV 61 (mV qa) ?_ (hr:=aY (aY (db (t:=33) (u:=33) (x:=.tmp 59) (y:=.tmp 60) (k:=.u64) (a:=(u32:Int)) (b:=(y1:Int)) kR kR kR oM _) (j8 u32 y1 oM)) (by rw[hqa]));refine lL c ac (aK (lL c eo (lV 65 (mV (qa*y1)) ?_ (hr:=rU (((qa:Int)*(y1:Int))) kR (jZ qa y1 oM)))));obtain ⟨ra,hra⟩:∃ e,e=u32-qa*y1:=⟨_,rfl⟩;rw[<-hra] at J Q
  refine lV 66 (mV ra) ?_ (hr:=aY (aY (n:=IntKind.wrap .u64 ((u32:Int)-((qa*y1:Nat):Int))) kR (ff u32 (qa*y1) oM oM)) (by rw[hra]));refine lL c ac (lN (CG.join (fun Γ L=>∃ (i:Nat)(h_:Hp),Γ=[(2,mV Y),(6,uV 0),(7,uV 0),(8,mV s),(9,mV y1),(10,mV y0),(11,mV u32),(13,mV u1),(14,mV u0),(15,mV i)]/\SS w h L h_ [] [] []/\i=(u32*4294967296+u1)/Y/\(u32*4294967296+u1)-i*Y=(u32*4294967296+u1)%Y/\i*Y<=u32*4294967296+u1) ?_ ?_))
  .
   refine kZ ?_;refine bS _ (CG.loop (fun K Γ L=>∃ (q:Nat)(r:Nat)(h_:Hp),K=q/\Γ=[(2,mV Y),(6,uV 0),(7,uV 0),(8,mV s),(9,mV y1),(10,mV y0),(11,mV u32),(13,mV u1),(14,mV u0),(15,mV q),(16,mV r)]/\SS w h L h_ [] [] []/\HalfQ Y y1 y0 u32 u1 q r/\r<4294967296) _ ⟨qa,ra,h5,rfl,rfl,c.to _ _,J,oM⟩ ?_);rintro _ _ w6 ⟨q,r,h7,hm8,rfl,c,M,hr⟩;have bm:=M.qb;refine cQ (aa c ac ?_);cases D:(decide ((4294967296:Int)<=(q:Int)))
   .
    have W:=oF D;refine lB 68 D (lL c eo (lV 72 (mV (q*y0)) ?_ (hr:=rU (((q:Int)*(y0:Int))) kR (jZ q y0 (x5 oM oM)))));refine lL c ac (lV 74 (mV (4294967296*r)) ?_ (hr:=rU (((4294967296:Int)*(r:Int))) kR (jZ 4294967296 r oM)));refine lL c ac (lV 76 (mV ((4294967296*r)+u1)) ?_ (hr:=rU ((((4294967296*r:Nat):Int)+(u1:Int))) kR (gF (4294967296*r) u1 oM)));cases za:(decide ((((4294967296*r)+u1:Nat):Int)<((q*y0:Nat):Int)))
    .
     have zj:=oF za;refine lB 77 za (lL c [.v qF] (aj (CG.exit ?_)));intro B f;exact ⟨_,⟨q,h7,rfl,c.to _ _,(by first|exact M.fin d oM|exact l.brk d oM oM (by have:=l.qb;omega))⟩,f.to _ kR⟩
    have zj:=oT za;refine lB 77 za (lL c [.v qT] (ar (cK (kZ (aa c ac ?_)))));have hq1:0<q:=by first|omega|exact dh (show 4294967296*r+u1<q*y0 by omega)
    have l:=M.dec d oM C (by first|exact .inl oM|exact .inr oM);refine lV 80 (mV (q-1)) ?_ (hr:=rU (((q:Int)-(1:Int))) kR (ff q 1 oM oM));refine lL c ac (aK (lL c aF (lV 83 (mV (r+y1)) ?_ (hr:=rU (((r:Int)+(y1:Int))) kR (gF r y1 oM)))));refine lL c ac (aK (lL c ac ?_));cases zb:(decide ((4294967296:Int)<=((r+y1:Nat):Int)))
    .
     have zk:=oF zb;refine lB 85 zb (aj (CG.skip ?_));intro B f;refine ⟨_,_,?_,⟨q-1,r+y1,h7,rfl,rfl,c.to _ _,l,oM⟩,f.to _ kR⟩
     omega
    have zk:=oT zb;refine lB 85 zb (ar (CG.exit ?_));intro B f;exact ⟨_,⟨(q-1),h7,rfl,c.to _ _,(by first|exact M.fin d oM|exact l.brk d oM oM (by have:=l.qb;omega))⟩,f.to _ kR⟩
   have W:=oT D;refine lB 68 D (lL c ac (lG 70 ?_));refine lG 71 (lG 72 (lG 73 (lG 74 (lG 75 (lG 76 (lG 77 (lL c [.v qT] (ar (cK (kZ (aa c ac ?_)))))))))));have hq1:0<q:=by first|omega|exact dh (show 4294967296*r+u1<q*y0 by omega)
   have l:=M.dec d oM C (by first|exact .inl oM|exact .inr oM);refine lV 80 (mV (q-1)) ?_ (hr:=rU (((q:Int)-(1:Int))) kR (ff q 1 oM oM));refine lL c ac (aK (lL c aF (lV 83 (mV (r+y1)) ?_ (hr:=rU (((r:Int)+(y1:Int))) kR (gF r y1 oM)))));refine lL c ac (aK (lL c ac ?_));cases zc:(decide ((4294967296:Int)<=((r+y1:Nat):Int)))
   .
    have zl:=oF zc;refine lB 85 zc (aj (CG.skip ?_));intro B f;refine ⟨_,_,?_,⟨q-1,r+y1,h7,rfl,rfl,c.to _ _,l,oM⟩,f.to _ kR⟩
    omega
   have zl:=oT zc;refine lB 85 zc (ar (CG.exit ?_));intro B f;exact ⟨_,⟨(q-1),h7,rfl,c.to _ _,(by first|exact M.fin d oM|exact l.brk d oM oM (by have:=l.qb;omega))⟩,f.to _ kR⟩
  rintro _ _ ⟨i,zq,rfl,c,hF⟩;refine aD ?_;obtain ⟨hF1,hF2,hF3⟩:=hF;have hF4:=np (u1:=u1) C oM;rw[<-hF1] at hF4
  refine lL c ac (lV 87 (mV ((u32*4294967296)%18446744073709551616)) ?_ (hr:=rU (((u32:Int)*(4294967296:Int))) kR (jM u32 4294967296)));refine lL c ac (lV 89 (mV ((((u32*4294967296)%18446744073709551616)+u1)%18446744073709551616)) ?_ (hr:=rU (((((u32*4294967296)%18446744073709551616:Nat):Int)+(u1:Int))) kR (ti ((u32*4294967296)%18446744073709551616) u1)));refine lL c aF (lV 92 (mV ((i*Y)%18446744073709551616)) ?_ (hr:=rU (((i:Int)*(Y:Int))) kR (jM i Y)));obtain ⟨r1,hr1⟩:∃ e,e=(u32*4294967296+u1)%Y:=⟨_,rfl⟩;have z:r1<Y:=by rw[hr1];exact yM _ oM
  refine lV 93 (mV r1) ?_ (hr:=aY (aY (n:=IntKind.wrap .u64 ((((((u32*4294967296)%18446744073709551616)+u1)%18446744073709551616:Nat):Int)-(((i*Y)%18446744073709551616:Nat):Int))) kR (An ((((u32*4294967296)%18446744073709551616)+u1)%18446744073709551616:Nat) ((i*Y)%18446744073709551616) oM)) (by rw[kF hF3 (hF2.trans hr1.symm) oM]));refine lL c ac (aK (lL c aF ?_));have H:=ju (Y:=Y) (y1:=y1) (y0:=y0) (u:=r1) (u1:=u0) d oM oM oM z;have X:=kB (u:=r1) (y1:=y1) oM;have hL0:=Gf r1 y1;obtain ⟨qb,hqb⟩:∃ e,e=r1/y1:=⟨_,rfl⟩;rw[<-hqb] at H X hL0
  refine lV 96 (mV qb) ?_ (hr:=aY (aY (db (t:=33) (u:=33) (x:=.tmp 94) (y:=.tmp 95) (k:=.u64) (a:=(r1:Int)) (b:=(y1:Int)) kR kR kR oM _) (j8 r1 y1 oM)) (by rw[hqb]));refine lL c ac (aK (lL c eo (lV 100 (mV (qb*y1)) ?_ (hr:=rU (((qb:Int)*(y1:Int))) kR (jZ qb y1 oM)))));obtain ⟨rb,hrb⟩:∃ e,e=r1-qb*y1:=⟨_,rfl⟩;rw[<-hrb] at H X
  refine lV 101 (mV rb) ?_ (hr:=aY (aY (n:=IntKind.wrap .u64 ((r1:Int)-((qb*y1:Nat):Int))) kR (ff r1 (qb*y1) oM oM)) (by rw[hrb]));refine lL c ac (lN (CG.join (fun Γ L=>∃ (o:Nat)(h_:Hp),Γ=[(2,mV Y),(6,uV 0),(7,uV 0),(8,mV s),(14,mV u0),(15,mV i),(17,mV r1),(18,mV o)]/\SS w h L h_ [] [] []/\o=(r1*4294967296+u0)/Y/\(r1*4294967296+u0)-o*Y=(r1*4294967296+u0)%Y/\o*Y<=r1*4294967296+u0) ?_ ?_))
  .
   refine kZ ?_;refine bS _ (CG.loop (fun K Γ L=>∃ (p:Nat)(t:Nat)(h_:Hp),K=p/\Γ=[(2,mV Y),(6,uV 0),(7,uV 0),(8,mV s),(9,mV y1),(10,mV y0),(14,mV u0),(15,mV i),(17,mV r1),(18,mV p),(16,mV t)]/\SS w h L h_ [] [] []/\HalfQ Y y1 y0 r1 u0 p t/\t<4294967296) _ ⟨qb,rb,zq,rfl,rfl,c.to _ _,H,oM⟩ ?_);rintro _ _ _ ⟨p,t,V,bn,rfl,c,O,ht⟩;have bl:=O.qb;refine cQ (aa c ac ?_);cases zd:(decide ((4294967296:Int)<=(p:Int)))
   .
    have zm:=oF zd;refine lB 103 zd (lL c eo (lV 107 (mV (p*y0)) ?_ (hr:=rU (((p:Int)*(y0:Int))) kR (jZ p y0 (x5 oM oM)))));refine lL c ac (lV 109 (mV (4294967296*t)) ?_ (hr:=rU (((4294967296:Int)*(t:Int))) kR (jZ 4294967296 t oM)));refine lL c ac (lV 111 (mV ((4294967296*t)+u0)) ?_ (hr:=rU ((((4294967296*t:Nat):Int)+(u0:Int))) kR (gF (4294967296*t) u0 oM)));cases ze:(decide ((((4294967296*t)+u0:Nat):Int)<((p*y0:Nat):Int)))
    .
     have zn:=oF ze;refine lB 112 ze (lL c [.v qF] (aj (CG.exit ?_)));intro B f;exact ⟨_,⟨p,V,rfl,c.to _ _,(by first|exact O.fin d oM|exact j.brk d oM oM (by have:=j.qb;omega))⟩,f.to _ kR⟩
    have zn:=oT ze;refine lB 112 ze (lL c [.v qT] (ar (cK (kZ (aa c ac ?_)))));have hq2:0<p:=by first|omega|exact dh (show 4294967296*t+u0<p*y0 by omega)
    have j:=O.dec d oM z (by first|exact .inl oM|exact .inr oM);refine lV 115 (mV (p-1)) ?_ (hr:=rU (((p:Int)-(1:Int))) kR (ff p 1 oM oM));refine lL c ac (aK (lL c aF (lV 118 (mV (t+y1)) ?_ (hr:=rU (((t:Int)+(y1:Int))) kR (gF t y1 oM)))));refine lL c ac (aK (lL c ac ?_));cases zf:(decide ((4294967296:Int)<=((t+y1:Nat):Int)))
    .
     have zo:=oF zf;refine lB 120 zf (aj (CG.skip ?_));intro B f;refine ⟨_,_,?_,⟨p-1,t+y1,V,rfl,rfl,c.to _ _,j,oM⟩,f.to _ kR⟩
     omega
    have zo:=oT zf;refine lB 120 zf (ar (CG.exit ?_));intro B f;exact ⟨_,⟨(p-1),V,rfl,c.to _ _,(by first|exact O.fin d oM|exact j.brk d oM oM (by have:=j.qb;omega))⟩,f.to _ kR⟩
   have zm:=oT zd;refine lB 103 zd (lL c ac (lG 105 ?_));refine lG 106 (lG 107 (lG 108 (lG 109 (lG 110 (lG 111 (lG 112 (lL c [.v qT] (ar (cK (kZ (aa c ac ?_)))))))))));have hq2:0<p:=by first|omega|exact dh (show 4294967296*t+u0<p*y0 by omega)
   have j:=O.dec d oM z (by first|exact .inl oM|exact .inr oM);refine lV 115 (mV (p-1)) ?_ (hr:=rU (((p:Int)-(1:Int))) kR (ff p 1 oM oM));refine lL c ac (aK (lL c aF (lV 118 (mV (t+y1)) ?_ (hr:=rU (((t:Int)+(y1:Int))) kR (gF t y1 oM)))));refine lL c ac (aK (lL c ac ?_));cases zg:(decide ((4294967296:Int)<=((t+y1:Nat):Int)))
   .
    have zp:=oF zg;refine lB 120 zg (aj (CG.skip ?_));intro B f;refine ⟨_,_,?_,⟨p-1,t+y1,V,rfl,rfl,c.to _ _,j,oM⟩,f.to _ kR⟩
    omega
   have zp:=oT zg;refine lB 120 zg (ar (CG.exit ?_));intro B f;exact ⟨_,⟨(p-1),V,rfl,c.to _ _,(by first|exact O.fin d oM|exact j.brk d oM oM (by have:=j.qb;omega))⟩,f.to _ kR⟩
  rintro _ _ ⟨o,_,rfl,c,hE⟩;refine aD ?_;obtain ⟨hE1,hE2,hE3⟩:=hE;have hE4:=np (u1:=u0) z oM;rw[<-hE1] at hE4
  refine lL c ac (lV 122 (mV (i*4294967296)) ?_ (hr:=rU (((i:Int)*(4294967296:Int))) kR (jZ i 4294967296 oM)));refine lL c ac (lV 124 (mV ((i*4294967296)+o)) ?_ (hr:=rU ((((i*4294967296:Nat):Int)+(o:Int))) kR (gF (i*4294967296) o oM)));refine lL c ac (lV 126 (mV ((r1*4294967296)%18446744073709551616)) ?_ (hr:=rU (((r1:Int)*(4294967296:Int))) kR (jM r1 4294967296)));refine lL c ac (lV 128 (mV ((((r1*4294967296)%18446744073709551616)+u0)%18446744073709551616)) ?_ (hr:=rU (((((r1*4294967296)%18446744073709551616:Nat):Int)+(u0:Int))) kR (ti ((r1*4294967296)%18446744073709551616) u0)));refine lL c aF (lV 131 (mV ((o*Y)%18446744073709551616)) ?_ (hr:=rU (((o:Int)*(Y:Int))) kR (jM o Y)));obtain ⟨R,hR⟩:∃ e,e=(r1*4294967296+u0)%Y:=⟨_,rfl⟩;have hRY:R<Y:=by rw[hR];exact yM _ oM
  refine lV 132 (mV R) ?_ (hr:=aY (aY (n:=IntKind.wrap .u64 ((((((r1*4294967296)%18446744073709551616)+u0)%18446744073709551616:Nat):Int)-(((o*Y)%18446744073709551616:Nat):Int))) kR (An ((((r1*4294967296)%18446744073709551616)+u0)%18446744073709551616:Nat) ((o*Y)%18446744073709551616) oM)) (by rw[kF hE3 (hE2.trans hR.symm) oM]));refine lL c ac (lV 134 (mV (R/2^s)) ?_ (hr:=fA (t:=33) (u:=154) (x:=.tmp 132) (y:=.tmp 133) (ky:=.u64) (a:=R) (n:=s) kR kR kR oM _));refine lL c aF (lN (kX ?_));obtain ⟨hB1,hB2⟩:=qE (A:=hi*18446744073709551616+lo) (y:=y) hY I (show u10=u1*4294967296+u0 by omega) oM hF1 hr1 hE1 hR;exact c.ret [] (.tuple #[mV ((i*4294967296)+o),mV (R/2^s)]) (⟨_,_,rfl,hB1,hB2,by omega⟩)
 have U:=eq_of_beq F;refine lB 27 F (ar (cQ (cR 6 [] mixed c am ?_)));refine eV 0 28 (mV lo) (eV 1 29 (mV y) (eV 2 30 (mV (lo/y)) ?_ (hv:=fun _=>aY (db (t:=33) (u:=33) (x:=.tmp 28) (y:=.tmp 29) (k:=.u64) (a:=(lo:Int)) (b:=(y:Int)) kR kR kR oM _) (j8 lo y oM))));refine eV 3 31 (mV lo) (eV 4 32 (mV y) (eV 5 33 (mV (lo%y)) ?_ (hv:=fun _=>aY (eT (t:=33) (u:=33) (x:=.tmp 31) (y:=.tmp 32) (k:=.u64) (a:=(lo:Int)) (b:=(y:Int)) kR kR kR oM _) (cX lo y))));refine bW c (fun _ _ c=>tV 6 6 (mV (lo/y)) (tV 7 7 (mV (lo%y)) (tN (kX ?_))));have hdm:=F5 lo y;have hml:=yM lo (show 0<y by omega);have bk:=zY lo y;have hh0:hi=0:=by omega
 subst hh0;exact c.ret [] (.tuple #[mV (lo/y),mV (lo%y)]) (⟨lo/y,lo%y,rfl,by rw[yB,yF];exact hdm.symm,hml,by omega⟩)
def xr (h1:Hp)(v:Value)(m:Nat)(Q:List Nat->Prop):Prop:=∃ A c,∃ z:List Nat,v=.slice A z.length c/\z.length<=c/\z.length=m/\Wd z/\Q z/\SlO 1 ag 0 h1 A z
theorem Wd.set {l:List Nat}(h:Wd l)(k:Nat){x:Nat}(a:x<18446744073709551616):Wd (l.set k x):=Dg.set h k a
theorem Wd.rep (n:Nat):Wd (yJ n 0):=Dg.rep kD
theorem m7 {l:List Nat}{k j x:Nat}(hk:k<l.length)(h:∀ i,j<=i->l.getD i 0=0)(a:k<j):∀ i,j<=i->(l.set k x).getD i 0=0:=fun i hi=>by rw[bv hk,if_neg oM];exact h i hi
theorem Aa (A:Z9)(c:Nat)(x:List Nat)(D:Z9)(d:Nat)(y:List Nat)(hx:Wd x)(hy:Wd y)(hlx:x.length<=1000000000)(hly:y.length<=1000000000)(w:World)(h:Hp)(g:G w h)(hA:SlO 1 ag 0 h A x)(hD:SlO 1 ag 0 h D y):CR 77 #[.slice A x.length c,.slice D y.length d] w h (fun v h1=>xr h1 v (x.length+y.length) (fun z=>ax z=ax x*ax y)):=by
 have e:=(((sS g).aS hA).aS hD);refine go Tryz.func77 [(0,qS A x.length c),(1,qS D y.length d)] rfl (aa e ac (aK (lL e [.c,.v (nV x.length),.c,.v (nV y.length)] (bA 19 ((x.length:Nat)+(y.length:Nat)) (x.length+y.length) ?_))));refine lK 20 33 (x.length+y.length) 1 8 (uV 0) ag 0 e (fun B w2 h3 e=>?_);have hl4:(yJ (x.length+y.length) 0).length=(x.length+y.length):=by simp
 refine lL e ac (af (aa e [.c,.v (nV x.length),.c] (ba ?_)));refine bS _ (CG.loop (fun O Γ w_=>∃ (i:Nat)(l:List Nat)(F:Hp),O=x.length-i/\Γ=[(1,qS D y.length d),(4,sZ),(5,qS (sB B) (x.length+y.length) (x.length+y.length)),(21,qS A x.length c),(22,nV x.length),(23,nV i)]/\SS w h w_ F [⟨B,33,(l).flatMap ag⟩] [] [fun F=>SlO 1 ag 0 F D y,fun F=>SlO 1 ag 0 F A x]/\i<=x.length/\l.length=x.length+y.length/\Wd l/\ax l=ah 18446744073709551616 (x.take i)*ax y/\(∀ k,i+y.length<=k->l.getD k 0=0)) _ ⟨0,yJ (x.length+y.length) 0,h3,rfl,rfl,e.to _ _,GA _,hl4,Wd.rep _,(by show ah _ _=_;rw[ee];simp[ah]),fun k _=>fe⟩ ?_);rintro _ _ w5 ⟨i,l,h6,hm7,rfl,e,hi,Q,hW,hv,hz⟩;refine aD ?_;cases J:(decide ((i:Int)<(x.length:Int)))
 .
  have W:=oF J;refine lB 24 J (af (cG (CG.exit ?_)))
  show CG _ _ _ _ _ _ _ _
  refine aa e aF (lN (kX ?_));have hix:i=x.length:=by omega
  rw[hix,yw] at hv
  obtain ⟨h9,e,X,bm,b2⟩:=e.pub 0;replace e:=(e.to [] []).aS (SlO.of_flat (sz:=1) (f:=ag) (d:=0) (b:=B) (o:=0) (l:=l) (fun _=>rfl) X);exact e.ret [] (qS (sB B) (x.length+y.length) (x.length+y.length)) (⟨sB B,_,l,by rw[Q],by omega,Q,hW,hv,e.f.1⟩)
 have W:=oT J;refine lB 24 J (af (bY (cK (cQ (kZ (aa e ac (lX 26 A x.length c 1 (i:Nat) i ((e.f.2.1).ok oM) ?_)))))));refine lH 27 (mV (x.getD i 0)) e ((e.f.2.1).el i oM) (lL e aF (aK (lL e ac (af (aa e [.c,.v (nV y.length),.c] (ba ?_))))));refine bS _ (CG.loop (fun O Γ w_=>∃ (j:Nat)(l2:List Nat)(H:Nat)(F:Hp),O=y.length-j/\Γ=[(1,qS D y.length d),(4,sZ),(5,qS (sB B) (x.length+y.length) (x.length+y.length)),(21,qS A x.length c),(22,nV x.length),(23,nV i),(6,nV i),(7,mV (x.getD i 0)),(28,qS D y.length d),(29,nV y.length),(30,nV j),(8,mV H)]/\SS w h w_ F [⟨B,33,(l2).flatMap ag⟩] [] [fun F=>SlO 1 ag 0 F D y,fun F=>SlO 1 ag 0 F A x]/\j<=y.length/\l2.length=x.length+y.length/\Wd l2/\H<18446744073709551616/\ah 18446744073709551616 l2+18446744073709551616^(i+j)*H=ax l+18446744073709551616^i*(x.getD i 0*ah 18446744073709551616 (y.take j))/\(∀ k,i+y.length<=k->l2.getD k 0=0)) _ ⟨0,l,0,h6,rfl,rfl,e.to _ _,GA _,Q,hW,by omega,(by show ah _ l+_=ah _ l+_;simp[ah]),hz⟩ ?_);rintro _ _ _ ⟨j,l2,H,zi,bq,rfl,e,hj,K,M,hc,inv,L⟩;have hlk:=M.get (i+j);refine aD ?_;cases Z:(decide ((j:Int)<(y.length:Int)))
 .
  have zd:=oF Z;refine lB 31 Z (af (cG (CG.exit ?_)))
  show CG _ _ _ _ _ _ _ _
  refine kQ (lL e [.c,.c,.c,.v (nV y.length)] (bA 75 ((i:Nat)+(y.length:Nat)) (i+y.length) ?_));refine lL e ac (lX 77 (sB B) (x.length+y.length) (x.length+y.length) 1 (i+y.length:Nat) (i+y.length) rfl ?_);refine lW 0 l2 ag 1 (i+y.length) H e oM (fun _ e=>?_);have zf:((l2).set (i+y.length) H).length=(x.length+y.length):=by rw[Gq];exact K
  replace e:=e.to [⟨B,33,((l2).set (i+y.length) H).flatMap ag⟩] [];refine lN (kQ (bA 78 ((i:Nat)+1) (i+1) ?_));refine lL e ac (lD ?_);intro a_ ka;refine ⟨_,_,?_,⟨i+1,(l2).set (i+y.length) H,zi,rfl,rfl,e.to _ _,oM,zf,(M.set _ hc),(by have hjy:j=y.length:=oM;rw[hjy] at inv;exact (vE oM inv (L _ oM)).trans (xn hv)),(m7 oM (fun k hk=>L k oM) oM)⟩,ka.to _ kR⟩
  omega
 have zd:=oT Z;refine lB 31 Z (af (bY (cK (cQ (kZ (aa e ac (lX 33 D y.length d 1 (j:Nat) j ((e.f.1).ok oM) ?_)))))));refine lH 34 (mV (y.getD j 0)) e ((e.f.1).el j oM) (lL e aF (aK (lL e aF (lC 38 e (l9 (x.getD i 0) (y.getD j 0) wM wM _ _ e.g) ?_))));rintro _ _ zj e ⟨p,ze,rfl,bd,bx,bb,bk⟩;have Y:=ij (a:=(x.getD i 0)) (b:=(y.getD j 0)) wM wM;refine lL e [.c,.v (mV p),.v (mV ze),.c,.c] (aK (lL e m9 (bA 46 ((i:Nat)+(j:Nat)) (i+j) ?_)));refine lX 47 (sB B) (x.length+y.length) (x.length+y.length) 1 (i+j:Nat) (i+j) rfl (lQ 48 0 l2 ag 1 0 (i+j) (mV ((l2).getD (i+j) 0)) e oM ?_);obtain ⟨I,C,b0,bz,bf,V⟩:=dv ze ((l2).getD (i+j) 0) 0 wM wM oM;refine lV 49 (.tuple #[mV I,mV C]) ?_ (hr:=dd kR (V _));refine lL e [.c,.v (mV I),.v (mV C),.c,.c] (aK (lL e aF (lV 54 (mV (p+C)) ?_ (hr:=rU (((p:Int)+(C:Int))) kR (gF p C oM)))));refine lL e ac (lN (bS [(1,qS D y.length d),(4,sZ),(5,qS (sB B) (x.length+y.length) (x.length+y.length)),(21,qS A x.length c),(22,nV x.length),(23,nV i),(6,nV i),(7,mV (x.getD i 0)),(28,qS D y.length d),(29,nV y.length),(30,nV j),(8,mV H),(9,nV j),(11,mV (p+C)),(13,mV I),(14,mV C)] ?_));refine aa e aF ?_;obtain ⟨u,S,bn,bt,bl,U⟩:=dv I H 0 wM wM oM;refine lV 58 (.tuple #[mV u,mV S]) ?_ (hr:=dd kR (U _));refine lL e [.c,.v (mV u),.v (mV S),.c,.c] (lN (kQ (lL e eo (bA 64 ((i:Nat)+(j:Nat)) (i+j) ?_))));refine lL e eo (lV 68 (mV ((p+C)+S)) ?_ (hr:=rU ((((p+C:Nat):Int)+(S:Int))) kR (gF (p+C) S oM)));refine lX 69 (sB B) (x.length+y.length) (x.length+y.length) 1 (i+j:Nat) (i+j) rfl (lW 0 l2 ag 1 (i+j) u e oM (fun _ e=>?_));have zg:((l2).set (i+j) u).length=(x.length+y.length):=by rw[Gq];exact K
 replace e:=e.to [⟨B,33,((l2).set (i+j) u).flatMap ag⟩] [];refine lL e ac (lN (kQ (bA 70 ((j:Nat)+1) (j+1) ?_)));refine lL e ac (lD ?_);intro a_ ka;refine ⟨_,_,?_,⟨j+1,(l2).set (i+j) u,((p+C)+S),zj,rfl,rfl,e.to _ _,oM,zg,(M.set _ oM),oM,(nu oM inv oM),(m7 oM L oM)⟩,ka.to _ kR⟩
 omega
theorem wu {x:List Nat}(a:Wd x){n:Nat}(h:x.length<=n/64):ax x<2^n:=by
 have h1:=bJ a;have c:(18446744073709551616:Nat)^x.length=2^(64*x.length):=by rw[A7]
 have b:(2:Nat)^(64*x.length)<=2^n:=Aw oM oM
 show ah _ x<_
 omega
theorem k5 {l:List Nat}{k x:Nat}(hk:k<l.length)(h:∀ i,k<=i->l.getD i 0=0):∀ i,k+1<=i->(l.set k x).getD i 0=0:=fun i hi=>by rw[bv hk,if_neg oM];exact h i oM
theorem uy (A:Z9)(c:Nat)(x:List Nat)(hx:Wd x)(Y:x.length<=1000000000)(n:Nat)(hn:n<=1000000000)(w:World)(h:Hp)(g:G w h)(hA:SlO 1 ag 0 h A x):CR 137 #[.slice A x.length c,nV n] w h (fun v h1=>xr h1 v (x.length+n/64+1) (fun z=>ax z=ax x*2^n)):=by
 have e:=((sS g).aS hA);refine go Tryz.func137 [(0,qS A x.length c),(1,nV n)] rfl (aa e ac (aK (lL e ac (lV 11 (nV (n/64)) ?_ (hr:=aY (db (t:=3) (u:=3) (x:=.tmp 10) (y:=.const (iV 64)) (k:=.i64) (a:=(n:Int)) (b:=(64:Int)) kR kR kR oM _) (cM n 64 oM))))));refine lL e ac (lV 13 (nV (n%64)) ?_ (hr:=aY (eT (t:=3) (u:=3) (x:=.tmp 12) (y:=.const (iV 64)) (k:=.i64) (a:=(n:Int)) (b:=(64:Int)) kR kR kR oM _) (cX n 64)));refine lV 14 (mV (n%64)) ?_ (hr:=rU (((n%64:Nat):Int)) kR (bD oM oM));refine lL e aF (aK (lL e [.c,.v (nV x.length),.c] (bA 18 ((x.length:Nat)+(n/64:Nat)) (x.length+(n/64)) ?_)));refine bA 19 ((x.length+(n/64):Nat)+1) ((x.length+(n/64))+1) (lK 20 33 ((x.length+(n/64))+1:Nat) 1 8 (uV 0) ag 0 e (fun j w2 h3 e=>?_));have I:(yJ ((x.length+(n/64))+1:Nat) 0).length=((x.length+(n/64))+1:Nat):=by simp
 refine lL e ac (af (aa e [.c,.v (nV x.length),.c] (ba ?_)));refine bS _ (CG.loop (fun U Γ Z=>∃ (i:Nat)(l:List Nat)(S:Hp),U=x.length-i/\Γ=[(4,sZ),(5,nV (n/64)),(6,mV (n%64)),(7,qS (sB j) ((x.length+(n/64))+1:Nat) ((x.length+(n/64))+1:Nat)),(21,qS A x.length c),(22,nV x.length),(23,nV i)]/\SS w h Z S [⟨j,33,(l).flatMap ag⟩] [] [fun S=>SlO 1 ag 0 S A x]/\i<=x.length/\l.length=x.length+n/64+1/\Wd l/\ax l=2^(n%64)*(18446744073709551616^(n/64)*ah 18446744073709551616 (x.take i))/\l.getD (i+n/64) 0<2^(n%64)/\(∀ k,i+n/64+1<=k->l.getD k 0=0)) _ ⟨0,yJ ((x.length+(n/64))+1:Nat) 0,h3,rfl,rfl,e.to _ _,GA _,I,Wd.rep _,(by show ah _ _=_;rw[ee];simp[ah]),(by rw[fe];exact As _),fun k _=>fe⟩ ?_);rintro _ _ w5 ⟨i,l,h6,X,rfl,e,hi,C,J,hv,ho,hz⟩;refine aD ?_;cases B:(decide ((i:Int)<(x.length:Int)))
 .
  have D:=oF B;refine lB 24 B (af (cG (CG.exit ?_)))
  show CG _ _ _ _ _ _ _ _
  refine aa e aF (lN (kX ?_));have O:i=x.length:=by omega
  rw[O,yw] at hv
  obtain ⟨h9,e,F,W,V⟩:=e.pub 0;replace e:=(e.to [] []).aS (SlO.of_flat (sz:=1) (f:=ag) (d:=0) (b:=j) (o:=0) (l:=l) (fun _=>rfl) F);exact e.ret [] (qS (sB j) ((x.length+(n/64))+1:Nat) ((x.length+(n/64))+1:Nat)) (⟨sB j,_,l,by rw[C],by omega,C,J,(by show ax l=_;rw[hv,uQ n];show _*(_*ax x)=_;ac_rfl),e.f.1⟩)
 have D:=oT B;refine lB 24 B (af (bY (cK (cQ (kZ (aa e ac (lX 26 A x.length c 1 (i:Nat) i ((e.f.1).ok oM) ?_)))))));refine lH 27 (mV (x.getD i 0)) e ((e.f.1).el i oM) (lL e aF (aK (lL e eo (bA 31 ((i:Nat)+(n/64:Nat)) (i+(n/64)) ?_))));refine lX 32 (sB j) ((x.length+(n/64))+1:Nat) ((x.length+(n/64))+1:Nat) 1 (i+(n/64):Nat) (i+(n/64)) rfl (lQ 33 0 l ag 1 0 (i+(n/64)) (mV ((l).getD (i+(n/64)) 0)) e oM (lL e aF (lV 36 (mV ((x.getD i 0)*2^(n%64)%18446744073709551616)) ?_ (hr:=fy (t:=33) (u:=154) (x:=.tmp 34) (y:=.tmp 35) (ky:=.u64) (a:=(x.getD i 0)) (n:=(n%64)) kR kR kR _))));have M:=hx.get i;obtain ⟨K,H,L,Q⟩:=tO (x:=x.getD i 0) (p:=n%64) (o:=l.getD (i+n/64) 0) oM M ho;have hlg:=J.get (i+n/64);refine lV 37 (mV (l.getD (i+n/64) 0+x.getD i 0*2^(n%64)%18446744073709551616)) ?_ (hr:=aY (im (t:=33) (u:=33) (x:=.tmp 33) (y:=.tmp 36) (a:=((l).getD (i+(n/64)) 0:Nat)) (b:=((x.getD i 0)*2^(n%64)%18446744073709551616)) kR kR kR oM oM _) (by rw[K]));refine lX 38 (sB j) ((x.length+(n/64))+1:Nat) ((x.length+(n/64))+1:Nat) 1 (i+(n/64):Nat) (i+(n/64)) rfl (lW 0 l ag 1 (i+(n/64)) (l.getD (i+n/64) 0+x.getD i 0*2^(n%64)%18446744073709551616) e oM (fun _ e=>?_));have za:((l).set (i+(n/64)) (l.getD (i+n/64) 0+x.getD i 0*2^(n%64)%18446744073709551616)).length=((x.length+(n/64))+1:Nat):=by rw[Gq];exact C
 replace e:=e.to [⟨j,33,((l).set (i+(n/64)) (l.getD (i+n/64) 0+x.getD i 0*2^(n%64)%18446744073709551616)).flatMap ag⟩] [];refine lN (kQ (lL e eo (bA 42 ((i:Nat)+(n/64:Nat)) (i+(n/64)) ?_)));refine bA 43 ((i+(n/64):Nat)+1) ((i+(n/64))+1) (lL e aF (lV 46 (mV (64-(n%64))) ?_ (hr:=rU (((64:Int)-((n%64:Nat):Int))) kR (ff 64 (n%64) oM oM))));refine lV 47 (mV ((x.getD i 0)/2^(64-(n%64)))) ?_ (hr:=fA (t:=33) (u:=154) (x:=.tmp 44) (y:=.tmp 46) (ky:=.u64) (a:=(x.getD i 0)) (n:=(64-(n%64))) kR kR kR oM _);refine lX 48 (sB j) ((x.length+(n/64))+1:Nat) ((x.length+(n/64))+1:Nat) 1 ((i+(n/64))+1:Nat) ((i+(n/64))+1:Nat) rfl (lW 0 ((l).set (i+(n/64)) (l.getD (i+n/64) 0+x.getD i 0*2^(n%64)%18446744073709551616)) ag 1 ((i+(n/64))+1:Nat) ((x.getD i 0)/2^(64-(n%64)):Nat) e oM (fun _ e=>?_));have zb:(((l).set (i+(n/64)) (l.getD (i+n/64) 0+x.getD i 0*2^(n%64)%18446744073709551616)).set ((i+(n/64))+1:Nat) ((x.getD i 0)/2^(64-(n%64)):Nat)).length=((x.length+(n/64))+1:Nat):=by rw[Gq];exact za
 replace e:=e.to [⟨j,33,(((l).set (i+(n/64)) (l.getD (i+n/64) 0+x.getD i 0*2^(n%64)%18446744073709551616)).set ((i+(n/64))+1:Nat) ((x.getD i 0)/2^(64-(n%64)):Nat)).flatMap ag⟩] [];refine lN (kQ (bA 49 ((i:Nat)+1) (i+1) ?_));refine lL e ac (lD ?_);intro a_ ka;refine ⟨_,_,?_,⟨i+1,((l).set (i+(n/64)) (l.getD (i+n/64) 0+x.getD i 0*2^(n%64)%18446744073709551616)).set ((i+(n/64))+1:Nat) ((x.getD i 0)/2^(64-(n%64)):Nat),h6,rfl,rfl,e.to _ _,oM,zb,((J.set _ H).set _ (by have:=zY (x.getD i 0) (2^(64-n%64));omega)),(sa oM hv (hz _ oM) L rfl rfl),(by rw[show i+1+n/64=i+n/64+1 by omega,bv (by rw[Gq];omega),if_pos rfl];exact Q),(fun k hk=>by rw[bv (by rw[Gq];omega),if_neg oM,bv oM,if_neg oM];exact hz k oM)⟩,ka.to _ kR⟩
 omega
theorem DT (A:Z9)(c:Nat)(x:List Nat)(V:Wd x)(hlx:x.length<=1000000000)(n:Nat)(hn:n<=1000000000)(w:World)(h:Hp)(g:G w h)(hA:SlO 1 ag 0 h A x):CR 139 #[.slice A x.length c,nV n] w h (fun v h1=>xr h1 v (x.length-n/64) (fun z=>ax z=ax x/2^n)):=by
 have e:=((sS g).aS hA);refine go Tryz.func139 [(0,qS A x.length c),(1,nV n)] rfl (aa e ac (aK (lL e ac (lV 10 (nV (n/64)) ?_ (hr:=aY (db (t:=3) (u:=3) (x:=.tmp 9) (y:=.const (iV 64)) (k:=.i64) (a:=(n:Int)) (b:=(64:Int)) kR kR kR oM _) (cM n 64 oM))))));refine lL e ac (lV 12 (nV (n%64)) ?_ (hr:=aY (eT (t:=3) (u:=3) (x:=.tmp 11) (y:=.const (iV 64)) (k:=.i64) (a:=(n:Int)) (b:=(64:Int)) kR kR kR oM _) (cX n 64)));refine lV 13 (mV (n%64)) ?_ (hr:=rU (((n%64:Nat):Int)) kR (bD oM oM));refine lL e aF (af (aa e [.c,.c,.v (nV x.length)] ?_));cases C:(decide ((x.length:Int)<=((n/64:Nat):Int)))
 .
  have F:=oF C;refine lB 17 C (aj (cK (aa e [.c,.v (nV x.length),.c] (bA 21 ((x.length:Nat)-(n/64:Nat)) (x.length-(n/64)) ?_))));refine lK 22 33 (x.length-(n/64)) 1 8 (uV 0) ag 0 e (fun B w3 h4 e=>?_);have Q:(yJ (x.length-(n/64)) 0).length=(x.length-(n/64)):=by simp
  refine lL e ac (af (aa e [.c,.v (nV (x.length-(n/64))),.c] (ba ?_)));refine bS _ (CG.loop (fun Z Γ w_=>∃ (i:Nat)(l:List Nat)(Y:Hp),Z=x.length-n/64-i/\Γ=[(0,qS A x.length c),(4,sZ),(5,nV (n/64)),(6,mV (n%64)),(7,qS (sB B) (x.length-(n/64)) (x.length-(n/64))),(24,nV (x.length-(n/64))),(25,nV i)]/\SS w h w_ Y [⟨B,33,(l).flatMap ag⟩] [] [fun Y=>SlO 1 ag 0 Y A x]/\i<=x.length-n/64/\l.length=x.length-n/64/\Wd l/\2^(n%64)*ah 18446744073709551616 l+(x.drop (n/64)).getD 0 0%2^(n%64)=ah 18446744073709551616 ((x.drop (n/64)).take i)+18446744073709551616^i*((x.drop (n/64)).getD i 0%2^(n%64))/\(∀ k,i<=k->l.getD k 0=0)) _ ⟨0,yJ (x.length-(n/64)) 0,h4,rfl,rfl,e.to _ _,GA _,Q,Wd.rep _,(by rw[ee];simp[ah]),fun k _=>fe⟩ ?_);rintro _ _ w6 ⟨i,l,h7,hm8,rfl,e,hi,K,O,inv,hz⟩;refine aD ?_;cases D:(decide ((i:Int)<(((x.length-(n/64)):Nat):Int)))
  .
   have H:=oF D;refine lB 26 D (af (cG (CG.exit ?_)))
   show CG _ _ _ _ _ _ _ _
   refine aa e aF (lN (kX ?_));have hix:i=x.length-n/64:=by omega
   have hE:=vr (W:=x.drop (n/64)) (m:=i) (by rw[zy];omega) inv;rw[kK V oM,D0,<-uQ n] at hE
   obtain ⟨_,e,J,bd,bb⟩:=e.pub 0;replace e:=(e.to [] []).aS (SlO.of_flat (sz:=1) (f:=ag) (d:=0) (b:=B) (o:=0) (l:=l) (fun _=>rfl) J);exact e.ret [] (qS (sB B) (x.length-(n/64)) (x.length-(n/64))) (⟨sB B,_,l,by rw[K],by omega,by omega,O,hE,e.f.1⟩)
  have H:=oT D;refine lB 26 D (af (bY (cK (cQ (kZ (aa e aF (aK (lL e FA (bA 33 ((i:Nat)+(n/64:Nat)) (i+(n/64)) ?_)))))))));refine lX 34 A x.length c 1 (i+(n/64):Nat) (i+(n/64)) ((e.f.1).ok oM) (lH 35 (mV (x.getD (i+(n/64)) 0)) e ((e.f.1).el (i+(n/64)) oM) (lL e ac ?_));have X:=V.get (i+n/64);refine lV 37 (mV ((x.getD (i+(n/64)) 0:Nat)/2^(n%64))) ?_ (hr:=fA (t:=33) (u:=154) (x:=.tmp 35) (y:=.tmp 36) (ky:=.u64) (a:=(x.getD (i+(n/64)) 0:Nat)) (n:=(n%64)) kR kR kR oM _);refine lX 38 (sB B) (x.length-(n/64)) (x.length-(n/64)) 1 (i:Nat) i rfl (lW 0 l ag 1 i ((x.getD (i+(n/64)) 0:Nat)/2^(n%64):Nat) e oM (fun _ e=>?_));have zb:((l).set i ((x.getD (i+(n/64)) 0:Nat)/2^(n%64):Nat)).length=(x.length-(n/64)):=by rw[Gq];exact K
  replace e:=e.to [⟨B,33,((l).set i ((x.getD (i+(n/64)) 0:Nat)/2^(n%64):Nat)).flatMap ag⟩] [];refine aK (lL e aF (bA 41 ((i:Nat)+(n/64:Nat)) (i+(n/64)) ?_));refine bA 42 ((i+(n/64):Nat)+1) ((i+(n/64))+1) (lL e [.c,.v (nV x.length)] ?_);cases L:(decide ((((i+(n/64))+1:Nat):Int)<(x.length:Int)))
  .
   have zc:=oF L;refine lB 45 L (aj (cK (kQ (bA 62 ((i:Nat)+1) (i+1) ?_))));refine lL e ac (lD ?_);intro a_ ka;refine ⟨_,_,?_,⟨i+1,(l).set i ((x.getD (i+(n/64)) 0:Nat)/2^(n%64):Nat),h7,rfl,rfl,e.to _ _,oM,zb,(O.set _ (by have:=zY (x.getD (i+n/64) 0) (2^(n%64));omega)),(nw oM inv (hz _ (nR _)) (by rw[br,br,show n/64+i=i+n/64 by omega,bP (show x.length<=n/64+(i+1) by omega),Gs,Ah,yt];exact F5 _ _)),(k5 oM hz)⟩,ka.to _ kR⟩
   omega
  have zc:=oT L;refine lB 45 L (ar (cR 15 [] mixed e am ?_));refine eV 0 46 (qS (sB B) (x.length-(n/64)) (x.length-(n/64))) (eV 1 47 (nV i) (eX 2 48 (sB B) (x.length-(n/64)) (x.length-(n/64)) 1 (i:Nat) i rfl (eQ 3 49 0 ((l).set i ((x.getD (i+(n/64)) 0:Nat)/2^(n%64):Nat)) ag 1 0 i (mV (((l).set i ((x.getD (i+(n/64)) 0:Nat)/2^(n%64):Nat)).getD i 0)) e oM (eV 4 50 (qS A x.length c) (eV 5 51 (nV i) (eV 6 52 (nV (n/64)) (km 7 53 ((i:Nat)+(n/64:Nat)) (i+(n/64)) (km 8 54 ((i+(n/64):Nat)+1) ((i+(n/64))+1) (eX 9 55 A x.length c 1 ((i+(n/64))+1:Nat) ((i+(n/64))+1:Nat) ((e.f.1).ok oM) (eH 10 56 (mV (x.getD ((i+(n/64))+1:Nat) 0)) e ((e.f.1).el ((i+(n/64))+1:Nat) oM) (eV 11 57 (mV (n%64)) (eV 12 58 (mV (64-(n%64))) ?_ (hv:=fun _=>rU (((64:Int)-((n%64:Nat):Int))) kR (ff 64 (n%64) oM oM))))))))))))));refine eV 13 59 (mV ((x.getD ((i+(n/64))+1:Nat) 0:Nat)*2^(64-(n%64))%18446744073709551616)) ?_ (hv:=fun _=>fy (t:=33) (u:=154) (x:=.tmp 56) (y:=.tmp 58) (ky:=.u64) (a:=(x.getD ((i+(n/64))+1:Nat) 0:Nat)) (n:=(64-(n%64))) kR kR kR _);obtain ⟨S,M,U⟩:=mI (x:=x.getD (i+n/64) 0) (y:=x.getD (i+n/64+1) 0) (p:=n%64) oM X;have hdv:=zY (x.getD (i+n/64) 0) (2^(n%64));have I:=bv (l:=l) (k:=i) (j:=i) (x:=x.getD (i+n/64) 0/2^(n%64)) oM;rw[if_pos rfl] at I
  refine eV 14 60 (mV (x.getD (i+n/64) 0/2^(n%64)+x.getD (i+n/64+1) 0*2^(64-n%64)%18446744073709551616)) ?_ (hv:=fun _=>aY (im (t:=33) (u:=33) (x:=.tmp 49) (y:=.tmp 59) (a:=(((l).set i ((x.getD (i+(n/64)) 0:Nat)/2^(n%64):Nat)).getD i 0:Nat)) (b:=((x.getD ((i+(n/64))+1:Nat) 0:Nat)*2^(64-(n%64))%18446744073709551616:Nat)) kR kR kR oM oM _) (by rw[I,S]));refine bW e (fun _ ze e=>tX 15 61 (sB B) (x.length-(n/64)) (x.length-(n/64)) 1 (i:Nat) i rfl (tW 16 0 ((l).set i ((x.getD (i+(n/64)) 0:Nat)/2^(n%64):Nat)) ag 1 i (x.getD (i+n/64) 0/2^(n%64)+x.getD (i+n/64+1) 0*2^(64-n%64)%18446744073709551616) e oM (fun _ e=>?_)));have zd:(((l).set i ((x.getD (i+(n/64)) 0:Nat)/2^(n%64):Nat)).set i (x.getD (i+n/64) 0/2^(n%64)+x.getD (i+n/64+1) 0*2^(64-n%64)%18446744073709551616)).length=(x.length-(n/64)):=by rw[Gq];exact zb
  replace e:=e.to [⟨B,33,(((l).set i ((x.getD (i+(n/64)) 0:Nat)/2^(n%64):Nat)).set i (x.getD (i+n/64) 0/2^(n%64)+x.getD (i+n/64+1) 0*2^(64-n%64)%18446744073709551616)).flatMap ag⟩] [];refine tN (bS [(0,qS A x.length c),(4,sZ),(5,nV (n/64)),(6,mV (n%64)),(7,qS (sB B) (x.length-(n/64)) (x.length-(n/64))),(24,nV (x.length-(n/64))),(25,nV i)] ?_);refine kQ (bA 62 ((i:Nat)+1) (i+1) ?_);refine lL e ac (lD ?_);intro a_ ka;refine ⟨_,_,?_,⟨i+1,((l).set i ((x.getD (i+(n/64)) 0:Nat)/2^(n%64):Nat)).set i (x.getD (i+n/64) 0/2^(n%64)+x.getD (i+n/64+1) 0*2^(64-n%64)%18446744073709551616),ze,rfl,rfl,e.to _ _,oM,zd,((O.set _ oM).set _ M),(by rw[GC];exact nw oM inv (hz _ (nR _)) (by rw[br,br,show n/64+i=i+n/64 by omega,show n/64+(i+1)=i+n/64+1 by omega];exact U)),(by rw[GC];exact k5 oM hz)⟩,ka.to _ kR⟩
  omega
 have F:=oT C;exact lB 17 C (ar (aa e ac (ae e [] (sZ) (⟨none,0,[],rfl,by simp,by simp;omega,Dg.nil,(by show 0=_;exact (z1 (wu V oM)).symm),SlO.nil⟩))))
theorem Fu {a b:Nat}(ha:a<18446744073709551616)(d:b<18446744073709551616):a*b<=340282366920938463426481119284349108225:=by
 have h1:a<=18446744073709551615:=by omega
 have c:b<=18446744073709551615:=by omega
 exact Gm h1 c
def w3 (u2 u1 u0:Nat):Nat:=18446744073709551616*(18446744073709551616*u2+u1)+u0
def w2 (v1 v0:Nat):Nat:=18446744073709551616*v1+v0
structure Gss (u2 u1 u0 v1 v0 g r o:Nat):Prop where
  e:g*v1+(r+18446744073709551616*o)=18446744073709551616*u2+u1
  lt:g+1=18446744073709551616\/w3 u2 u1 u0<(g+1)*w2 v1 v0
  gb:g<18446744073709551616
def wF (u2 u1 u0 v1 v0 g:Nat):Prop:=g*w2 v1 v0<=w3 u2 u1 u0/\(g+1=18446744073709551616\/w3 u2 u1 u0<(g+1)*w2 v1 v0)/\g<18446744073709551616
theorem gv {g b a:Nat}:g*w2 b a=18446744073709551616*(g*b)+g*a:=by unfold w2;rw[z8,Nat.mul_left_comm]
theorem Gss.fin {c u1 a d b g r o:Nat}(h:Gss c u1 a d b g r o)(f:g*b<=18446744073709551616*(r+18446744073709551616*o)+a):wF c u1 a d b g:=by
 refine ⟨?_,h.lt,h.gb⟩;rw[gv]
 unfold w3
 rw[<-h.e,z8]
 omega
theorem Gss.over {c u1 b d a g r o:Nat}(h:Gss c u1 b d a g r o)(e:0<o)(h0:a<18446744073709551616):wF c u1 b d a g:=by
 refine h.fin ?_;have h1:=Fu h.gb h0
 omega
theorem Gss.dec {d u1 b a c g r f o':Nat}(h:Gss d u1 b a c g r 0)(i:18446744073709551616*r+b<g*c)(e:f+18446744073709551616*o'=r+a):0<g/\Gss d u1 b a c (g-1) f o':=by
 have j:0<g:=dh i;obtain ⟨p,rfl⟩:∃ p,g=p+1:=⟨g-1,by omega⟩;have e1:=h.e;rw[Ah,yt] at e1
 have h1:w3 d u1 b<(p+1)*w2 a c:=by
  rw[gv]
  unfold w3
  rw[<-e1,z8]
  omega
 have e2:(p+1)*a=p*a+a:=by rw[zF,F4]
 rw[F7];exact ⟨j,⟨by omega,Or.inr h1,by have:=h.gb;omega⟩⟩
theorem wA {b u1 c a d r o:Nat}(h:b=a)(e:r+18446744073709551616*o=u1+a):Gss b u1 c a d 18446744073709551615 r o:=by
 subst h;exact ⟨by omega,.inl rfl,by decide⟩
theorem xe {b u1 c a d q r:Nat}(e:b*18446744073709551616+u1=a*q+r)(hr:r<a)(h0:c<18446744073709551616)(f:q<18446744073709551616):Gss b u1 c a d q r 0:=by
 rw[y8 b] at e
 refine ⟨by rw[y8 q];omega,.inr ?_,f⟩;rw[gv,zF q 1 a,F4,y8 q a]
 unfold w3
 rw[e]
 have h1:18446744073709551616*(a*q+r)+18446744073709551616<=18446744073709551616*(a*q+a):=by
  rw[<-Gd];exact A5 _ oM
 have h:0<=(q+1)*d:=GA _
 omega
theorem AJ (u u1 l f i:Nat)(h0:u<18446744073709551616)(h1:u1<18446744073709551616)(h2:l<18446744073709551616)(h3:f<18446744073709551616)(X:i<18446744073709551616)(hle:u<=f)(hv:0<f)(w:World)(h:Hp)(g:G w h):CR 138 #[mV u,mV u1,mV l,mV f,mV i] w h (fun v _=>∃ g:Nat,v=mV g/\wF u u1 l f i g):=by
 have d:=sS g;refine go Tryz.func138 [(0,mV u),(1,mV u1),(2,mV l),(3,mV f),(4,mV i)] rfl ?_;refine aa d ac (aK (lL d eo (lN (CG.join (fun Γ w_=>∃ (M:Nat)(K:Nat)(L:Nat)(h_:Hp),Γ=[(2,mV l),(3,mV f),(4,mV i),(10,uV 0),(11,mV M),(12,mV K),(13,mV L)]/\SS w h w_ h_ [] [] []/\Gss u u1 l f i M K L/\K<18446744073709551616/\L<=1) ?_ ?_))))
 .
  refine aa d aF ?_;cases p:((u:Int) == (f:Int))
  .
   have D:=aq p;refine lB 18 p (aj (kQ (lL d eo (lC 29 d (rZ u u1 f oM wM wM _ _ d.g) ?_))));rintro _ w7 h8 d ⟨q2,r3,rfl,he4,hl5,hm6⟩;refine lL d [.c,.v (mV q2),.v (mV r3),.c,.c] (lD ?_);intro W y;exact ⟨_,⟨q2,r3,0,h8,rfl,d.to _ _,(xe oM oM h2 oM),oM,oM⟩,y.to _ kR⟩
  have D:=eq_of_beq p;refine lB 18 p (ar (aa d ac (lN (kQ (lL d aF ?_)))));obtain ⟨B,ze,bm,bd,bn,F⟩:=dv u1 f 0 wM wM oM;refine lV 22 (.tuple #[mV B,mV ze]) ?_ (hr:=dd kR (F _));refine lL d [.c,.v (mV B),.v (mV ze),.c,.c] (lD ?_);intro W y;exact ⟨_,⟨18446744073709551615,B,ze,h,rfl,d.to _ _,(wA oM oM),oM,oM⟩,y.to _ kR⟩
 rintro _ _ ⟨M,K,L,zo,rfl,d,hG0,hr0,H⟩;refine cQ (kZ ?_);refine bS _ (CG.loop (fun μ_ Γ w_=>∃ (g:Nat)(r:Nat)(o:Nat)(h_:Hp),μ_=g/\Γ=[(2,mV l),(3,mV f),(4,mV i),(10,uV 0),(11,mV g),(12,mV r),(13,mV o)]/\SS w h w_ h_ [] [] []/\Gss u u1 l f i g r o/\r<18446744073709551616/\o<=1) _ ⟨M,K,L,zo,rfl,rfl,d.to _ _,hG0,hr0,H⟩ ?_);rintro _ _ _ ⟨g,r,o,_,b0,rfl,d,e,hr,hov⟩;have hgl:=e.gb;refine cQ (aa d ac ?_);cases U:((o:Int) == (0:Int))
 .
  have zi:=aq U;refine lB 33 U (aj (CG.exit ?_))
  show CG _ _ _ _ _ _ _ _
  exact aa d aF (ae d [] (mV g) (⟨g,rfl,(by first|exact e.over oM X|(rw[show o=0 by omega] at e;exact e.fin oM))⟩))
 have zi:=eq_of_beq U;refine lB 33 U (ar (cK (kZ (aa d aF (lC 37 d (l9 g i wM wM _ _ d.g) ?_)))));rintro _ _ zm d ⟨C,zn,rfl,bz,bk,bf,b2⟩;have O:=ij (a:=g) (b:=i) wM wM;refine lL d [.c,.v (mV C),.v (mV zn),.c,.c] (af (aa d aF ?_));cases S:(decide ((C:Int)<(r:Int)))
 .
  have zj:=oF S;refine lB 42 S (lL d eo ?_);cases Q:((C:Int) == (r:Int))
  .
   have zk:=aq Q;refine lB 46 Q (lL d ac (lG 48 ?_));refine lG 49 (lG 50 (lL d [.v qF,.v qF] (aj (cK (aD ?_)))));have j:18446744073709551616*r+l<g*i:=by omega
   rw[show o=0 by omega] at e
   have hg0:=dh j;have Y:=e.gb;refine lL d ac (lV 54 (mV (g-1)) ?_ (hr:=rU (((g:Int)-(1:Int))) kR (ff g 1 oM oM)));refine lL d ac (lN (kQ (lL d aF ?_)));obtain ⟨x,zf,bx,bb,bt,I⟩:=dv r f 0 wM wM oM;refine lV 58 (.tuple #[mV x,mV zf]) ?_ (hr:=dd kR (I _));refine lL d [.c,.v (mV x),.v (mV zf),.c,.c] (lD ?_);intro W y;refine ⟨_,_,?_,⟨g-1,x,zf,zm,rfl,rfl,d.to _ _,((e.dec j oM).2),oM,oM⟩,y.to _ kR⟩
   omega
  have zk:=eq_of_beq Q;refine lB 46 Q (lL d eo ?_);cases V:(decide ((zn:Int)<=(l:Int)))
  .
   have zl:=oF V;refine lB 50 V (lL d [.v qF,.v qF] (aj (cK (aD ?_))));have j:18446744073709551616*r+l<g*i:=by omega
   rw[show o=0 by omega] at e
   have hg0:=dh j;have Y:=e.gb;refine lL d ac (lV 54 (mV (g-1)) ?_ (hr:=rU (((g:Int)-(1:Int))) kR (ff g 1 oM oM)));refine lL d ac (lN (kQ (lL d aF ?_)));obtain ⟨z,Z,bq,bl,b1,J⟩:=dv r f 0 wM wM oM;refine lV 58 (.tuple #[mV z,mV Z]) ?_ (hr:=dd kR (J _));refine lL d [.c,.v (mV z),.v (mV Z),.c,.c] (lD ?_);intro W y;refine ⟨_,_,?_,⟨g-1,z,Z,zm,rfl,rfl,d.to _ _,((e.dec j oM).2),oM,oM⟩,y.to _ kR⟩
   omega
  have zl:=oT V;refine lB 50 V (lL d [.v qT,.v qT] (ar (CG.exit ?_)))
  show CG _ _ _ _ _ _ _ _
  exact aa d aF (ae d [] (mV g) (⟨g,rfl,(by first|exact e.over oM X|(rw[show o=0 by omega] at e;exact e.fin oM))⟩))
 have zj:=oT S;refine lB 42 S (lL d ac (lG 44 ?_));refine lG 45 (lG 46 (lG 47 (lG 48 (lG 49 (lG 50 (lG 51 (lL d [.v qT] (ar (CG.exit ?_)))))))))
 show CG _ _ _ _ _ _ _ _
 exact aa d aF (ae d [] (mV g) (⟨g,rfl,(by first|exact e.over oM X|(rw[show o=0 by omega] at e;exact e.fin oM))⟩))
theorem BO (A:Z9)(c:Nat)(l:List Nat)(n:Nat)(d:l.length=n)(a:l.length<=1099511627776)(e:l.length<=c)(w:World)(h:Hp)(g:G w h)(b:SlO 1 ag 0 h A l):CV 114 #[.slice A n c] w h (.slice A (tl l n) c):=by
 subst d;exact xZ A c l a e w h g b
theorem Dq (rb:Nat)(l:List Nat)(c d:Nat)(S:0<d)(Y:d<18446744073709551616)(O:Wd l)(hl:l.length<=1000000000)(hc:l.length<=c)(w:World)(h:Hp)(g:G w h)(V:Own w rb 33 (l.flatMap ag))(Z:h[rb]?=some a6):Calls Tryz.prog 105 #[.slice (sB rb) l.length c,mV d] w (dr rb w h fun v w' _=>∃ z:List Nat,∃ r:Nat,v=.tuple #[.slice (sB rb) (tl z z.length) c,uV r]/\z.length=l.length/\Wd z/\ax l=d*ax z+r/\r<d/\Own w' rb 33 (z.flatMap ag)):=by
 have e:UpM [rb] w h w h:=UpM.refl g;obtain ⟨wz,hz,a⟩:=SS.at_ g V Z;have M:l.length=l.length:=rfl;refine go Tryz.func105 [(0,qS (sB rb) l.length c),(1,mV d)] rfl (aa a aF (aK (lL a ac (af (aa a [.c,.v (nV l.length)] (lV 10 (iV ((l.length:Int)-1)) ?_ (hr:=rS (((l.length:Nat)-1)) kR ((fD oM oM).trans oM))))))));refine lL a ac (ba ?_);refine bS _ (CG.loop (fun F Γ H=>∃ (m:Nat)(z:List Nat)(r:Nat)(h_:Hp),F=m/\Γ=[(0,qS (sB rb) l.length c),(1,mV d),(4,sZ),(5,uV 0),(7,iV ((m:Int)-1)),(6,mV r)]/\SS wz hz H h_ [⟨rb,33,(z).flatMap ag⟩] [] []/\m<=l.length/\z.length=l.length/\Wd z/\ax l=d*(18446744073709551616^m*ah 18446744073709551616 (z.drop m))+(18446744073709551616^m*r+ah 18446744073709551616 (z.take m))/\r<d/\UpM [rb] w h H h_) _ ⟨l.length,l,0,h,rfl,rfl,a.to _ _,nR _,rfl,O,(by show ah _ l=_;simp[ah,yC]),S,e⟩ ?_);rintro _ _ w1 ⟨m,z,r,h2,U,rfl,a,hm,i,y,inv,B,e⟩;refine cQ (aa a ac ?_);cases j:(decide ((0:Int)<=((m:Int)-1:Int)))
 .
  have u:=oF j;refine lB 12 j (aj (CG.exit ?_))
  show CG _ _ _ _ _ _ _ _
  refine aa a ac (wq 29 0 a (fun _ Q f_ D=>BO (sB rb) c (z) (l.length) i oM oM _ _ Q (SlO.of_flat (sz:=1) (f:=ag) (d:=0) (b:=rb) (o:=0) (l:=z) (fun _=>rfl) D)) ?_);rintro _ w5 h6 u7 a rfl;replace e:=e.trans (u7.m _);refine lL a eo (lN (kX ?_));have C:m=0:=by omega
  rw[C] at inv
  exact a.retM e [] (.tuple #[qS (sB rb) (tl (z) l.length) c,mV r]) ⟨z,r,by rw[i],i,y,(by simp only[Gy,F4,yu,Gz,ah] at inv;exact inv),B,a.own 0⟩
 have u:=oT j;refine lB 12 j (ar (cK (cQ (kZ (kQ (lL a FA (lX 21 (sB rb) l.length c 1 ((m:Int)-1) (m-1) rfl ?_)))))));have hzg:=y.get (m-1);refine lQ 22 0 z ag 1 0 (m-1) (mV ((z).getD (m-1) 0)) a oM (lL a ac (i5 24 (rZ r ((z).getD (m-1) 0) d oM wM wM _ _ a.g) ?_));rintro _ _ W p ⟨x,I,rfl,K,L,J⟩;replace e:=e.trans (p.m _);replace a:=a.step p;refine lL a [.c,.v (mV x),.v (mV I)] (lX 27 (sB rb) l.length c 1 ((m:Int)-1) (m-1) rfl ?_);refine EH 0 z ag 1 (m-1) x a oM (fun _ pu a=>?_);replace e:=e.put pu (ul.2 rfl) a.g;have X:((z).set (m-1) x).length=l.length:=by rw[Gq];exact i
 replace a:=a.to [⟨rb,33,((z).set (m-1) x).flatMap ag⟩] [];refine lL a ac (lN (kQ (lL a ac (lV 14 (iV (((m-1:Nat):Int)-1)) ?_ (hr:=rS ((((m:Int)-1)-1)) kR ((fD oM oM).trans oM))))));refine lL a ac (lD ?_);intro a_ ka;refine ⟨_,_,?_,⟨m-1,(z).set (m-1) x,I,W,rfl,rfl,a.to _ _,oM,X,(y.set _ oM),(vC oM (by rw[show m-1+1=m by omega];exact inv) oM),oM,e⟩,ka.to _ kR⟩
 omega
theorem BS {u:List Nat}{k:Nat}(hk:2<=k):w3 (u.getD k 0) (u.getD (k-1) 0) (u.getD (k-2) 0)=u.getD k 0*18446744073709551616*18446744073709551616+u.getD (k-1) 0*18446744073709551616+u.getD (k-2) 0:=by
 unfold w3
 rw[y8 (u.getD k 0) 18446744073709551616,y8 (18446744073709551616*u.getD k 0) 18446744073709551616,y8 (u.getD (k-1) 0),z8]
theorem B4 {b a:Nat}:w2 b a=b*18446744073709551616+a:=by unfold w2;rw[y8]
section
variable {n j G:Nat}{u v:List Nat}
theorem A3 (x:2<=n)(e:v.length=n)(a:Wd v)(c:Wd u)(f:j+n<u.length)(hR:ax u<18446744073709551616^(j+1)*ax v):u.getD (j+n) 0<=v.getD (n-1) 0:=by
 rcases ep (v.getD (n-1) 0) (u.getD (j+n) 0) with h|h
 ·exfalso
  have e1:=aR 18446744073709551616 (l:=v) (k:=n-1) oM;rw[show n-1+1=v.length by omega,yw] at e1
  have h1:=bJ (Dg.take a (n-1));rw[y9,Ag oM] at h1
  have e2:=aR 18446744073709551616 (l:=u) (k:=j+n) oM;have b:=bE 18446744073709551616 (l:=u) (k:=j+n+1) oM;have o:18446744073709551616^(j+n)*(v.getD (n-1) 0+1)<=18446744073709551616^(j+n)*u.getD (j+n) 0:=A5 _ h
  have d:18446744073709551616^(j+1)*ax v<18446744073709551616^(j+1)*(18446744073709551616^(n-1)*(v.getD (n-1) 0+1)):=by
   refine F6 ?_ (Bs kD)
   show ah _ v<_
   rw[e1,z8,F8];omega
  rw[<-Ab,<-A4,show j+1+(n-1)=j+n by omega] at d
  have i:ax u=ah 18446744073709551616 (u.take (j+n))+18446744073709551616^(j+n)*u.getD (j+n) 0+18446744073709551616^(j+n+1)*ah 18446744073709551616 (u.drop (j+n+1)):=by
   show ah _ u=_
   rw[b,e2]
  have p:=GA (18446744073709551616^(j+n+1)*ah 18446744073709551616 (u.drop (j+n+1)))
  omega
 ·exact h
theorem uU (l:2<=n)(e:v.length=n)(c:Wd v)(b:Wd u)(h:j+n<u.length)(a:v.getD (n-1) 0≠0)(hR:ax u<18446744073709551616^(j+1)*ax v)(f:wF (u.getD (j+n) 0) (u.getD (j+n-1) 0) (u.getD (j+n-2) 0) (v.getD (n-1) 0) (v.getD (n-2) 0) G) :
  ax u/(18446744073709551616^j*ax v)<=G/\G<=ax u/(18446744073709551616^j*ax v)+1:=by
 obtain ⟨h1,d,i⟩:=f;rw[BS oM,B4] at h1 d
 exact rC kD l e c b h a hR h1 d i
theorem sO (f:2<=n)(d:v.length=n)(a:Wd v)(b:v.getD (n-1) 0≠0):18446744073709551616^(n-1)<=ax v/\ax v<18446744073709551616^n:=by
 have c:=bJ a;rw[d] at c
 refine ⟨?_,c⟩;have e1:=aR 18446744073709551616 (l:=v) (k:=n-1) oM;rw[show n-1+1=v.length by omega,yw] at e1
 have e:18446744073709551616^(n-1)*1<=18446744073709551616^(n-1)*v.getD (n-1) 0:=A5 _ oM
 show _<=ah _ v
 omega
theorem vd (d:2<=n)(c:v.length=n)(a:Wd v)(hR:ax u<18446744073709551616^(j+1)*ax v):ax u<18446744073709551616^(j+n+1):=by
 have b:=bJ a;rw[c] at b
 have h1:18446744073709551616^(j+1)*ax v<18446744073709551616^(j+1)*18446744073709551616^n:=F6 b (Bs kD);rw[<-A4,show j+1+n=j+n+1 by omega] at h1
 omega
theorem wV {u1:List Nat}(i:2<=n)(l:v.length=n)(d:Wd v)(f:Wd u)(h:Wd u1)(z:j+n<u.length)(a:v.getD (n-1) 0≠0)(hR:ax u<18446744073709551616^(j+1)*ax v)
  (o:ax u/(18446744073709551616^j*ax v)<=G/\G<=ax u/(18446744073709551616^j*ax v)+1)(c:Above u1 u (j+n+1))(e:ax u1+18446744073709551616^j*(G*ax v)=ax u+18446744073709551616^(j+n+1)*0) :
  ax u1<18446744073709551616^j*ax v/\ax u1+18446744073709551616^j*(G*ax v)=ax u:=by
 obtain ⟨x,y⟩:=sO i l d a;have p:=iF (b:=18446744073709551616) kD c h f (by rw[c.1];omega) (vd i l d hR);have:=(iJ (b:=18446744073709551616) kD i x y hR p e (GA 1) o).1 rfl;rw[Ah,yt] at e
 exact ⟨this.2.2.1,e⟩
theorem Dy {b a W K T c:Nat}(e2:a+T*c=b+W)(e:b+W=K+T)(j:a<T)(f:K<W)(i:W<=T):a=K:=by
 have d:c=1:=by
  rcases Nat.lt_trichotomy c 1 with h|h|h
  ·have:c=0:=by omega
   subst this;omega
  ·exact h
  ·have l:T*2<=T*c:=A5 _ h
   omega
 subst d
 omega
theorem Ch {u1 d:List Nat}{c:Nat}(z:2<=n)(D:v.length=n)(i:Wd v)(o:Wd u)(y:Wd u1)(x:Wd d)(Q:j+n<u.length)(f:v.getD (n-1) 0≠0)(hR:ax u<18446744073709551616^(j+1)*ax v)
  (J:ax u/(18446744073709551616^j*ax v)<=G/\G<=ax u/(18446744073709551616^j*ax v)+1)(h:Above u1 u (j+n+1))(a:Above d u (j+n+1))(e:ax u1+18446744073709551616^j*(G*ax v)=ax u+18446744073709551616^(j+n+1)*1)
  (e2:ax d+18446744073709551616^(j+n+1)*c=ax u1+18446744073709551616^j*ax v) :
  ax d<18446744073709551616^j*ax v/\ax d+18446744073709551616^j*((G-1)*ax v)=ax u/\0<G:=by
 obtain ⟨L,C⟩:=sO z D i f;have l:=vd z D i hR;have I:=iF (b:=18446744073709551616) kD h y o (by rw[h.1];omega) l;have B:=iF (b:=18446744073709551616) kD a x o (by rw[a.1];omega) l;obtain ⟨H,M,F,O⟩:=(iJ (b:=18446744073709551616) kD z L C hR I e oM J).2 rfl
 have p:18446744073709551616^j*ax v<=18446744073709551616^(j+n+1):=by
  have h1:18446744073709551616^j*ax v<=18446744073709551616^j*18446744073709551616^n:=A5 _ (Nat.le_of_lt C);rw[<-A4] at h1
  have K:(18446744073709551616:Nat)^(j+n)<=18446744073709551616^(j+n+1):=Aw kD oM;exact ez h1 K
 have hk:ax d=ax u-18446744073709551616^j*((G-1)*ax v):=Dy e2 M B F p;exact ⟨by rw[hk];exact F,by rw[hk];exact Nat.sub_add_cancel O,by rw[H];exact GD _⟩
theorem BX {u1:List Nat}(i:2<=n)(l:v.length=n)(d:Wd v)(f:Wd u)(h:Wd u1)(B:j+n<u.length)(a:v.getD (n-1) 0≠0)(hR:ax u<18446744073709551616^(j+1)*ax v)
  (o:ax u/(18446744073709551616^j*ax v)<=G/\G<=ax u/(18446744073709551616^j*ax v)+1)(c:Above u1 u (j+n+1))(e:ax u1+18446744073709551616^j*(G*ax v)=ax u+18446744073709551616^(j+n+1)*1):0<G:=by
 obtain ⟨y,z⟩:=sO i l d a;have x:=iF (b:=18446744073709551616) kD c h f (by rw[c.1];omega) (vd i l d hR);obtain ⟨p,_⟩:=(iJ (b:=18446744073709551616) kD i y z hR x e (ey 1) o).2 rfl;rw[p];exact GD _
theorem vX (j:n<=u.length)(d:v.length=n)(b:Wd v)(a:Wd u)(hR:ax u<ax v):ax (u.take n)=ax u:=by
 have c:=bJ b;rw[d] at c
 have h:ah 18446744073709551616 u<18446744073709551616^(n+0):=Nat.lt_trans hR c;have hz:=(fP 18446744073709551616 (l:=u) (k:=n) (m:=0) oM kD a h).2;have e:=bE 18446744073709551616 (l:=u) (k:=n) j;have f:ah 18446744073709551616 (u.drop n)=0:=fG _ (fun i=>by rw[br];exact hz _ oM);rw[f,Ah,yt] at e
 exact e.symm
end
theorem tM {q:List Nat}{j Q X V R R':Nat}(c:j<q.length)(h0:q.getD j 0=0)(inv:X=ax q*V+R)(e:R'+18446744073709551616^j*(Q*V)=R):X=ax (q.set j Q)*V+R':=by
 have a:=cj 18446744073709551616 (l:=q) (k:=j) Q c;rw[h0,Ah,yt] at a
 have b:ax (q.set j Q)=ax q+18446744073709551616^j*Q:=a;rw[b,zF,inv,<-e,Ab];omega
theorem BV {X V R q a b s:Nat}(c:V=b*2^s)(f:X=a*2^s)(inv:X=q*V+R)(hR:R<V):q=a/b/\R/2^s=a%b:=by
 have l:=As s;have j:0<V:=by omega
 have i:0<b:=by
  rcases yU b with h|h
  ·rw[h,yB] at c;omega
  ·exact h
 have e1:a*2^s=V*q+R:=by rw[<-f,inv,y8]
 obtain ⟨h1,e⟩:=kW (A:=a) (y:=b) (Q:=q) c e1 hR;have d:a=R/2^s+b*q:=by omega
 constructor
 ·rw[d,A9 _ _ i,z1 e,yF]
 ·rw[d,Gu,yL e]
theorem uf {a s:Nat}(c:s<=64)(h:a*2^s<18446744073709551616):a*2^s+2^s<=18446744073709551616:=by
 have e:=tQ c;rw[e] at h ⊢
 have h1:a<2^(64-s):=Gi h;have b:(a+1)*2^s<=2^(64-s)*2^s:=yG _ h1;rw[zF,F4] at b
 exact b
theorem tJ {x y:List Nat}{s:Nat}(d:Wd x)(h:Wd y)(j:1<=y.length)(a:y.getD (y.length-1) 0≠0)(f:y.length<=x.length):ax x*2^s<18446744073709551616^(x.length-y.length+1)*(ax y*2^s):=by
 have e1:=aR 18446744073709551616 (l:=y) (k:=y.length-1) oM;rw[show y.length-1+1=y.length by omega,yw] at e1
 have i:18446744073709551616^(y.length-1)*1<=18446744073709551616^(y.length-1)*y.getD (y.length-1) 0:=A5 _ oM;have e:18446744073709551616^(y.length-1)<=ax y:=by show _<=ah _ y;omega
 have b:18446744073709551616^(x.length-y.length+1)*18446744073709551616^(y.length-1)<=18446744073709551616^(x.length-y.length+1)*ax y:=A5 _ e;rw[<-A4,show x.length-y.length+1+(y.length-1)=x.length by omega] at b
 have c:ax x<18446744073709551616^x.length:=bJ d;rw[<-Ab];exact Gj (e4 c b) (As s)
theorem CO (A:Z9)(c:Nat)(x:List Nat)(m:Nat)(b:x.length=m)(d:Wd x)(a:x.length<=1000000000)(n:Nat)(f:n<=1000000000)(w:World)(h:Hp)(g:G w h)(e:SlO 1 ag 0 h A x):CR 139 #[.slice A m c,nV n] w h (fun v h1=>xr h1 v (x.length-n/64) (fun z=>ax z=ax x/2^n)):=by
 subst b;exact DT A c x d a n f w h g e
theorem CE {y z:List Nat}{s:Nat}(a:s<=64)(o:Wd y)(hz:Wd z)(h:ax z=ax y*2^s)(B:1<=y.length)(x:y.getD (y.length-1) 0*2^s<18446744073709551616)(f:y.length<=z.length):ax (z.take y.length)=ax y*2^s:=by
 have d:ax z<18446744073709551616^(y.length+0):=by
  rw[h,yt];have e1:=aR 18446744073709551616 (l:=y) (k:=y.length-1) oM;rw[show y.length-1+1=y.length by omega,yw] at e1
  have h1:=bJ (Dg.take o (y.length-1));rw[y9,Ag oM] at h1
  have p:ax y<18446744073709551616^(y.length-1)*(y.getD (y.length-1) 0+1):=by
   show ah _ y<_
   rw[e1,z8,F8];omega
  have j:ax y*2^s<18446744073709551616^(y.length-1)*(y.getD (y.length-1) 0+1)*2^s:=Gj p (As s)
  have c:18446744073709551616^(y.length-1)*(y.getD (y.length-1) 0+1)*2^s<=18446744073709551616^y.length:=by
   have u:(18446744073709551616:Nat)^y.length=18446744073709551616^(y.length-1)*18446744073709551616:=by rw[<-z6];congr 1;omega
   rw[u,Ab];refine A5 _ ?_;rw[zF,F4];exact uf a x
  exact e4 j c
 have b:=(fP 18446744073709551616 (l:=z) (k:=y.length) (m:=0) oM kD hz d).2;have e:=bE 18446744073709551616 (l:=z) (k:=y.length) oM;have c:ah 18446744073709551616 (z.drop y.length)=0:=fG _ (fun i=>by rw[br];exact b _ oM);rw[c,Ah,yt] at e
 rw[<-h];exact e.symm
theorem wN {y v:List Nat}{s:Nat}(d:Wd y)(hv:Wd v)(a:v.length=y.length)(f:ax v=ax y*2^s)(i:1<=y.length)(j:9223372036854775808<=y.getD (y.length-1) 0*2^s):v.getD (v.length-1) 0≠0:=by
 intro h0;have e1:=aR 18446744073709551616 (l:=v) (k:=v.length-1) oM;rw[show v.length-1+1=v.length by omega,yw,h0,Ah,yt] at e1
 have h1:=bJ (Dg.take hv (v.length-1));rw[y9,Ag oM] at h1
 have e2:=aR 18446744073709551616 (l:=y) (k:=y.length-1) oM;rw[show y.length-1+1=y.length by omega,yw] at e2
 have b:18446744073709551616^(y.length-1)*y.getD (y.length-1) 0<=ax y:=by show _<=ah _ y;omega
 have c:18446744073709551616^(y.length-1)*y.getD (y.length-1) 0*2^s<=ax y*2^s:=yG _ b;rw[Ab] at c
 have e:18446744073709551616^(y.length-1)*1<=18446744073709551616^(y.length-1)*(y.getD (y.length-1) 0*2^s):=A5 _ oM
 have h:ax v<18446744073709551616^(y.length-1):=by
  show ah _ v<_
  rw[e1,<-a];exact h1
 omega
theorem AX (A:Z9)(c:Nat)(x:List Nat)(D:Z9)(d:Nat)(y:List Nat)(hx:Wd x)(hy:Wd y)(hlx:x.length<=1000000000)(hny:2<=y.length)(hxy:y.length<=x.length)(bq:y.getD (y.length-1) 0≠0)(w:World)(h:Hp)(g:G w h)(hA:SlO 1 ag 0 h A x)(hD:SlO 1 ag 0 h D y):CR 106 #[.slice A x.length c,.slice D y.length d] w h (fun v h1=>∃ Aq cq,∃ q:List Nat,∃ Ar cr,∃ r:List Nat,v=.tuple #[.slice Aq q.length cq,.slice Ar r.length cr]/\q.length<=cq/\r.length<=cr/\Wd q/\Wd r/\ax q=ax x/ax y/\ax r=ax x%ax y/\q.length<=x.length/\r.length<=y.length/\SlO 1 ag 0 h1 Aq q/\SlO 1 ag 0 h1 Ar r):=by
 have e:=(((sS g).aS hA).aS hD);refine go Tryz.func106 [(0,qS A x.length c),(1,qS D y.length d)] rfl (aa e aF (aK (lL e [.c,.v (nV y.length),.c] (aK (lL e aF (bA 25 ((y.length:Nat)-1) (y.length-1) ?_))))));refine lX 26 D y.length d 1 (y.length-1:Nat) (y.length-1) ((e.f.1).ok oM) (lH 27 (mV (y.getD (y.length-1) 0)) e ((e.f.1).el (y.length-1) oM) ?_);have hyt:=hy.get (y.length-1);refine ao 28 e (x8 (y.getD (y.length-1) 0) wM _ _ e.g) (fun w1 h2 e=>lL e ac (aK (lL e aF (lC 31 e (uy D d y hy oM (64-nb (y.getD (y.length-1) 0)) oM _ _ e.g e.f.1) ?_))));rintro _ w3 h4 e ⟨V,vc,zv,rfl,hvc,c8,hWv,hVv,hFv⟩;replace e:=e.aS hFv;refine lL e ac (lT 33 V zv.length vc 1 (y.length:Nat) y.length ?_);obtain ⟨p,hvl_⟩:∃ p,p=zv.take y.length:=⟨_,rfl⟩;have bn:p.length=y.length:=by rw[hvl_,y9];omega
 have B:Wd p:=by rw[hvl_];exact Dg.take hWv _
 have c7:=(bR (n:=y.getD (y.length-1) 0) oM).2.2;have bd:=p8 (y:=y.getD (y.length-1) 0) oM (hy.get _);have Z:ax p=ax y*2^(64-nb (y.getD (y.length-1) 0)):=by rw[hvl_];exact CE oM hy hWv hVv oM bd.2 oM
 have O:p.getD (p.length-1) 0≠0:=wN hy B bn Z oM bd.1;replace e:=e.aS ((e.f.1).take y.length);rw[<-hvl_] at e
 refine lL e ac (aK (lL e [.c,.v (nV x.length)] (bA 36 ((x.length:Nat)+1) (x.length+1) ?_)));refine lK 37 33 (x.length+1) 1 8 (uV 0) ag 0 e (fun u w6 h7 e=>?_);have hl8:(yJ (x.length+1) 0).length=(x.length+1):=by simp
 refine lL e ac (aK (lL e eo (lC 41 e (uy A c x hx hlx (64-nb (y.getD (y.length-1) 0)) oM _ _ e.g e.f.r.2.1) ?_)));rintro _ w9 _ e ⟨Uo,uc,zu,rfl,huc,fm,bz,hVu,hFu⟩;replace e:=e.aS hFu;have b3:zu.length=x.length+1:=by omega
 refine FU 42 0 (.tmp 38) (.tmp 41) 141 33 ag 0 Uo zu (x.length+1) zu.length uc (x.length+1) e e.f.1 rfl oM oM (by show ((yJ (x.length+1) 0).flatMap ag).length=_;rw[dQ (sz:=1) (fun _=>rfl)];simp) (fun _ e=>?_);replace e:=e.to [⟨u,33,(zu).flatMap ag⟩] [];refine aK (lL e [.c,.v (nV x.length),.c] (bA 46 ((x.length:Nat)-(y.length:Nat)) (x.length-y.length) ?_));refine bA 47 ((x.length-y.length:Nat)+1) ((x.length-y.length)+1) (lK 48 33 ((x.length-y.length)+1) 1 8 (uV 0) ag 0 e (fun M _ zD e=>?_));have zt:(yJ ((x.length-y.length)+1) 0).length=((x.length-y.length)+1):=by simp
 refine lL e ac (af (aa e [.c,.v (nV x.length),.c] (lV 52 (iV (((x.length-y.length+1:Nat):Int)-1)) ?_ (hr:=rS (((x.length:Nat)-(y.length:Nat))) kR ((fD oM oM).trans oM)))));refine lL e ac (lN (bS [(4,qS (sB M) ((x.length-y.length)+1) ((x.length-y.length)+1)),(5,sZ),(6,nV y.length),(7,nV (64-nb (y.getD (y.length-1) 0))),(8,qS V y.length vc),(9,qS (sB u) (x.length+1) (x.length+1)),(10,iV (((x.length-y.length+1:Nat):Int)-1))] ?_));refine kZ ?_;refine bS _ (CG.loop (fun μ_ Γ w_=>∃ (m:Nat)(H:List Nat)(K:List Nat)(C:Hp),μ_=m/\Γ=[(4,qS (sB M) ((x.length-y.length)+1) ((x.length-y.length)+1)),(5,sZ),(6,nV y.length),(7,nV (64-nb (y.getD (y.length-1) 0))),(8,qS V y.length vc),(9,qS (sB u) (x.length+1) (x.length+1)),(10,iV ((m:Int)-1))]/\SS w h w_ C [⟨M,33,(K).flatMap ag⟩,⟨u,33,(H).flatMap ag⟩] [] [fun C=>SlO 1 ag 0 C Uo zu,fun C=>SlO 1 ag 0 C V p,fun C=>SlO 1 ag 0 C V zv,fun C=>SlO 1 ag 0 C D y,fun C=>SlO 1 ag 0 C A x]/\m<=x.length-y.length+1/\H.length=x.length+1/\Wd H/\K.length=x.length-y.length+1/\Wd K/\ax H<18446744073709551616^m*ax p/\ax zu=ax K*ax p+ax H/\(∀ k,k<m->K.getD k 0=0)) _ ⟨x.length-y.length+1,zu,yJ ((x.length-y.length)+1) 0,zD,rfl,rfl,e.to _ _,nR _,b3,bz,zt,Wd.rep _,(by rw[hVu,Z];exact tJ hx hy oM bq oM),(by show _=ah _ _*_+_;rw[ee,yB,yF]),fun k _=>fe⟩ ?_);rintro _ _ _ ⟨m,H,K,_,df,rfl,e,hm,hul,J,hql,hWq,hR,inv,hq0⟩;refine cQ (aa e ac ?_);cases zd:(decide ((0:Int)<=((m:Int)-1:Int)))
 .
  have zl:=oF zd;refine lB 54 zd (aj (CG.exit ?_))
  show CG _ _ _ _ _ _ _ _
  refine aD ?_;have hm0:m=0:=by omega
  obtain ⟨_,e,b1,cw,d2⟩:=e.pub 0;replace e:=(e.to [⟨u,33,(H).flatMap ag⟩] []).aS (SlO.of_flat (sz:=1) (f:=ag) (d:=0) (b:=M) (o:=0) (l:=K) (fun _=>rfl) b1);obtain ⟨_,e,b2,c3,f1⟩:=e.pub 0;replace e:=(e.to [] []).aS (SlO.of_flat (sz:=1) (f:=ag) (d:=0) (b:=u) (o:=0) (l:=H) (fun _=>rfl) b2);refine lL e eo (lT 190 (sB u) (x.length+1) (x.length+1) 1 (y.length:Nat) y.length ?_);refine lL e ac (lC 192 e (CO (sB u) (x.length+1) (H.take y.length) y.length (by rw[y9];omega) (Dg.take J _) (by rw[y9];omega) (64-nb (y.getD (y.length-1) 0)) oM _ _ e.g ((e.f.1).take y.length)) ?_);rintro _ _ _ e ⟨Ar,cr,zr,rfl,hcr,hlr,hWr,hVr,hFr⟩;replace e:=e.aS hFr;refine lL e aF (lN (kX ?_));rw[hm0,Gy,F4] at hR
  obtain ⟨hQ,hRm⟩:=BV Z hVu inv hR;rw[vX (v:=p) oM oM B J hR] at hVr
  exact e.ret [] (.tuple #[qS (sB M) ((x.length-y.length)+1) ((x.length-y.length)+1),qS Ar zr.length cr]) (⟨_,_,K,Ar,cr,zr,by rw[hql],by omega,hcr,hWq,hWr,hQ,hVr.trans hRm,by omega,(by have:=List.length_take_le y.length H;omega),e.f.r.1,e.f.1⟩)
 have zl:=oT zd;refine lB 54 zd (ar (cK (cQ (kZ (cQ (cR 31 [] mixed e am ?_))))));have hm1:0<m:=by omega
 have W:2<=p.length:=by omega
 have hjn:m-1+p.length<H.length:=by omega
 have hR1:ax H<18446744073709551616^(m-1+1)*ax p:=by rw[show m-1+1=m by omega];exact hR
 have hle:=A3 (n:=p.length) (j:=m-1) W rfl B J hjn hR1;refine eV 0 57 (qS (sB u) (x.length+1) (x.length+1)) (eV 1 58 (iV ((m:Int)-1)) (eV 2 59 (nV y.length) (km 3 60 (((m:Int)-1)+(y.length:Nat)) (m-1+p.length) (eX 4 61 (sB u) (x.length+1) (x.length+1) 1 (m-1+p.length:Nat) (m-1+p.length) rfl (eQ 5 62 1 H ag 1 0 (m-1+p.length) (mV ((H).getD (m-1+p.length) 0)) e oM (eV 6 63 (qS (sB u) (x.length+1) (x.length+1)) (eV 7 64 (iV ((m:Int)-1)) (eV 8 65 (nV y.length) (km 9 66 (((m:Int)-1)+(y.length:Nat)) (m-1+p.length) (km 10 67 ((m-1+p.length:Nat)-1) (m-1+p.length-1) (eX 11 68 (sB u) (x.length+1) (x.length+1) 1 (m-1+p.length-1:Nat) (m-1+p.length-1) rfl (eQ 12 69 1 H ag 1 0 (m-1+p.length-1) (mV ((H).getD (m-1+p.length-1) 0)) e oM (eV 13 70 (qS (sB u) (x.length+1) (x.length+1)) (eV 14 71 (iV ((m:Int)-1)) (eV 15 72 (nV y.length) (km 16 73 (((m:Int)-1)+(y.length:Nat)) (m-1+p.length) (km 17 74 ((m-1+p.length:Nat)-2) (m-1+p.length-2) (eX 18 75 (sB u) (x.length+1) (x.length+1) 1 (m-1+p.length-2:Nat) (m-1+p.length-2) rfl (eQ 19 76 1 H ag 1 0 (m-1+p.length-2) (mV ((H).getD (m-1+p.length-2) 0)) e oM (eV 20 77 (qS V y.length vc) (eV 21 78 (nV y.length) (km 22 79 ((y.length:Nat)-1) (p.length-1) (eX 23 80 V y.length vc 1 (p.length-1:Nat) (p.length-1) ((e.f.2.1).ok oM) (eH 24 81 (mV (p.getD (p.length-1) 0)) e ((e.f.2.1).el (p.length-1) oM) (eV 25 82 (qS V y.length vc) (eV 26 83 (nV y.length) (km 27 84 ((y.length:Nat)-2) (p.length-2) (eX 28 85 V y.length vc 1 (p.length-2:Nat) (p.length-2) ((e.f.2.1).ok oM) (eH 29 86 (mV (p.getD (p.length-2) 0)) e ((e.f.2.1).el (p.length-2) oM) (eC 30 87 e (fun _ _ e=>AJ (((H).getD (m-1+p.length) 0)) (((H).getD (m-1+p.length-1) 0)) (((H).getD (m-1+p.length-2) 0)) ((p.getD (p.length-1) 0)) ((p.getD (p.length-2) 0)) (J.get _) (J.get _) (J.get _) (B.get _) (B.get _) hle oM _ _ e.g) ?_))))))))))))))))))))))))))))));rintro _ _ _ _ _ e ⟨g,rfl,hG0⟩;have hG:=uU (n:=p.length) (j:=m-1) W rfl B J hjn O hR1 hG0;have hgb:=hG0.2.2;refine bW e (fun _ zE e=>tV 31 11 (mV g) (tN (bS [(4,qS (sB M) ((x.length-y.length)+1) ((x.length-y.length)+1)),(5,sZ),(6,nV y.length),(7,nV (64-nb (y.getD (y.length-1) 0))),(8,qS V y.length vc),(9,qS (sB u) (x.length+1) (x.length+1)),(10,iV ((m:Int)-1)),(11,mV g)] ?_)));refine aa e aF (af (aa e aF (ba ?_)));refine bS _ (CG.loop (fun μ_ Γ w_=>∃ (i:Nat)(u1:List Nat)(cy:Nat)(bo:Nat)(C:Hp),μ_=y.length-i/\Γ=[(4,qS (sB M) ((x.length-y.length)+1) ((x.length-y.length)+1)),(5,sZ),(6,nV y.length),(7,nV (64-nb (y.getD (y.length-1) 0))),(8,qS V y.length vc),(9,qS (sB u) (x.length+1) (x.length+1)),(10,iV ((m:Int)-1)),(11,mV g),(88,nV y.length),(89,nV i),(12,mV cy),(13,mV bo)]/\SS w h w_ C [⟨M,33,(K).flatMap ag⟩,⟨u,33,(u1).flatMap ag⟩] [] [fun C=>SlO 1 ag 0 C Uo zu,fun C=>SlO 1 ag 0 C V p,fun C=>SlO 1 ag 0 C V zv,fun C=>SlO 1 ag 0 C D y,fun C=>SlO 1 ag 0 C A x]/\i<=y.length/\u1.length=x.length+1/\Wd u1/\cy<18446744073709551616/\bo<=1/\ah 18446744073709551616 u1+18446744073709551616^(m-1)*(g*ah 18446744073709551616 (p.take i))=ax H+18446744073709551616^(m-1+i)*(cy+bo)/\Above u1 H (m-1+p.length+1)) _ ⟨0,H,0,0,zE,rfl,rfl,e.to _ _,GA _,hul,J,oM,oM,(by show ah _ H+_=ah _ H+_;simp[ah]),Above.refl _ _⟩ ?_);rintro _ _ _ ⟨i,u1,cy,bo,zq,cz,rfl,e,hi,hu1,hW1,hcy,hbo,Y,bk⟩;have fp:=hW1.get (m-1+i);have hvk:=B.get i;refine aD ?_;cases ze:(decide ((i:Int)<(y.length:Int)))
 .
  have zm:=oF ze;refine lB 90 ze (af (cG (CG.exit ?_)))
  show CG _ _ _ _ _ _ _ _
  refine aD ?_;rw[show i=p.length by omega] at Y
  have cp:=hW1.get (m-1+p.length);refine lL e eo (bA 132 (((m:Int)-1)+(y.length:Nat)) (m-1+p.length) ?_);refine lL e eo (bA 136 (((m:Int)-1)+(y.length:Nat)) (m-1+p.length) ?_);refine lX 137 (sB u) (x.length+1) (x.length+1) 1 (m-1+p.length:Nat) (m-1+p.length) rfl (lQ 138 1 u1 ag 1 0 (m-1+p.length) (mV ((u1).getD (m-1+p.length) 0)) e oM (lL e aF ?_));obtain ⟨I,zc,cm,f2,d1,bx⟩:=gR ((u1).getD (m-1+p.length) 0) cy bo wM wM oM;refine lV 141 (.tuple #[mV I,mV zc]) ?_ (hr:=dd kR (bx _));refine lL e [.c,.v (mV I),.v (mV zc)] (lX 144 (sB u) (x.length+1) (x.length+1) 1 (m-1+p.length:Nat) (m-1+p.length) rfl ?_);refine lW 1 u1 ag 1 (m-1+p.length) I e oM (fun _ e=>?_);have zk:((u1).set (m-1+p.length) I).length=(x.length+1):=by rw[Gq];exact hu1
  replace e:=e.to [⟨M,33,(K).flatMap ag⟩,⟨u,33,((u1).set (m-1+p.length) I).flatMap ag⟩] [];refine lL e ac (af (aD ?_));have hE:=CU oM Y (s:=I) (bo':=zc) oM;have X:Wd ((u1).set (m-1+p.length) I):=hW1.set _ oM;have S:=bk.set (x:=I) (show m-1+p.length<m-1+p.length+1 by omega) oM;refine lL e ac ?_;cases zf:((zc:Int) != (0:Int))
  .
   have zn:=aJ zf;refine lB 146 zf (aj (cK (kQ ?_)));have hD_:=wV W rfl B J X hjn O hR1 hG S (by rw[show zc=0 by omega] at hE;exact hE);have hDw:=X;have hDg:=hgb;have hDu:=hD_.1;have hDe:=hD_.2;refine lL e eo (lX 186 (sB M) ((x.length-y.length)+1) ((x.length-y.length)+1) 1 ((m:Int)-1) (m-1) rfl ?_);refine lW 0 K ag 1 (m-1) g e oM (fun _ e=>?_);have zw:((K).set (m-1) g).length=((x.length-y.length)+1):=by rw[Gq];exact hql
   replace e:=e.to [⟨M,33,((K).set (m-1) g).flatMap ag⟩,⟨u,33,((u1).set (m-1+p.length) I).flatMap ag⟩] [];refine lN (kQ (lL e ac (lV 56 (iV (((m-1:Nat):Int)-1)) ?_ (hr:=rS ((((m:Int)-1)-1)) kR ((fD oM oM).trans oM)))));refine lL e ac (lD ?_);intro a_ ka;refine ⟨_,_,?_,⟨m-1,(u1).set (m-1+p.length) I,(K).set (m-1) g,zq,rfl,rfl,e.to _ _,oM,zk,hDw,zw,(hWq.set _ hDg),hDu,(tM oM (hq0 _ oM) inv hDe),(fun k hk=>by rw[bv oM,if_neg oM];exact hq0 k oM)⟩,ka.to _ kR⟩
   omega
  have zn:=aU zf;refine lB 146 zf (ar (aa e ac ?_));have hE1:=hE;rw[show zc=1 by omega] at hE1
  have hgp:=BX W rfl B J X hjn O hR1 hG S hE1;refine lV 148 (mV (g-1)) ?_ (hr:=rU (((g:Int)-(1:Int))) kR (ff g 1 oM oM));refine lL e ac (aK (lL e ac (af (aa e aF (ba ?_)))));refine bS _ (CG.loop (fun μ_ Γ w_=>∃ (z:Nat)(F:List Nat)(c2:Nat)(C:Hp),μ_=y.length-z/\Γ=[(4,qS (sB M) ((x.length-y.length)+1) ((x.length-y.length)+1)),(5,sZ),(6,nV y.length),(7,nV (64-nb (y.getD (y.length-1) 0))),(8,qS V y.length vc),(9,qS (sB u) (x.length+1) (x.length+1)),(10,iV ((m:Int)-1)),(11,mV (g-1)),(149,nV y.length),(150,nV z),(19,mV c2)]/\SS w h w_ C [⟨M,33,(K).flatMap ag⟩,⟨u,33,(F).flatMap ag⟩] [] [fun C=>SlO 1 ag 0 C Uo zu,fun C=>SlO 1 ag 0 C V p,fun C=>SlO 1 ag 0 C V zv,fun C=>SlO 1 ag 0 C D y,fun C=>SlO 1 ag 0 C A x]/\z<=y.length/\F.length=x.length+1/\Wd F/\c2<=1/\ah 18446744073709551616 F+18446744073709551616^(m-1+z)*c2=ah 18446744073709551616 ((u1).set (m-1+p.length) I)+18446744073709551616^(m-1)*ah 18446744073709551616 (p.take z)/\Above F H (m-1+p.length+1)) _ ⟨0,(u1).set (m-1+p.length) I,0,zq,rfl,rfl,e.to _ _,GA _,zk,X,oM,(by simp[ah]),S⟩ ?_);rintro _ _ _ ⟨z,F,c2,zG,c5,rfl,e,hi2,hu2,hW2,hc2,bb,bf⟩;have b0:=hW2.get (m-1+z);have ds:=B.get z;refine aD ?_;cases zg:(decide ((z:Int)<(y.length:Int)))
  .
   have zo:=oF zg;refine lB 151 zg (af (cG (CG.exit ?_)))
   show CG _ _ _ _ _ _ _ _
   refine kQ (lL e eo (bA 177 (((m:Int)-1)+(y.length:Nat)) (m-1+p.length) ?_));refine lX 178 (sB u) (x.length+1) (x.length+1) 1 (m-1+p.length:Nat) (m-1+p.length) rfl (lQ 179 1 F ag 1 0 (m-1+p.length) (mV ((F).getD (m-1+p.length) 0)) e oM (lL e ac (lV 181 (mV ((((F).getD (m-1+p.length) 0)+c2)%18446744073709551616)) ?_ (hr:=rU (((((F).getD (m-1+p.length) 0:Nat):Int)+(c2:Int))) kR (ti ((F).getD (m-1+p.length) 0) c2)))));refine lX 182 (sB u) (x.length+1) (x.length+1) 1 (m-1+p.length:Nat) (m-1+p.length) rfl (lW 1 F ag 1 (m-1+p.length) ((((F).getD (m-1+p.length) 0)+c2)%18446744073709551616:Nat) e oM (fun _ e=>?_));have zx:((F).set (m-1+p.length) ((((F).getD (m-1+p.length) 0)+c2)%18446744073709551616:Nat)).length=(x.length+1):=by rw[Gq];exact hu2
   replace e:=e.to [⟨M,33,(K).flatMap ag⟩,⟨u,33,((F).set (m-1+p.length) ((((F).getD (m-1+p.length) 0)+c2)%18446744073709551616:Nat)).flatMap ag⟩] [];refine lN (kQ ?_);have b4:z=p.length:=by omega
   rw[b4] at bb
   have b0:=hW2.get (m-1+p.length);have hE3:=Cm (s:=(F.getD (m-1+p.length) 0+c2)%18446744073709551616) (c':=(F.getD (m-1+p.length) 0+c2)/18446744073709551616) oM bb (Gp _ _);have hDw:Wd ((F).set (m-1+p.length) ((((F).getD (m-1+p.length) 0)+c2)%18446744073709551616:Nat)):=hW2.set _ (yM _ kD);obtain ⟨hDu,hDe,hDp⟩:=Ch W rfl B J X hDw hjn O hR1 hG S (bf.set oM oM) hE1 hE3;have hDg:g-1<18446744073709551616:=by omega
   refine lL e eo (lX 186 (sB M) ((x.length-y.length)+1) ((x.length-y.length)+1) 1 ((m:Int)-1) (m-1) rfl ?_);refine lW 0 K ag 1 (m-1) (g-1) e oM (fun _ e=>?_);have zA:((K).set (m-1) (g-1)).length=((x.length-y.length)+1):=by rw[Gq];exact hql
   replace e:=e.to [⟨M,33,((K).set (m-1) (g-1)).flatMap ag⟩,⟨u,33,((F).set (m-1+p.length) ((((F).getD (m-1+p.length) 0)+c2)%18446744073709551616:Nat)).flatMap ag⟩] [];refine lN (kQ (lL e ac (lV 56 (iV (((m-1:Nat):Int)-1)) ?_ (hr:=rS ((((m:Int)-1)-1)) kR ((fD oM oM).trans oM)))));refine lL e ac (lD ?_);intro a_ ka;refine ⟨_,_,?_,⟨m-1,(F).set (m-1+p.length) ((((F).getD (m-1+p.length) 0)+c2)%18446744073709551616:Nat),(K).set (m-1) (g-1),zG,rfl,rfl,e.to _ _,oM,zx,hDw,zA,(hWq.set _ hDg),hDu,(tM oM (hq0 _ oM) inv hDe),(fun k hk=>by rw[bv oM,if_neg oM];exact hq0 k oM)⟩,ka.to _ kR⟩
   omega
  have zo:=oT zg;refine lB 151 zg (af (bY (cK (cQ (kZ (aa e aF (lN (cR 19 [] mixed e am ?_))))))));refine eV 0 154 (qS (sB u) (x.length+1) (x.length+1)) (eV 1 155 (iV ((m:Int)-1)) (eV 2 156 (nV z) (km 3 157 (((m:Int)-1)+(z:Nat)) (m-1+z) (eV 4 158 (qS (sB u) (x.length+1) (x.length+1)) (eV 5 159 (iV ((m:Int)-1)) (eV 6 160 (nV z) (km 7 161 (((m:Int)-1)+(z:Nat)) (m-1+z) (eX 8 162 (sB u) (x.length+1) (x.length+1) 1 (m-1+z:Nat) (m-1+z) rfl (eQ 9 163 1 F ag 1 0 (m-1+z) (mV ((F).getD (m-1+z) 0)) e oM (eV 10 164 (qS V y.length vc) (eV 11 165 (nV z) (eX 12 166 V y.length vc 1 (z:Nat) z ((e.f.2.1).ok oM) (eH 13 167 (mV (p.getD z 0)) e ((e.f.2.1).el z oM) (eV 14 168 (mV c2) ?_))))))))))))));obtain ⟨Q,zj,cx,dc,c9,bt⟩:=dv ((F).getD (m-1+z) 0) (p.getD z 0) c2 wM wM oM;refine eV 15 169 (.tuple #[mV Q,mV zj]) ?_ (hv:=fun _=>dd kR (bt _));refine eV 16 153 (.tuple #[mV Q,mV zj]) (eV 17 170 (mV Q) (eV 18 171 (mV zj) (bW e (fun _ zH e=>tX 19 172 (sB u) (x.length+1) (x.length+1) 1 (m-1+z:Nat) (m-1+z) rfl (tW 20 1 F ag 1 (m-1+z) Q e oM (fun _ e=>?_))))));have zB:((F).set (m-1+z) Q).length=(x.length+1):=by rw[Gq];exact hu2
  replace e:=e.to [⟨M,33,(K).flatMap ag⟩,⟨u,33,((F).set (m-1+z) Q).flatMap ag⟩] [];refine tV 21 19 (mV zj) (tN (kQ (bA 173 ((z:Nat)+1) (z+1) ?_)));refine lL e ac (lD ?_);intro a_ ka;refine ⟨_,_,?_,⟨z+1,(F).set (m-1+z) Q,zj,zH,rfl,rfl,e.to _ _,oM,zB,(hW2.set _ oM),oM,(vy oM bb oM),(bf.set oM oM)⟩,ka.to _ kR⟩
  omega
 have zm:=oT ze;refine lB 90 ze (af (bY (cK (cQ (kZ (aa e aF (aK (lL e eo (lX 96 V y.length vc 1 (i:Nat) i ((e.f.2.1).ok oM) ?_)))))))));refine lH 97 (mV (p.getD i 0)) e ((e.f.2.1).el i oM) (lC 98 e (l9 g (p.getD i 0) wM wM _ _ e.g) ?_);rintro _ _ zI e ⟨U,zs,rfl,fn,c6,dn,d0⟩;have b6:=ij (a:=g) (b:=(p.getD i 0)) wM wM;refine lL e [.c,.v (mV U),.v (mV zs),.c,.c] (aK (lL e aF ?_));obtain ⟨s99,zb,b7,ch,cb,bl⟩:=dv zs cy 0 wM wM oM;refine lV 104 (.tuple #[mV s99,mV zb]) ?_ (hr:=dd kR (bl _));refine lL e [.c,.v (mV s99),.v (mV zb),.c,.c] (aK (lL e aF (lV 109 (mV (U+zb)) ?_ (hr:=rU (((U:Int)+(zb:Int))) kR (gF U zb oM)))));refine lL e ac (lN (kQ (lL e eo (bA 114 (((m:Int)-1)+(i:Nat)) (m-1+i) ?_))));refine lL e eo (bA 118 (((m:Int)-1)+(i:Nat)) (m-1+i) ?_);refine lX 119 (sB u) (x.length+1) (x.length+1) 1 (m-1+i:Nat) (m-1+i) rfl (lQ 120 1 u1 ag 1 0 (m-1+i) (mV ((u1).getD (m-1+i) 0)) e oM (lL e aF ?_));obtain ⟨L,zi,cf,cd,b9,bm⟩:=gR ((u1).getD (m-1+i) 0) s99 bo wM wM oM;refine lV 123 (.tuple #[mV L,mV zi]) ?_ (hr:=dd kR (bm _));refine lL e [.c,.v (mV L),.v (mV zi)] (lX 126 (sB u) (x.length+1) (x.length+1) 1 (m-1+i:Nat) (m-1+i) rfl ?_);refine lW 1 u1 ag 1 (m-1+i) L e oM (fun _ e=>?_);have zp:((u1).set (m-1+i) L).length=(x.length+1):=by rw[Gq];exact hu1
 replace e:=e.to [⟨M,33,(K).flatMap ag⟩,⟨u,33,((u1).set (m-1+i) L).flatMap ag⟩] [];refine lL e ac (lN (bS [(4,qS (sB M) ((x.length-y.length)+1) ((x.length-y.length)+1)),(5,sZ),(6,nV y.length),(7,nV (64-nb (y.getD (y.length-1) 0))),(8,qS V y.length vc),(9,qS (sB u) (x.length+1) (x.length+1)),(10,iV ((m:Int)-1)),(11,mV g),(88,nV y.length),(89,nV i),(12,mV (U+zb)),(13,mV zi)] ?_));refine kQ (bA 127 ((i:Nat)+1) (i+1) ?_);refine lL e ac (lD ?_);intro a_ ka;refine ⟨_,_,?_,⟨i+1,(u1).set (m-1+i) L,(U+zb),zi,zI,rfl,rfl,e.to _ _,oM,zp,(hW1.set _ oM),oM,oM,(vO (t:=s99) oM Y oM oM),(bk.set oM oM)⟩,ka.to _ kR⟩
 omega
theorem co (A:Z9)(c:Nat)(l:List Nat)(m x:Nat)(a:l.length=m)(d:Wd l)(hv:ax l=x)(b:l.length<=1099511627776)(f:l.length<=c)(w:World)(h:Hp)(g:G w h)(e:SlO 1 ag 0 h A l):CV 76 #[.slice A m c] w h (nv x):=by
 subst a hv;exact xY A c l d b f w h g e
theorem DQ (a b:Nat)(K:(wds a).length<=1000000000)(H:(wds b).length<=1000000000)(p:a<18446744073709551616)(u:b<18446744073709551616)(w:World)(h:Hp)(g:G w h):CV 79 #[nv a,nv b] w h (nv (a+b)):=by
 have e:=sS g;have I:=yL p;have M:=yL u;refine go Tryz.func79 [(0,nv a),(1,nv b)] rfl (aD (lA 2 35 (nc a) e (fun B w2 O e=>lA 3 35 (nc b) e (fun D W V e=>lA 4 35 ([uV 0,eS]) e (fun Q S U e=>af (aa e [.v (qP B 1),.o (.string (hi a)) 2 1 1] (lV 14 qT ?_ (hr:=rb kR (ip (dB p))))))))));refine lL e [.c,.v (qP D 1),.o (.string (hi b)) 1 1 1] (lV 18 qT ?_ (hr:=rb kR (ip (dB u))));refine lL e [.v qT] (ar (aa e [.v (pB B),.o (mV (a%18446744073709551616)) 2 0 1,.v (pB D),.o (mV (b%18446744073709551616)) 1 0 1] ?_));obtain ⟨i,j,C,F,z,x⟩:=dv (a%18446744073709551616) (b%18446744073709551616) 0 wM wM oM;refine lV 25 (.tuple #[mV i,mV j]) ?_ (hr:=dd kR (x _));refine lL e [.c,.v (mV i),.v (mV j),.c,.c] (af (aa e ac ?_));cases y:((j:Int) == (0:Int))
 .
  have J:=aq y;refine lB 29 y (aj (cK (aa e aF (lR 34 33 2 ([mV i,mV j]) e (fun L _ _ e=>?_)))));replace e:=e.aS (SlO.of_flat (sz:=1) (f:=ag) (d:=0) (l:=[i,j]) (fun _=>rfl) e.f.1);exact ao 35 e (co (sB L) 2 ([i,j]) 2 ((a+b)) (by first|rfl|assumption|(simp;done)|(simp;omega)|omega) (Dg.cons oM (Dg.one oM)) (by show i+18446744073709551616*(j+18446744073709551616*0)=a+b;omega) sM sM _ _ e.g e.f.1) (fun _ _ e=>lP 0 0 (nc (a+b)) e (fun _ e=>ae e [(0,0,2)] (nv (a+b)) rfl))
 have J:=eq_of_beq y;exact lB 29 y (ar (aa e [.c,.v (.agg #[mV i,eS])] (lP 0 0 ([mV i,eS]) e (fun _ e=>ae e [(0,0,2)] (.agg #[mV i,eS]) (by rw[show i=a+b by omega];exact gJ oM)))))
theorem Dn (a b:Nat)(hla:(wds a).length<=1000000000)(hlb:(wds b).length<=1000000000)(has:18446744073709551616<=a)(hb0:0<b)(hle:(wds b).length<=(wds a).length)(w:World)(h:Hp)(g:G w h):CV 79 #[nv a,nv b] w h (nv (a+b)):=by
 have e:=sS g;refine go Tryz.func79 [(0,nv a),(1,nv b)] rfl (aD (lA 2 35 (nc a) e (fun C w2 h3 e=>lA 3 35 (nc b) e (fun F w5 h6 e=>lA 4 35 ([uV 0,eS]) e (fun D w8 h9 e=>af (aa e [.v (qP C 1),.o (.string (hi a)) 2 1 1] (lV 14 qF ?_ (hr:=rb kR (gn (dS has))))))))));refine lL e ac (lG 16 ?_);refine lG 17 (lG 18 (lL e [.v qF] (aj (cK (cQ ?_)))));obtain ⟨K,hK_⟩:∃ K,K=w8.heap.size:=⟨_,rfl⟩;have bb:D<K:=by rw[hK_];exact dR e 0
 have H:F<K:=by rw[hK_];exact dR e 1
 have I:C<K:=by rw[hK_];exact dR e 2
 refine vk ⟨[],some (K,[])⟩ 0 mixed ?_;have bq:=e.g.size;replace e:=e.drew;have B:=Nat.le_of_eq hK_;refine zO 0 36 [(2,0,2)] (nv a) rfl B e (fun p hp=>by obtain rfl:=ul.1 hp;exact I) (zO 2 38 [(1,0,2)] (nv b) rfl B e (fun p hp=>by obtain rfl:=ul.1 hp;exact H) (oY 1 37 (ej a oM oM _ _ e.g) rfl B ?_));rintro _ _ _ u12 B ⟨j,rfl,U,X,b2⟩;obtain ⟨_,e,-,-⟩:=e.take u12 U X;replace e:=e.to [⟨j,33,(wds a).flatMap ag⟩,⟨D,35,[uV 0,eS]⟩,⟨F,35,nc b⟩,⟨C,35,nc a⟩] [];refine oY 3 39 (ej b oM oM _ _ e.g) rfl B ?_;rintro _ _ _ u16 B ⟨u,rfl,S,O,bn⟩;obtain ⟨zn,e,-,-⟩:=e.take u16 S O;replace e:=e.to [⟨u,33,(wds b).flatMap ag⟩,⟨j,33,(wds a).flatMap ag⟩,⟨D,35,[uV 0,eS]⟩,⟨F,35,nc b⟩,⟨C,35,nc a⟩] [];refine zV 4 7 (qS (sB j) ((wds a).length) ((wds a).length)) (zV 5 8 (qS (sB u) ((wds b).length) ((wds b).length)) (tN (cQ (aa e [.c,.v (nV ((wds a).length)),.c,.v (nV ((wds b).length))] ?_))));have ⟨zk,bf⟩:=dF (p:=(((wds a).length:Nat):Int)<(((wds b).length:Nat):Int)) oM;refine lB 44 zk (aj (cK (aa e ac (af (aa e [.c,.v (nV ((wds a).length)),.c] (ba ?_))))));refine bS _ (CG.loop (fun μ_ Γ w_=>∃ (i:Nat)(l:List Nat)(x:Nat)(h_:Hp),μ_=(wds a).length-i/\Γ=[(4,pB D),(7,qS (sB j) ((wds a).length) ((wds a).length)),(8,qS (sB u) ((wds b).length) ((wds b).length)),(48,nV ((wds a).length)),(49,nV i),(9,mV x)]/\SS w h w_ h_ [⟨u,33,(wds b).flatMap ag⟩,⟨j,33,(l).flatMap ag⟩,⟨D,35,[uV 0,eS]⟩,⟨F,35,nc b⟩,⟨C,35,nc a⟩] [] []/\i<=(wds a).length/\l.length=(wds a).length/\Wd l/\x<=1/\ah 18446744073709551616 l+18446744073709551616^i*x=a+ah 18446744073709551616 ((wds b:List Nat).take i)) _ ⟨0,wds a,0,zn,rfl,rfl,e.to _ _,GA _,rfl,Wd.wds _,oM,(by have hx_:ah 18446744073709551616 (wds a)=a:=aI _;rw[hx_];simp[ah])⟩ ?_);rintro _ _ _ ⟨i,l,x,zj,bl,rfl,e,hi,V,Q,hcy,inv⟩;have hlk:=Q.get i;have hyk:=(Wd.wds b).get i;refine aD ?_;cases za:(decide ((i:Int)<(((wds a).length:Nat):Int)))
 .
  have zf:=oF za;refine lB 50 za (af (cG (CG.exit ?_)))
  show CG _ _ _ _ _ _ _ _
  refine cQ (aD ?_);have J:=inv;rw[Ft (show (wds b).length<=i by first|omega|(simp;done)|(simp;omega))] at J
  rw[show i=l.length by omega] at J
  have hE_:ah 18446744073709551616 (wds b)=b:=aI _;replace J:ah 18446744073709551616 l+18446744073709551616^l.length*x=(a+b):=by rw[J,hE_];first|done|omega
  refine lL e ac ?_;cases Z:((x:Int) != (0:Int))
  .
   have zg:=aJ Z;refine lB 75 Z (aj (cK (aD ?_)));obtain ⟨_,e,L,bt,bm⟩:=e.pub 1;replace e:=(e.to [⟨u,33,(wds b).flatMap ag⟩,⟨D,35,[uV 0,eS]⟩,⟨F,35,nc b⟩,⟨C,35,nc a⟩] []).aS (SlO.of_flat (sz:=1) (f:=ag) (d:=0) (b:=j) (o:=0) (l:=l) (fun _=>rfl) L);exact lL e ac (ao 81 e (co (sB j) ((wds a).length) (l) ((wds a).length) ((a+b)) (by first|rfl|assumption|(simp;done)|(simp;omega)|omega) (Q) (by rw[show x=0 by omega,Ah,yt] at J;exact J) sM sM _ _ e.g e.f.1) (fun _ _ e=>lP 1 0 (nc (a+b)) e (fun _ e=>ae e [(1,0,2)] (nv (a+b)) rfl)))
  have zg:=aU Z;refine lB 75 Z (ar (kQ (lL e aF (lR 78 33 1 ([mV x]) e (fun zo _ _ e=>EJ 79 1 ((wds a).length) zo l ag 0 x 8 (uV 0) e e.f.1 oM oM (fun zp zq _ _ e bd=>?_))))));replace e:=e.to [⟨u,33,(wds b).flatMap ag⟩,⟨D,35,[uV 0,eS]⟩,⟨F,35,nc b⟩,⟨C,35,nc a⟩] [];exact lL e ac (aK (lL e ac (ao 81 e (co zp zq (l++[x]) ((wds a).length+1) ((a+b)) (by first|rfl|assumption|(simp;done)|(simp;omega)|omega) (Dg.append Q (Dg.one oM)) (by show ah _ (l++[x])=_;rw[dj];show _+_*(x+_*0)=_;rw[Ah,yt];exact J) sM sM _ _ e.g e.f.1) (fun _ _ e=>lP 1 0 (nc (a+b)) e (fun _ e=>ae e [(1,0,2)] (nv (a+b)) rfl)))))
 have zf:=oT za;refine lB 50 za (af (bY (cK (cQ (kZ (aa e aF (aK (lL e ac (af (aa e [.c,.c,.v (nV ((wds b).length))] ?_))))))))));cases Y:(decide ((i:Int)<(((wds b).length:Nat):Int)))
 .
  have zi:=oF Y;refine lB 55 Y (aj (cK (kQ (lL e m9 (lX 65 (sB j) ((wds a).length) ((wds a).length) 1 (i:Nat) i rfl ?_)))));refine lQ 66 1 l ag 1 0 i (mV ((l).getD i 0)) e oM (lL e aF ?_);obtain ⟨y,zd,bx,bz,bk,W⟩:=dv ((l).getD i 0) 0 x wM wM oM;refine lV 69 (.tuple #[mV y,mV zd]) ?_ (hr:=dd kR (W _));refine lL e [.c,.v (mV y),.v (mV zd)] (lX 72 (sB j) ((wds a).length) ((wds a).length) 1 (i:Nat) i rfl ?_);refine lW 1 l ag 1 i y e oM (fun _ e=>?_);have zl:((l).set i y).length=(wds a).length:=by rw[Gq];exact V
  replace e:=e.to [⟨u,33,(wds b).flatMap ag⟩,⟨j,33,((l).set i y).flatMap ag⟩,⟨D,35,[uV 0,eS]⟩,⟨F,35,nc b⟩,⟨C,35,nc a⟩] [];refine lL e ac (lN (kQ (bA 73 ((i:Nat)+1) (i+1) ?_)));refine lL e ac (lD ?_);intro a_ ka;refine ⟨_,_,?_,⟨i+1,(l).set i y,zd,zj,rfl,rfl,e.to _ _,oM,zl,(Q.set _ oM),oM,(fi oM inv (by first|omega|(have hy0:=bP (l:=(wds b:List Nat)) (k:=i) (by first|omega|(simp;done));omega)))⟩,ka.to _ kR⟩
  omega
 have zi:=oT Y;refine lB 55 Y (ar (kQ (lL e aF (lX 58 (sB u) ((wds b).length) ((wds b).length) 1 (i:Nat) i rfl ?_))));refine lQ 59 0 (wds b) ag 1 0 i (mV ((wds b).getD i 0)) e oM (lL e ac (lN (kQ (lL e m9 (lX 65 (sB j) ((wds a).length) ((wds a).length) 1 (i:Nat) i rfl ?_)))));refine lQ 66 1 l ag 1 0 i (mV ((l).getD i 0)) e oM (lL e aF ?_);obtain ⟨z,ze,b0,b5,b3,M⟩:=dv ((l).getD i 0) ((wds b).getD i 0) x wM wM oM;refine lV 69 (.tuple #[mV z,mV ze]) ?_ (hr:=dd kR (M _));refine lL e [.c,.v (mV z),.v (mV ze)] (lX 72 (sB j) ((wds a).length) ((wds a).length) 1 (i:Nat) i rfl ?_);refine lW 1 l ag 1 i z e oM (fun _ e=>?_);have zm:((l).set i z).length=(wds a).length:=by rw[Gq];exact V
 replace e:=e.to [⟨u,33,(wds b).flatMap ag⟩,⟨j,33,((l).set i z).flatMap ag⟩,⟨D,35,[uV 0,eS]⟩,⟨F,35,nc b⟩,⟨C,35,nc a⟩] [];refine lL e ac (lN (kQ (bA 73 ((i:Nat)+1) (i+1) ?_)));refine lL e ac (lD ?_);intro a_ ka;refine ⟨_,_,?_,⟨i+1,(l).set i z,ze,zj,rfl,rfl,e.to _ _,oM,zm,(Q.set _ oM),oM,(fi oM inv (by first|omega|(have hy0:=bP (l:=(wds b:List Nat)) (k:=i) (by first|omega|(simp;done));omega)))⟩,ka.to _ kR⟩
 omega
end Go.Proofs.YtmdaaeffcfheoaaGreatDoor
