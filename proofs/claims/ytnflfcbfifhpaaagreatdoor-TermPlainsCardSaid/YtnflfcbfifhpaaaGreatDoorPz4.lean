/- Laws and contracts that the card of this claim stands on, part 5. No condition of ours. -/
import Derived.Test.YtnflfcbfifhpaaaGreatDoorPz0
import Derived.Test.YtnflfcbfifhpaaaGreatDoorPz1
import Derived.Test.YtnflfcbfifhpaaaGreatDoorPz2
import Derived.Test.YtnflfcbfifhpaaaGreatDoorPz3
set_option maxRecDepth 100000
set_option maxHeartbeats 4000000
open Array renaming getElem?_eq_some_iff → hS, getElem?_push_size → fo, getElem?_setIfInBounds_ne → i0, getElem?_setIfInBounds_self_of_lt → DS
open Bool renaming and_eq_true → i1, noConfusion → Mj, or_eq_true → ov
open Go.Region renaming binds → g1, noSelect_spec → hO, ready → ga
open Go.Result renaming andThen → A6
open Go.Value renaming bool → Mg, int → Lp, slice → Dx
open Int renaming mul_nonneg → Mw, sign_eq_neg_one_of_neg → LC, sign_eq_one_of_pos → LD, sign_eq_zero_iff_zero → Mi
open List renaming all_eq_true → i4, contains_eq_mem → Mv, eq_nil_of_length_eq_zero → z1, getD_eq_getElem?_getD → Kl, getElem_mem → gs, length_append → zY, length_cons → un, length_eq_one_iff → Mt, length_nil → Mq, length_singleton → Mf, toArray → Lu
open Nat renaming le_add_right → Mh, le_mul_of_pos_left → Ls, le_mul_of_pos_right → Mn, le_refl → ey, le_total → Ln, le_trans → ez, lt_succ_iff_lt_or_eq → Mm, min_eq_left → J5, min_eq_right → Kw, mul_comm → JZ, mul_le_mul → KM, mul_le_mul_left → Ke, mul_le_mul_right → z7, mul_left_comm → Mp, not_lt_zero → Mk, succ_ne_zero → Mr, succ_pos → K9, zero_add → z6, zero_le → K7
open Option renaming mem_toList → Mu
open Rat renaming num_eq_zero → Ma
namespace Go.Proofs.YtnflfcbfifhpaaaGreatDoor
open Go.RowKit
open Go.RowKit Go.Shelf
def gC (op n:Int)(q a b:Rat):Rat:=if i5 op n a b then mB op n q a b else 0
theorem vM {α:Type}{l:List α}{i:Nat}{d:α}(h:i<l.length):l.getD i d∈l:=by
 rw[Kl,List.getElem?_eq_getElem h];exact gs h
theorem sP {α:Type}{l:List α}{i:Nat}{d:α}(h:l.length≤i):l.getD i d=d:=by
 rw[Kl,List.getElem?_eq_none h];rfl
def GW (s:ByteArray):List Value:=[.string s]
inductive Tm where
  | mk (op n:Int) (q:Rat) (s:ByteArray) (ks:List Tm)
def Tm.op:Tm→Int|.mk op _ _ _ _=>op
def Tm.n:Tm→Int|.mk _ n _ _ _=>n
def Tm.q:Tm→Rat|.mk _ _ q _ _=>q
def Tm.s:Tm→ByteArray|.mk _ _ _ s _=>s
def Tm.ks:Tm→List Tm|.mk _ _ _ _ ks=>ks
def bv:Tm:=.mk 0 0 0 ⟨#[]⟩ []
structure PTm where
  op:Int
  n:Int
  q:Rat
  s:ByteArray
  A:Option Addr
  m:Nat
  c:Nat
abbrev pX (p:PTm):Value:=.agg #[iV p.op,iV p.n,.bool (ai p.q.num),uV (lo (ab p.q.num)),.string (hi (ab p.q.num)),uV (lo (qd p.q)),.string (hi (qd p.q)),.string p.s,.slice p.A p.m p.c]
abbrev pC (p:PTm):List Value:=[iV p.op,iV p.n,.bool (ai p.q.num),uV (lo (ab p.q.num)),.string (hi (ab p.q.num)),uV (lo (qd p.q)),.string (hi (qd p.q)),.string p.s,.slice p.A p.m p.c]
abbrev pW (o n:Int)(q:Rat)(s:ByteArray)(A:Option Addr)(m c:Nat):Value:=.agg #[iV o,iV n,.bool (ai q.num),uV (lo (ab q.num)),.string (hi (ab q.num)),uV (lo (qd q)),.string (hi (qd q)),.string s,.slice A m c]
abbrev pG (o n:Int)(q:Rat)(s:ByteArray)(A:Option Addr)(m c:Nat):List Value:=[iV o,iV n,.bool (ai q.num),uV (lo (ab q.num)),.string (hi (ab q.num)),uV (lo (qd q)),.string (hi (qd q)),.string s,.slice A m c]
def au:PTm:=⟨0,0,0,⟨#[]⟩,none,0,0⟩
def bg (p:PTm):List Value:=[.int .i64 p.op,.int .i64 p.n,.bool (ai p.q.num),.int .u64 (lo (ab p.q.num)),.string (hi (ab p.q.num)),.int .u64 (lo (qd p.q)),.string (hi (qd p.q)),.string p.s,.slice p.A p.m p.c]
def az (p:PTm):Value:=.agg #[.int .i64 p.op,.int .i64 p.n,.bool (ai p.q.num),.int .u64 (lo (ab p.q.num)),.string (hi (ab p.q.num)),.int .u64 (lo (qd p.q)),.string (hi (qd p.q)),.string p.s,.slice p.A p.m p.c]
def TmH:Nat→Hp→PTm→Tm→Prop
  | 0,_,_,_=>False
  | d+1,h,p,t=>p.op=t.op∧p.n=t.n∧p.q=t.q∧p.s=t.s∧p.m=t.ks.length∧p.m≤p.c∧∃ ps:List PTm,ps.length=t.ks.length∧SlO 9 bg au h p.A ps∧∀ i,i<t.ks.length→TmH d h (ps.getD i au) (t.ks.getD i bv)
theorem TmH.gw:∀ {d:Nat} {h h':Hp} {p:PTm} {t:Tm},TmH d h p t→Gw h h'→TmH d h' p t
 | 0,_,_,_,_,x,_=>x
 | d+1,_,_,_,_,⟨h1,h2,h3,h4,h5,h6,ps,h7,h8,h9⟩,u=>⟨h1,h2,h3,h4,h5,h6,ps,h7,h8.gw u,fun i hi=>TmH.gw (h9 i hi) u⟩
theorem TmH.mono {h:Hp}:∀ {d e:Nat} {p:PTm} {t:Tm},TmH d h p t→d≤e→TmH e h p t
 | d+1,e+1,_,_,⟨h1,h2,h3,h4,h5,h6,ps,h7,h8,h9⟩,u=>⟨h1,h2,h3,h4,h5,h6,ps,h7,h8,fun i hi=>TmH.mono (h9 i hi) oM⟩
structure RTm where
  op:Int
  n:Int
  neg:Bool
  zA:Option Addr
  zn:Nat
  zc:Nat
  dA:Option Addr
  dn:Nat
  dc:Nat
  s:ByteArray
  A:Option Addr
  m:Nat
  c:Nat
def RTm.t (r:RTm):RT:=(r.neg,.slice r.zA r.zn r.zc,.slice r.dA r.dn r.dc)
def aN:RTm:=⟨0,0,false,none,0,0,none,0,0,⟨#[]⟩,none,0,0⟩
def bU (r:RTm):List Value:=[.int .i64 r.op,.int .i64 r.n,.bool r.neg,.slice r.zA r.zn r.zc,.slice r.dA r.dn r.dc,.string r.s,.slice r.A r.m r.c]
def bE (r:RTm):Value:=.agg #[.int .i64 r.op,.int .i64 r.n,.bool r.neg,.slice r.zA r.zn r.zc,.slice r.dA r.dn r.dc,.string r.s,.slice r.A r.m r.c]
def RZ (h:Hp)(t:RT)(q:Rat):Prop:=∃ has:Bool,RP h (GA t) q.num (if has then q.den else 0)∧(has=false→q=0)
theorem RZ.gw {h h':Hp}{t:RT}{q:Rat}(x:RZ h t q)(u:Gw h h'):RZ h' t q:=by
 obtain ⟨b,h1,a⟩:=x;exact ⟨b,h1.gw u,a⟩
def RmH:Nat→Hp→RTm→Tm→Prop
  | 0,_,_,_=>False
  | d+1,h,r,t=>r.op=t.op∧r.n=t.n∧RZ h r.t t.q∧r.s=t.s∧r.m=t.ks.length∧r.m≤r.c∧∃ rs:List RTm,rs.length=t.ks.length∧SlO 7 bU aN h r.A rs∧∀ i,i<t.ks.length→RmH d h (rs.getD i aN) (t.ks.getD i bv)
theorem Ey {h:Hp}{b:Bool}{u i:Option Addr}{l j f k:Nat}{q:Rat}(x:RZ h (b,.slice u l j,.slice i f k) q)(p:0<f):RP h (.agg #[.bool b,.slice u l j,.slice i f k]) q.num q.den:=by
 obtain ⟨y,h1,z⟩:=x;cases y
 ·obtain ⟨A,c,D,d,e,C,H,F,B⟩:=h1
  injection e with e
  have o:=congrArg (fun a:Array Value=>a.toList) e
  simp at o
  have:f=(lim 0).length:=o.2.2.2.1;have h0:(lim 0).length=0:=by have:=@bV 0;omega
  omega
 ·exact h1
theorem HO {h:Hp}{b:Bool}{u i:Option Addr}{l j k:Nat}{q:Rat}(x:RZ h (b,.slice u l j,.slice i 0 k) q):q=0:=by
 obtain ⟨p,h1,o⟩:=x;cases p
 ·exact o rfl
 ·obtain ⟨A,c,D,d,e,C,H,F,y⟩:=h1
  injection e with e
  have f:=congrArg (fun a:Array Value=>a.toList) e
  simp at f
  have B:0=(lim q.den).length:=f.2.2.2.1;have z:=(@bV q.den).2 q.den_pos
  omega
theorem RmH.gw:∀ {d:Nat} {h h':Hp} {r:RTm} {t:Tm},RmH d h r t→Gw h h'→RmH d h' r t
 | 0,_,_,_,_,x,_=>x
 | d+1,_,_,_,_,⟨h1,h2,h3,h4,h5,h6,ps,h7,h8,h9⟩,u=>⟨h1,h2,h3.gw u,h4,h5,h6,ps,h7,h8.gw u,fun i hi=>RmH.gw (h9 i hi) u⟩
structure Tms (d:Nat) (h:Hp) (ps:List PTm) (ts:List Tm):Prop where
  len:ps.length=ts.length
  at_:∀ i,i<ts.length→TmH d h (ps.getD i au) (ts.getD i bv)
theorem Tms.gw {d:Nat}{h h':Hp}{ps:List PTm}{a:List Tm}(x:Tms d h ps a)(u:Gw h h'):Tms d h' ps a:=⟨x.len,fun i hi=>(x.at_ i hi).gw u⟩
structure Rms (d:Nat) (h:Hp) (rs:List RTm) (ts:List Tm):Prop where
  len:rs.length=ts.length
  at_:∀ i,i<ts.length→RmH d h (rs.getD i aN) (ts.getD i bv)
theorem Rms.gw {d:Nat}{h h':Hp}{a:List RTm}{b:List Tm}(x:Rms d h a b)(u:Gw h h'):Rms d h' a b:=⟨x.len,fun i hi=>(x.at_ i hi).gw u⟩
theorem Rms.nil {d:Nat}{h:Hp}:Rms d h [] []:=⟨rfl,fun i hi=>by simp at hi⟩
theorem Rms.snoc {d:Nat}{h:Hp}{b:List RTm}{a:List Tm}{r:RTm}{t:Tm}(x:Rms d h b a)(y:RmH d h r t):Rms d h (b++[r]) (a++[t]):=by
 refine ⟨by simp[x.len],fun i hi=>?_⟩;rw[zY,Mf] at hi
 rw[cO,cO,x.len]
 by_cases e:i<a.length
 ·rw[MN e,MN e];exact x.at_ i e
 ·rw[MM e,MM e,MN oM,MN oM];exact y
theorem Tms.nil {d:Nat}{h:Hp}:Tms d h [] []:=⟨rfl,fun i hi=>by simp at hi⟩
theorem Tms.snoc {d:Nat}{h:Hp}{b:List PTm}{a:List Tm}{r:PTm}{t:Tm}(x:Tms d h b a)(y:TmH d h r t):Tms d h (b++[r]) (a++[t]):=by
 refine ⟨by simp[x.len],fun i hi=>?_⟩;rw[zY,Mf] at hi
 rw[cO,cO,x.len]
 by_cases e:i<a.length
 ·rw[MN e,MN e];exact x.at_ i e
 ·rw[MM e,MM e,MN oM,MN oM];exact y
theorem TmH.mk {d:Nat}{h:Hp}{op n:Int}{q:Rat}{s:ByteArray}{A:Option Addr}{c:Nat}{ps:List PTm}{ks:List Tm}(x:Tms d h ps ks)(a:ps.length≤c)(b:SlO 9 bg au h A ps):TmH (d+1) h ⟨op,n,q,s,A,ps.length,c⟩ (.mk op n q s ks) :=
 ⟨rfl,rfl,rfl,rfl,x.len,a,ps,x.len,b,x.at_⟩
theorem RmH.mk {d:Nat}{h:Hp}{op n:Int}{b:Bool}{k a:Option Addr}{i e j f:Nat}{q:Rat}{s:ByteArray}{A:Option Addr}{c:Nat}{ps:List RTm}{ks:List Tm}(z:RZ h (b,.slice k i e,.slice a j f) q)(x:Rms d h ps ks)(l:ps.length≤c)(o:SlO 7 bU aN h A ps):RmH (d+1) h ⟨op,n,b,k,i,e,a,j,f,s,A,ps.length,c⟩ (.mk op n q s ks) :=
 ⟨rfl,rfl,z,rfl,x.len,l,ps,x.len,o,x.at_⟩
theorem TmH.open {d:Nat}{h:Hp}{p:PTm}{t:Tm}(x:TmH (d+1) h p t):∃ op n q s A c,∃ ps:List PTm,∃ ks:List Tm,p=⟨op,n,q,s,A,ps.length,c⟩∧t=.mk op n q s ks∧ps.length≤c∧SlO 9 bg au h A ps∧Tms d h ps ks:=by
  obtain ⟨op,n,q,s,A,m,c⟩:=p;cases t with
  | mk sl n2 q2 s2 ks =>
    obtain ⟨h1,f,j,i,e,b,ps,a,l,k⟩:=x;obtain rfl:op=sl:=h1;obtain rfl:n=n2:=f;obtain rfl:q=q2:=j;obtain rfl:s=s2:=i;obtain rfl:m=ps.length:=(show m=ks.length from e).trans a.symm;exact ⟨op,n,q,s,A,c,ps,ks,rfl,rfl,b,l,a,k⟩
theorem RmH.mono {h:Hp}{d e:Nat}{p:RTm}{t:Tm}(x:RmH d h p t)(u:d≤e):RmH e h p t:=by
  induction d generalizing e p t with
  | zero=>exact x.elim
  | succ d ih =>
    cases e with
    | zero=>omega
    | succ e =>
      obtain ⟨h1,c,k,f,b,a,ps,j,o,l⟩:=x;exact ⟨h1,c,k,f,b,a,ps,j,o,fun i hi=>ih (l i hi) oM⟩
theorem RmH.open {d:Nat}{h:Hp}{p:RTm}{t:Tm}(x:RmH (d+1) h p t):∃ op n b k i e a j f q s A c,∃ ps:List RTm,∃ ks:List Tm,p=⟨op,n,b,k,i,e,a,j,f,s,A,ps.length,c⟩∧t=.mk op n q s ks∧RZ h (b,.slice k i e,.slice a j f) q∧ps.length≤c∧SlO 7 bU aN h A ps∧Rms d h ps ks:=by
  obtain ⟨op,n,b,k,i,e,a,j,f,s,A,m,c⟩:=p;cases t with
  | mk sl n2 q2 s2 ks =>
    obtain ⟨h1,y,B,z,u,o,ps,l,D,C⟩:=x;obtain rfl:op=sl:=h1;obtain rfl:n=n2:=y;obtain rfl:s=s2:=z;obtain rfl:m=ps.length:=(show m=ks.length from u).trans l.symm;exact ⟨op,n,b,k,i,e,a,j,f,q2,s,A,c,ps,ks,rfl,rfl,B,o,D,l,C⟩
def fK (f:Nat→Nat):Nat→Nat
  | 0=>0
  | k+1=>fK f k+f k
def cd (n:Int):Nat:=if n.natAbs≤1 then 1 else n.natAbs
def bp:Nat→Tm→Nat
  | 0,_=>0
  | d+1,t=>if t.ks.length=0 then 1 else (if t.op=11 then 2 else if t.op=8 then cd t.n else 1)*fK (fun i=>bp d (t.ks.getD i bv)) t.ks.length
def WfT (ok:ByteArray→Prop):Nat→Tm→Prop
  | 0,_=>False
  | d+1,t=>d8 t.op=t.ks.length∧(t.op≠1→t.q=0)∧LQ 3000 t.q∧(t.op=2→ok t.s)∧(t.op≠2→t.s=⟨#[]⟩)∧(t.op≠8→t.n=0) ∧ -12≤t.n∧t.n≤12∧∀ i,i<t.ks.length→WfT ok d (t.ks.getD i bv)
theorem WfT.mono {ok:ByteArray→Prop}:∀ {d e:Nat} {t:Tm},WfT ok d t→d≤e→WfT ok e t
 | d+1,e+1,_,⟨h1,h2,h3,h4,h5,h6,h7,h8,h9⟩,u=>⟨h1,h2,h3,h4,h5,h6,h7,h8,fun i hi=>WfT.mono (h9 i hi) oM⟩
def iF (sm:ByteArray→Prop):Nat→Tm→Prop
  | 0,_=>False
  | d+1,t=>t.ks.length≤3∧(-1000≤t.op∧t.op≤1000)∧(-1000≤t.n∧t.n≤1000)∧LQ 3000 t.q∧sm t.s∧∀ i,i<t.ks.length→iF sm d (t.ks.getD i bv)
theorem WfT.sm {ok sm:ByteArray→Prop}(h:∀ s,ok s→sm s)(h0:sm ⟨#[]⟩):∀ {d:Nat} {t:Tm},WfT ok d t→iF sm d t
  | d+1,t,⟨h1,h2,h3,h4,h5,h6,h7,h8,h9⟩=>by
    have a:=aE t.op;refine ⟨by omega,⟨by omega,by omega⟩,⟨by omega,by omega⟩,h3,?_,fun i hi=>WfT.sm h h0 (h9 i hi)⟩
    by_cases e:t.op=2
    · exact h _ (h4 e)
    · rw[h5 e];exact h0
def WfT1 (ok:ByteArray→Prop):Nat→Tm→Prop
  | 0,_=>False
  | d+1,t=>d8 t.op=t.ks.length∧(t.op≠1→t.q=0)∧LQ 1 t.q∧(t.op=2→ok t.s)∧(t.op≠2→t.s=⟨#[]⟩)∧(t.op≠8→t.n=0) ∧ -12≤t.n∧t.n≤12∧∀ i,i<t.ks.length→WfT1 ok d (t.ks.getD i bv)
def SmT1 (sm:ByteArray→Prop):Nat→Tm→Prop
  | 0,_=>False
  | d+1,t=>t.ks.length≤3∧(-1000≤t.op∧t.op≤1000)∧(-1000≤t.n∧t.n≤1000)∧LQ 1 t.q∧sm t.s∧∀ i,i<t.ks.length→SmT1 sm d (t.ks.getD i bv)
theorem SmT1.mono {sm:ByteArray→Prop}:∀ {d e:Nat} {t:Tm},SmT1 sm d t→d≤e→SmT1 sm e t
 | d+1,e+1,_,⟨h1,h2,h3,h4,h5,h6⟩,u=>⟨h1,h2,h3,h4,h5,fun i hi=>SmT1.mono (h6 i hi) oM⟩
theorem SmT1.sm {sm:ByteArray→Prop}:∀ {d:Nat} {t:Tm},SmT1 sm d t→iF sm d t
 | _+1,_,⟨h1,h2,h3,h4,h5,h6⟩=>⟨h1,h2,h3,h4.mono kD,h5,fun i hi=>SmT1.sm (h6 i hi)⟩
theorem WfT1.sm {ok sm:ByteArray→Prop}(h:∀ s,ok s→sm s)(h0:sm ⟨#[]⟩):∀ {d:Nat} {t:Tm},WfT1 ok d t→SmT1 sm d t
  | d+1,t,⟨h1,h2,h3,h4,h5,h6,h7,h8,h9⟩=>by
    have a:=aE t.op;refine ⟨by omega,⟨by omega,by omega⟩,⟨by omega,by omega⟩,h3,?_,fun i hi=>WfT1.sm h h0 (h9 i hi)⟩
    by_cases e:t.op=2
    · exact h _ (h4 e)
    · rw[h5 e];exact h0
def I3 (isb:ByteArray→Bool)(op n:Int)(q:Rat)(s:ByteArray)(m:Nat):Prop:=d8 op=m∧(op=1∨q.num=0)∧((op=2→isb s=true)∧(op≠2→s=⟨#[]⟩))∧((op=8∨n=0) ∧ -12≤n∧n≤12)
section
variable {isb:ByteArray→Bool} {d:Nat} {op n:Int} {q:Rat} {s:ByteArray} {ks:List Tm}
theorem Cf (w:WfT (fun s=>isb s=true) (d+1) (.mk op n q s ks)):I3 isb op n q s ks.length:=by
 obtain ⟨h1,b,k,h,c,a,i,f,j⟩:=w;refine ⟨h1,?_,⟨h,c⟩,?_,i,f⟩
 ·by_cases e:op=1
  ·exact .inl e
  ·exact .inr (Ma.2 (b e))
 ·by_cases e:op=8
  ·exact .inl e
  ·exact .inr (a e)
theorem pg (h:¬I3 isb op n q s ks.length):∃ a,Mg false=.bool a∧(a=true↔WfT (fun s=>isb s=true) (d+1) (.mk op n q s ks)):=⟨false,rfl,fun b=>(by cases b),fun w=>MO (Cf w) h⟩
theorem C3 {k:Nat}(f:k<ks.length){c:Bool}(a:c=false)(h:c=true↔WfT (fun s=>isb s=true) d (ks.getD k bv)):∃ b,Mg false=.bool b∧(b=true↔WfT (fun s=>isb s=true) (d+1) (.mk op n q s ks)):=⟨false,rfl,fun i=>(by cases i),fun ⟨_,_,_,_,_,_,_,_,e⟩=>by rw[h.2 (e k f)] at a;cases a⟩
theorem C8 (h:I3 isb op n q s ks.length)(k:LQ 3000 q)(j:∀ i,i<ks.length→WfT (fun s=>isb s=true) d (ks.getD i bv)):∃ a,Mg true=.bool a∧(a=true↔WfT (fun s=>isb s=true) (d+1) (.mk op n q s ks)):=by
 obtain ⟨h1,c,⟨o,f⟩,b,p,l⟩:=h;refine ⟨true,rfl,fun _=>⟨h1,fun e=>Ma.1 (c.resolve_left e),k,o,f,fun e=>b.resolve_left e,p,l,j⟩,fun _=>rfl⟩
end
def F4 (nm:Int→ByteArray)(l:List Stp):Nat→Nat→Tm
  | 0,_=>bv
  | f+1,i =>
    if (l.getD i ew).op=2 then .mk 2 0 0 (nm (l.getD i ew).n) []
    else if d8 (l.getD i ew).op=1 then .mk (l.getD i ew).op (l.getD i ew).n 0 ⟨#[]⟩ [F4 nm l f (l.getD i ew).a.toNat]
    else if d8 (l.getD i ew).op=2 then .mk (l.getD i ew).op 0 0 ⟨#[]⟩ [F4 nm l f (l.getD i ew).a.toNat,F4 nm l f (l.getD i ew).b.toNat]
    else .mk (l.getD i ew).op 0 (l.getD i ew).q ⟨#[]⟩ []
structure MapJ (h0:Hp) (B:List Bx) (w:World) (h:Hp) (b:Nat) (es:List MapEntry) (clk:Nat):Prop where
  obj:w.heap[b]?=some (.map es.toArray clk)
  jk:h[b]?=some junk
  lo:h0.size≤b
  nb:∀ x∈B,x.b≠b
def MapS (h:Hp)(b:Nat)(es:List MapEntry):Prop:=∃ clk,h[b]?=some (.map es.toArray clk)
theorem MapS.gw {h h':Hp}{b:Nat}{a:List MapEntry}(x:MapS h b a)(u:Gw h h'):MapS h' b a:=by
 obtain ⟨c,e⟩:=x;refine ⟨c,?_⟩
 rcases u.blk b (a7 e) with k|k
 ·exact k.trans e
 ·rw[e] at k;cases k
theorem MapS.w {w:World}{h:Hp}{b:Nat}{d:List MapEntry}(x:MapS h b d)(g:G w h):∃ a,w.heap[b]?=some (.map d.toArray a):=by
 obtain ⟨c,e⟩:=x;refine ⟨c,?_⟩
 rcases g.blk b with k|k
 ·rw[←k];exact e
 ·rw[e] at k;cases k
theorem CF {P:Program}(w:World){c e i:TypeId}{b a:Nat}{d:Array MapEntry}{s:ByteArray}{val:Value}(l:P.underlying c=some (.map e i))(h:P.underlying e=some .string)(f:w.heap[b]?=some (.map d a))(hf:Instr.findNow .string (.string s) d.toList 0=some none) :
  (Instr.mapUpdate c (.map (some b)) (.string s) val).run P w=.ok () { w with heap:=w.heap.setIfInBounds b (.map (d.push { key:=.string s,val:=val,born:=a }) (a+1)) }:=by
 have j:(Instr.checkKey false 10000 e (.string s)).run P w=.ok () w:=MapKept.run_checkKey (k:=.string s) h (by simp[MapKept.IsKey]) false 9999
 simp[Instr.mapUpdate,run_underlying l,MapKept.run_getObj_map f,j,MapKept.run_findKey h hf,MapKept.run_setObj_map _ f,A6]
theorem ws {P:Program}(w:World){a d j:TypeId}{b e:Nat}{c:Array MapEntry}{s:ByteArray}(ok:Bool){v:Value}{found:Bool}(o:P.underlying a=some (.map d j))(f:P.underlying d=some .string)(h:w.heap[b]?=some (.map c e))
  (hf:(∃ i,Instr.findNow .string (.string s) c.toList 0=some (some (i,v))∧found=true)∨(Instr.findNow .string (.string s) c.toList 0=some none∧found=false∧(zeroValue j).run P w=.ok v w)) :
  (Instr.lookup a (.map (some b)) (.string s) ok).run P w=.ok (if ok then .tuple #[v,.bool found] else v) w:=by
 have l:(Instr.checkKey c.isEmpty 10000 d (.string s)).run P w=.ok () w:=MapKept.run_checkKey (k:=.string s) f (by simp[MapKept.IsKey]) _ 9999
 rcases hf with ⟨i,hf,rfl⟩|⟨hf,rfl,hz⟩
 ·simp[Instr.lookup,run_underlying o,MapKept.run_getObj_map h,l,MapKept.run_findKey f hf,A6]
 ·simp[Instr.lookup,run_underlying o,MapKept.run_getObj_map h,l,MapKept.run_findKey f hf,hz,A6]
theorem Bo {w:World}{b:Nat}{o o':Obj}(d:w.heap[b]?=some o):Put b w { w with heap:=w.heap.setIfInBounds b o' }∧({ w with heap:=w.heap.setIfInBounds b o' }:World).heap[b]?=some o':=by
 have a:b<w.heap.size:=(hS.1 d).1;refine ⟨⟨rfl,rfl,rfl,by simp,fun c e=>by show (w.heap.setIfInBounds b o')[c]?=_;rw[i0 (Ne.symm e)]⟩,?_⟩
 show (w.heap.setIfInBounds b o')[b]?=_
 rw[DS a]
def kn (s t:ByteArray):Bool:=s.toList == t.toList
def mT (s t:ByteArray):Bool:=!(s.toList == t.toList)
theorem gW {s t:ByteArray}(h:kn s t=true):s=t:=by
 have e:=ML (show (s.toList == t.toList)=true from h);rw[Lib.toList_data,Lib.toList_data] at e
 cases s;cases t;congr 1;exact Array.toList_inj.1 e
theorem gL {s t:ByteArray}(h:kn s t=false):¬s=t:=fun e=>by
 subst e;have:kn s s=true:=beq_self_eq_true _;rw[this] at h;cases h
theorem sh {s t:ByteArray}(h:mT s t=true):¬s=t:=gL (by unfold mT at h;unfold kn;cases e:(s.toList == t.toList)<;>rw[e] at h<;>first|rfl|cases h)
theorem rF {s t:ByteArray}(h:mT s t=false):s=t:=gW (by unfold mT at h;unfold kn;cases e:(s.toList == t.toList)<;>rw[e] at h<;>first|rfl|cases h)
section laws
variable {P:Program} {n:Nat} {N R:Po} {X:Nat→Po} {ops:Array Oper} {k:Nat} {Γ:bz} {w:World} {h:Hp} {w0:World} {h0:Hp} {B:List Bx} {Rs:List Rw} {F:List (Hp→Prop)}
theorem SS.pokeJ (s:SS w0 h0 w h B [] F){b:Nat}{w':World}(d:h[b]?=some junk)(e:h0.size≤b)(c:∀ x∈B,x.b≠b)(p:Put b w w'):SS w0 h0 w' h B [] F :=
 ⟨s.g0,⟨s.st.up.put p d e s.g0.size,fun x a=>(p.blk _ (c x a)).trans (s.st.own x a),s.st.jk,s.st.lo,s.st.nd⟩,fun _ a=>(by cases a),.nil,s.mo,s.f⟩
theorem Jm (t:Nat)(s:SS w0 h0 w h B Rs F)(H:∀ b w' h',SS w0 h0 w' h' B Rs F→MapJ h0 B w' h' b [] 0→LG P n N R X ops (k+1) ((t,.map (some b))::Γ) w')(a:cL ops Γ k t n=true:=by kernel_rfl)
  (hr:(execOp (ev Γ) (ao ops k)).run P w=.ok (.value (.map (some w.heap.size))) (w.alloc (.map #[] 0)):=by kernel_rfl):LG P n N R X ops k Γ w:=by
 have u:Up w h (w.alloc (.map #[] 0)) (h.push junk):=Up.allocAny s.g _ _ (.inr rfl);refine LG.val t _ _ (bK a).1 (bK a).2 hr (H _ _ _ (s.step u) ⟨?_,?_,?_,fun x c e=>?_⟩)
 ·rw[de];exact fo
 ·rw[s.g.size];exact fo
 ·rw[s.g.size];exact s.st.sz
 ·have:=a7 (s.st.jk x c)
  have:=s.g.size
  omega
theorem HS {b a:Nat}{d:List MapEntry}(c e o:TypeId)(ky:ByteArray)(val:Value)(s:SS w0 h0 w h B [] F)(m:MapJ h0 B w h b d a)(H:∀ w',SS w0 h0 w' h B [] F→MapJ h0 B w' h b (d++[⟨.string ky,val,a⟩]) (a+1)→LG P n N R X ops (k+1) Γ w')
  (f:cS ops Γ k=true:=by kernel_rfl)(l:execOp (ev Γ) (ao ops k)=(do Instr.mapUpdate c (.map (some b)) (.string ky) val;pure .skip):=by kernel_rfl)(u:P.underlying c=some (.map e o):=by kernel_rfl)(j:P.underlying e=some .string:=by kernel_rfl)(hf:Instr.findNow .string (.string ky) d 0=some none:=by kernel_rfl):LG P n N R X ops k Γ w:=by
 have hr:=CF w (val:=val) u j m.obj hf;obtain ⟨p,i⟩:=Bo (o':=.map (d.toArray.push { key:=.string ky,val:=val,born:=a }) (a+1)) m.obj;refine LG.store _ (ko f).1 (ko f).2 ?_ (H _ (s.pokeJ m.jk m.lo m.nb p) ⟨?_,m.jk,m.lo,m.nb⟩)
 ·rw[l];simp[hr,A6]
 ·rw[i];simp
theorem Jc (t:Nat){b:Nat}{c:List MapEntry}(a d f:TypeId)(ky:ByteArray)(ok:Bool)(v:Value)(found:Bool)(s:SS w0 h0 w h B Rs F)(m:MapS h b c)(H:LG P n N R X ops (k+1) ((t,if ok then .tuple #[v,.bool found] else v)::Γ) w)(e:cL ops Γ k t n=true:=by kernel_rfl)
  (p:execOp (ev Γ) (ao ops k)=(do pure (.value (←Instr.lookup a (.map (some b)) (.string ky) ok))):=by kernel_rfl)(u:P.underlying a=some (.map d f):=by kernel_rfl)(l:P.underlying d=some .string:=by kernel_rfl)
  (hf:(∃ i,Instr.findNow .string (.string ky) c 0=some (some (i,v))∧found=true)∨(Instr.findNow .string (.string ky) c 0=some none∧found=false∧∀ w,(zeroValue f).run P w=.ok v w)):LG P n N R X ops k Γ w:=by
 obtain ⟨j,o⟩:=m.w s.g;refine LG.val t _ w (bK e).1 (bK e).2 ?_ H;rw[p];have hr:=ws w ok (v:=v) (found:=found) u l o (hf.imp id fun h=>⟨h.1,h.2.1,h.2.2 w⟩)
 simp[hr,A6]
theorem SS.pubMap {b a:Nat}{j:List MapEntry}(s:SS w0 h0 w h B [] F)(m:MapJ h0 B w h b j a):∃ h',SS w0 h0 w h' B [] F∧MapS h' b j:=by
 have d:=a7 m.jk;refine ⟨h.setIfInBounds b (.map j.toArray a),⟨s.g0,⟨⟨s.st.up.ext,⟨by simp;exact s.st.up.gr.size,fun c k=>?_⟩,⟨by simp;exact s.st.up.g.size,fun c=>?_⟩⟩,s.st.own,fun x i=>?_,s.st.lo,s.st.nd⟩,fun _ i=>(by cases i),.nil,s.mo,s.f.gw s.mo ⟨by simp,fun c _=>?_⟩⟩,a,?_⟩
 ·have:=m.lo
  rw[i0 oM];exact s.st.up.gr.blk c k
 ·by_cases e:b=c
  ·subst e;left;rw[DS d];exact m.obj.symm
  ·rw[i0 e];exact s.st.up.g.blk c
 ·rw[i0 (Ne.symm (m.nb x i))];exact s.st.jk x i
 ·by_cases e:b=c
  ·subst e;exact .inr m.jk
  ·left;rw[i0 e]
 ·rw[DS d]
end laws
theorem vX {α:Type}{l:List α}{d x:α}{k i:Nat}(a:k<l.length):(l.set k x).getD i d=if i=k then x else l.getD i d:=by
 rw[Kl,List.getElem?_set]
 by_cases e:k=i
 ·subst e;rw[MN rfl,MN a,MN rfl];rfl
 ·rw[MM e,MM (fun h=>e h.symm),←Kl]
def TmsU (d:Nat)(h:Hp)(k:Nat)(ps:List PTm)(ts:List Tm):Prop:=∀ i,i<k→TmH d h (ps.getD i au) (ts.getD i bv)
theorem TmsU.gw {d:Nat}{h h':Hp}{k:Nat}{ps:List PTm}{a:List Tm}(x:TmsU d h k ps a)(u:Gw h h'):TmsU d h' k ps a:=fun i hi=>(x i hi).gw u
theorem TmsU.set {d:Nat}{h:Hp}{k:Nat}{ps:List PTm}{a:List Tm}{p:PTm}(x:TmsU d h k ps a)(b:k<ps.length)(y:TmH d h p (a.getD k bv)):TmsU d h (k+1) (ps.set k p) a:=fun i hi=>by
 rw[vX b]
 by_cases e:i=k
 ·subst e;rw[MN rfl];exact y
 ·rw[MM e];exact x i oM
theorem Tms.of_u {d:Nat}{h:Hp}{k:Nat}{ps:List PTm}{a:List Tm}(b:ps.length=a.length)(c:a.length≤k)(x:TmsU d h k ps a):Tms d h ps a:=⟨b,fun i hi=>x i oM⟩
theorem uj (f:Nat→Nat){a b:Nat}(h:a≤b):fK f a≤fK f b:=by
 induction h with
 | refl=>exact ey _
 | step _ ih=>exact ez ih (Mh _ _)
def f9 (op n:Int):Nat:=if op=11 then 2 else if op=8 then cd n else 1
theorem cV (op n:Int):1≤f9 op n:=by
 unfold f9 cd
 split
 ·omega
 ·split
  ·split<;>omega
  ·omega
theorem ml {d:Nat}{op n:Int}{q:Rat}{s:ByteArray}{ks:List Tm}(h:ks.length=0):bp (d+1) (.mk op n q s ks)=1:=MN h
theorem je {d:Nat}{op n:Int}{q:Rat}{s:ByteArray}{ks:List Tm}(h:ks.length≠0):bp (d+1) (.mk op n q s ks)=f9 op n*fK (fun i=>bp d (ks.getD i bv)) ks.length:=MM h
theorem qw {d:Nat}{op n:Int}{q:Rat}{s:ByteArray}{ks:List Tm}(h:ks.length≠0):fK (fun i=>bp d (ks.getD i bv)) ks.length≤bp (d+1) (.mk op n q s ks):=by
 rw[je h];exact Ls _ (cV op n)
theorem mc {m s:Nat}(h:1≤m):min (m*min s 1001) 1001=min (m*s) 1001:=by
 rcases Ln s 1001 with e|e
 ·rw[J5 e]
 ·rw[Kw e,Kw (ez e (Ls _ h)),Kw (Ls _ h)]
theorem se (op:Int)(w:World)(h:Hp)(g:G w h):CV 78 #[iV op] w h (iV (d8 op)):=by
 have a:=sS g;refine go Tryz.func78 [(0,iV op)] rfl (aa a [.v 2 (iV 0)] (ah (aa a [.m 3 0] (a8 (cQ (av ?_))))));cases k:((op:Int) == (1:Int))
 ·
  have z:=ae k;refine lB 5 k (lL a [.m 4 5] (af (kQ ?_)));cases l:((op:Int) == (2:Int))
  ·
   have x:=ae l;refine lB 6 l (lL a [.m 4 6] (af (cQ (av ?_))));cases e:((op:Int) == (7:Int))
   ·
    have o:=ae e;refine lB 8 e (lL a [.m 7 8] (af (av ?_)));cases c:((op:Int) == (8:Int))
    ·
     have p:=ae c;refine lB 9 c (lL a [.m 7 9] (af (av ?_)));cases i:((op:Int) == (9:Int))
     ·
      have B:=ae i;refine lB 10 i (lL a [.m 7 10] (af (av ?_)));cases b:((op:Int) == (10:Int))
      ·
       have y:=ae b;refine lB 11 b (lL a [.m 7 11] (af (kQ ?_)));cases f:((op:Int) == (11:Int))
       ·
        have u:=ae f;refine lB 12 f (lL a [.m 7 12] (af (cQ (av ?_))));cases j:((op:Int) == (3:Int))
        ·
         have D:=ae j;refine lB 14 j (lL a [.m 13 14] (af (av ?_)));cases d:((op:Int) == (4:Int))
         ·
          have C:=ae d;refine lB 15 d (lL a [.m 13 15] (af (av ?_)));cases za:((op:Int) == (5:Int))
          ·
           have I:=ae za;refine lB 16 za (lL a [.m 13 16] (af (av ?_)));cases zb:((op:Int) == (6:Int))
           ·
            have J:=ae zb;refine lB 17 zb (lL a [.m 13 17] (af (av ?_)));cases F:((op:Int) == (12:Int))
            ·
             have K:=ae F;refine lB 18 F (lL a [.m 13 18] (af (kQ ?_)));cases H:((op:Int) == (13:Int))
             ·
              have L:=ae H;exact lB 19 H (lL a [.m 13 19] (af (cK (aa a [.v 2 (iV (-1))] (ac a [] (iV (-1)) (congrArg (Lp .i64) (by have:=aE op;omega)))))))
             have L:=ML H;exact lB 19 H (lL a [.m 13 19] (ak (aa a [.v 2 (iV 2)] (ac a [] (iV 2) (congrArg (Lp .i64) (by have:=aE op;omega))))))
            have K:=ML F;exact lB 18 F (lL a [.m 13 18] (ak (cK (ce (aa a [.v 2 (iV 2)] (ac a [] (iV 2) (congrArg (Lp .i64) (by have:=aE op;omega))))))))
           have J:=ML zb;exact lB 17 zb (lL a [.m 13 17] (ak (cK (ce (aa a [.v 2 (iV 2)] (ac a [] (iV 2) (congrArg (Lp .i64) (by have:=aE op;omega))))))))
          have I:=ML za;exact lB 16 za (lL a [.m 13 16] (ak (cK (ce (aa a [.v 2 (iV 2)] (ac a [] (iV 2) (congrArg (Lp .i64) (by have:=aE op;omega))))))))
         have C:=ML d;exact lB 15 d (lL a [.m 13 15] (ak (cK (ce (aa a [.v 2 (iV 2)] (ac a [] (iV 2) (congrArg (Lp .i64) (by have:=aE op;omega))))))))
        have D:=ML j;exact lB 14 j (lL a [.m 13 14] (ak (cK (ce (aa a [.v 2 (iV 2)] (ac a [] (iV 2) (congrArg (Lp .i64) (by have:=aE op;omega))))))))
       have u:=ML f;exact lB 12 f (lL a [.m 7 12] (ak (aa a [.v 2 (iV 1)] (ac a [] (iV 1) (congrArg (Lp .i64) (by have:=aE op;omega))))))
      have y:=ML b;exact lB 11 b (lL a [.m 7 11] (ak (cK (ce (aa a [.v 2 (iV 1)] (ac a [] (iV 1) (congrArg (Lp .i64) (by have:=aE op;omega))))))))
     have B:=ML i;exact lB 10 i (lL a [.m 7 10] (ak (cK (ce (aa a [.v 2 (iV 1)] (ac a [] (iV 1) (congrArg (Lp .i64) (by have:=aE op;omega))))))))
    have p:=ML c;exact lB 9 c (lL a [.m 7 9] (ak (cK (ce (aa a [.v 2 (iV 1)] (ac a [] (iV 1) (congrArg (Lp .i64) (by have:=aE op;omega))))))))
   have o:=ML e;exact lB 8 e (lL a [.m 7 8] (ak (cK (ce (aa a [.v 2 (iV 1)] (ac a [] (iV 1) (congrArg (Lp .i64) (by have:=aE op;omega))))))))
  have x:=ML l;exact lB 6 l (lL a [.m 4 6] (ak (aa a [.v 2 (iV 0)] (ac a [] (iV 0) (congrArg (Lp .i64) (by have:=aE op;omega))))))
 have z:=ML k;exact lB 5 k (lL a [.m 4 5] (ak (cK (ce (aa a [.v 2 (iV 0)] (ac a [] (iV 0) (congrArg (Lp .i64) (by have:=aE op;omega))))))))
theorem E3 (n:Int)(h0 : -12≤n)(h1:n≤12)(w:World)(h:Hp)(g:G w h):CV 80 #[iV n] w h (nV (cd n)):=by
 have a:=sS g;refine go Tryz.func80 [(0,iV n)] rfl (aa a [.v 2 (iV 0)] (ah (aa a [.m 3 0] ?_)));cases b:(decide ((n:Int)≤(-1073741824:Int)))
 ·
  have e:=oF b;refine lB 4 b (lL a [.m 5 4,.m 6 0] ?_);cases c:(decide ((1073741824:Int)≤(n:Int)))
  ·
   have d:=oF c;refine lB 7 c (lL a [.v 8 qF] (af (cK (aa a [.m 9 0,.m 10 0] (lI 11 (0-n) ?_)))));refine lV 12 (iV (max (max (n:Int) (0-n:Int)) (1:Int))) ?_ (hr:=aK (n:=(if (1:Int)>(if (0-n:Int)>(n:Int) then (0-n:Int) else (n:Int)) then (1:Int) else (if (0-n:Int)>(n:Int) then (0-n:Int) else (n:Int)))) kR (by simp only[qU]));exact lL a [.m 2 12] (ac a [] (iV (max (max (n:Int) (0-n:Int)) (1:Int))) (congrArg (Lp .i64) (by unfold cd;(repeat' split)<;>omega)))
  have d:=oT c;exact lB 7 c (lL a [.v 8 qT] (ak (aa a [.v 2 (iV 1073741824)] (ac a [] (iV 1073741824) (congrArg (Lp .i64) (by unfold cd;(repeat' split)<;>omega))))))
 have e:=oT b;refine lB 4 b (lL a [.m 5 4] (lG 6 ?_));exact lG 7 (lL a [.v 8 qT] (ak (aa a [.v 2 (iV 1073741824)] (ac a [] (iV 1073741824) (congrArg (Lp .i64) (by unfold cd;(repeat' split)<;>omega))))))
theorem wF  (sm:ByteArray→Prop)(d:Nat)(F:∀ (p:PTm) (t:Tm) (a:Int) (w:World) (h:Hp),G w h→TmH d h p t→iF sm d t→(d:Int)≤a→a≤1000→Calls Tryz.prog 47 #[az p,iV a] w (Ret w h (fun v _=>v=.bool false)))(op n:Int)(q:Rat)(s:ByteArray)(A:Option Addr)(c:Nat)(ps:List PTm)(ks:List Tm)(hc:ps.length≤c)(C:ps.length≤3)(M:ks.length≤3)(Q : -1000≤op∧op≤1000)(Y : -1000≤n∧n≤1000)(hq:LQ 3000 q)(O:sm s)(I:∀ i,i<ks.length→iF sm d (ks.getD i bv))(a:Int)(hm:((d+1:Nat):Int)≤a)(H:a≤1000)(w:World)(h:Hp)(g:G w h)(U:SlO 9 bg au h A ps)(z:Tms d h ps ks):CV 47 #[pW op n q s A ps.length c,iV a] w h (.bool false):=by
 have b:=(((sS g).aS U).add (K:=fun l=>Tms d l ps ks) z);have D:=(b.f.1).len;refine go Tryz.func47 [(0,pW op n q s A ps.length c),(1,iV a)] rfl (av (lA 2 43 (pG op n q s A ps.length c) b (fun B w2 L b=>lL b [.v 4 qF] (ah (aa b [.m 7 1] ?_)))));cases e:(decide ((a:Int)<(1:Int)))
 ·
  have u:=oF e;refine lB 8 e (af (cK (cQ (aa b [.v 9 (qP B 8),.o 10 (qS A ps.length c) 0 8 1,.v 11 (nV ps.length),.v 12 (iV 0)] (a8 ?_)))));refine bH _ (CG.loop (fun y Γ V=>∃ (k:Nat) (l:Hp),y=ps.length-k∧Γ=[(1,iV a),(10,qS A ps.length c),(11,nV ps.length),(12,nV k)]∧SS w h V l [⟨B,43,pG op n q s A ps.length c⟩] [] [fun l=>Tms d l ps ks,fun l=>SlO 9 bg au l A ps]∧k≤ps.length) _ ⟨0,L,rfl,rfl,b.to _ _,K7 _⟩ ?_);rintro _ _ w5 ⟨k,W,S,rfl,b,hk⟩;refine av ?_;cases j:(decide ((k:Int)<(ps.length:Int)))
  ·
   have x:=oF j;refine lB 13 j (ah (cv (CG.exit ?_)))
   show CG _ _ _ _ _ _ _ _
   exact aa b [.v 4 qF] (ac b [] qF rfl)
  have x:=oT j;refine lB 13 j (ah (ce (cK (cQ (kZ (av (lX 14 A ps.length c 9 (k:Nat) k ((b.f.2.1).ok oM) ?_)))))));refine lH 15 (az (ps.getD k au)) b ((b.f.2.1).el k oM) (lA 6 43 dS b (fun Z _ _ b=>lP 0 0 (bg (ps.getD k au)) b (fun _ b=>aI (lL b [.o 16 (az (ps.getD k au)) 0 0 9,.m 17 1] (lI 18 (a-1) ?_)))));refine ag 19 b (F (ps.getD k au) (ks.getD k bv) (a-1) _ _ b.g ((b.f.1).at_ k oM) (I k oM) oM oM) (fun _ za b=>af (cK (kQ (bD 20 ((k:Nat)+1) (k+1) ?_))));refine lL b [.m 12 20] (lD ?_);intro X J;replace b:=b.drop 1 0;refine ⟨_,_,?_,⟨k+1,za,rfl,rfl,b.to _ _,oM⟩,J.to _ kR⟩
  omega
 have u:=oT e;refine lB 8 e (ak (aa b [.v 4 qT] (lN (kX ?_))))
 exfalso;omega
theorem sb (sm:ByteArray→Prop):∀ (d:Nat) (p:PTm) (t:Tm) (a:Int) (w:World) (h:Hp),G w h→TmH d h p t→iF sm d t→(d:Int)≤a→a≤1000→Calls Tryz.prog 47 #[az p,iV a] w (Ret w h (fun v _=>v=.bool false))
  | 0,_,_,_,_,_,_,x,_,_,_=>x.elim
  | d+1,p,t,a,w,h,g,x,wf,hm,hm2=>by
    obtain ⟨op,n,q,s,A,c,ps,ks,rfl,rfl,l,u,b⟩:=x.open;obtain ⟨e,y,i,f,j,k⟩:=wf;have o:ks.length≤3:=e;exact wF sm d (fun p t a w h=>sb sm d p t a w h) op n q s A c ps ks l (by have:=b.len;omega) e y i f j k a hm hm2 w h g u b
theorem wd  (isb:ByteArray→Bool)(sm:ByteArray→Prop)(hIs:∀ s,sm s→∀ (w:World) (h:Hp),G w h→Calls Tryz.prog 79 #[.string s] w (Ret w h (fun v _=>∃ b,v=.bool b∧b=isb s)))(d:Nat)(ih:∀ (p:PTm) (t:Tm) (w:World) (h:Hp),G w h→TmH d h p t→iF sm d t →  Calls Tryz.prog 48 #[az p] w (Ret w h (fun v _=>∃ O,v=.bool O∧(O=true↔WfT (fun s=>isb s=true) d t))))(op n:Int)(q:Rat)(s:ByteArray)(A:Option Addr)(c:Nat)(ps:List PTm)(ks:List Tm)(hc:ps.length≤c)(hlp:ps.length≤3)(hk3:ks.length≤3)(hop : -1000≤op∧op≤1000)(hn : -1000≤n∧n≤1000)(hq:LQ 3000 q)(hsm:sm s)(hW:∀ i,i<ks.length→iF sm d (ks.getD i bv))(w:World)(h:Hp)(g:G w h)(hK:SlO 9 bg au h A ps)(hKs:Tms d h ps ks):CR 48 #[pW op n q s A ps.length c] w h (fun v _=>∃ O,v=.bool O∧(O=true↔WfT (fun s=>isb s=true) (d+1) (.mk op n q s ks))):=by
 have a:=(((sS g).aS hK).add (K:=fun e=>Tms d e ps ks) hKs);have hln:=(a.f.1).len;have hsg:q.num.sign=0↔q.num=0:=Mi;refine go Tryz.func48 [(0,pW op n q s A ps.length c)] rfl (av (lA 1 43 (pG op n q s A ps.length c) a (fun l w2 h3 a=>lL a [.v 2 qF] (ah (cQ (cR 7 [] mixed a ar ?_))))));refine eV 0 5 (pB l) (eO 1 6 [(0,0,1)] (iV op) a (eV 3 8 (qP l 8) (eO 4 9 [(0,8,1)] (qS A ps.length c) a (eV 5 10 (nV ps.length) (aq 2 7 a (fun _ _ a=>se op _ _ a.g) (fun w4 h5 a=>?_))))));cases y:((d8 op:Int) != (ps.length:Int))
 ·
  have L:=aJ y;refine eB 6 11 y (ck a (fun w7 h8 a=>?_));refine tN (cv (cK (cQ (CG.join (fun Γ B=>∃ (D:Bool) (e:Hp),Γ=[(1,pB l),(2,qF),(20,.bool D)]∧SS w h B e [⟨l,43,pG op n q s A ps.length c⟩] [] [fun e=>Tms d e ps ks,fun e=>SlO 9 bg au e A ps]∧(D=true→¬(op=1∨q.num=0))∧(D=false→(op=1∨q.num=0))) ?_ ?_))))
  ·
   refine kQ (lL a [.v 12 (pB l),.o 13 (iV op) 0 0 1] ?_);cases x:((op:Int) != (1:Int))
   ·
    have M:=aJ x;refine lB 14 x (lL a [.m 15 14] (lG 16 ?_));refine lG 17 (lG 18 (lG 19 (lL a [.v 20 qF] (lD ?_))));intro u j;exact ⟨_,⟨false,h8,rfl,a.to _ _,(fun e=>MO e kD),(fun _=>by omega)⟩,j.to _ kR⟩
   have M:=aW x;refine lB 14 x (lL a [.m 15 14,.v 16 (qP l 2),.o 17 (qv q) 0 2 5] (ag 18 a (jc q (hq.mono oM) _ _ a.g) (fun _ zD a=>?_)));cases za:((q.num.sign:Int) != (0:Int))
   ·
    have zs:=aJ za;refine lB 19 za (lL a [.v 20 qF] (lD ?_));intro u j;exact ⟨_,⟨false,zD,rfl,a.to _ _,(fun e=>MO e kD),(fun _=>by omega)⟩,j.to _ kR⟩
   have zs:=aW za;refine lB 19 za (lL a [.v 20 qT] (lD ?_));intro u j;exact ⟨_,⟨true,zD,rfl,a.to _ _,(fun _=>by omega),(fun e=>MO e kD)⟩,j.to _ kR⟩
  rintro _ _ ⟨D,zE,rfl,a,zH,F⟩;cases zb:(D)
  ·
   try rw[zb] at a
   try rw[zb]
   refine cv (cK (cQ (CG.join (fun Γ B=>∃ (C:Bool) (e:Hp),Γ=[(1,pB l),(2,qF),(39,.bool C)]∧SS w h B e [⟨l,43,pG op n q s A ps.length c⟩] [] [fun e=>Tms d e ps ks,fun e=>SlO 9 bg au e A ps]∧(C=true→¬((op=2→isb s=true)∧(op≠2→s=⟨#[]⟩)))∧(C=false→((op=2→isb s=true)∧(op≠2→s=⟨#[]⟩)))) ?_ ?_)))
   ·
    refine kQ (lL a [.v 21 (pB l),.o 22 (iV op) 0 0 1] ?_);cases zc:((op:Int) == (2:Int))
    ·
     have zt:=ae zc;refine lB 23 zc (lL a [.m 24 23] (lG 25 ?_));refine lG 26 (lG 27 (lG 28 (lL a [.v 29 qF,.m 30 29,.v 31 (pB l),.o 32 (iV op) 0 0 1] ?_)));have zq:((op:Int) != (2:Int))=true:=xr oM;have bd:=aW zq;refine lB 33 zq (lL a [.m 34 33,.v 35 (qP l 7),.o 36 (.string s) 0 7 1] ?_);cases Y:(mT s (⟨#[]⟩))
     ·
      have zu:=rF Y;refine lB 37 Y (lL a [.v 38 qF,.v 39 qF] (lD ?_));intro u j;exact ⟨_,⟨false,zE,rfl,a.to _ _,(fun e=>MO e kD),(fun _=>⟨fun e=>by first|exact z.symm.trans aM|exact MO e oM,fun e=>by first|assumption|exact MO e oM⟩)⟩,j.to _ kR⟩
     have zu:=sh Y;refine lB 37 Y (lL a [.v 38 qT,.v 39 qT] (lD ?_));intro u j;exact ⟨_,⟨true,zE,rfl,a.to _ _,(fun _ e=>by first|exact Mj ((e.1 oM).symm.trans (z.symm.trans aM))|exact MO (e.2 oM) aM),(fun e=>MO e kD)⟩,j.to _ kR⟩
    have zt:=ML zc;refine lB 23 zc (lL a [.m 24 23,.v 25 (qP l 7),.o 26 (.string s) 0 7 1] (lC 27 a (hIs s hsm _ _ a.g) ?_));rintro _ _ zG a ⟨bi,rfl,z⟩;cases bt:(bi)
    ·
     refine lL a [.v 28 qT,.v 29 qT,.m 30 29] (lG 31 ?_);refine lG 32 (lG 33 (lG 34 (lG 35 (lG 36 (lG 37 (lG 38 (lL a [.v 39 qT] (lD ?_))))))));intro u j;exact ⟨_,⟨true,zG,rfl,a.to _ _,(fun _ e=>by first|exact Mj ((e.1 oM).symm.trans (z.symm.trans aM))|exact MO (e.2 oM) aM),(fun e=>MO e kD)⟩,j.to _ kR⟩
    refine lL a [.v 28 qF,.v 29 qF,.m 30 29,.v 31 (pB l),.o 32 (iV op) 0 0 1] ?_;have zr:((op:Int) != (2:Int))=false:=mE oM;have bm:=aJ zr;refine lB 33 zr (lL a [.m 34 33] (lG 35 ?_));refine lG 36 (lG 37 (lL a [.v 38 qF,.v 39 qF] (lD ?_)));intro u j;exact ⟨_,⟨false,zG,rfl,a.to _ _,(fun e=>MO e kD),(fun _=>⟨fun e=>by first|exact z.symm.trans aM|exact MO e oM,fun e=>by first|assumption|exact MO e oM⟩)⟩,j.to _ kR⟩
   rintro _ _ ⟨C,H,rfl,a,zI,Q⟩;cases ze:(C)
   ·
    try rw[ze] at a
    try rw[ze]
    refine cv (cK (cQ (CG.join (fun Γ B=>∃ (S:Bool) (e:Hp),Γ=[(1,pB l),(2,qF),(57,.bool S)]∧SS w h B e [⟨l,43,pG op n q s A ps.length c⟩] [] [fun e=>Tms d e ps ks,fun e=>SlO 9 bg au e A ps]∧(S=true→¬((op=8∨n=0) ∧ -12≤n∧n≤12))∧(S=false→((op=8∨n=0) ∧ -12≤n∧n≤12))) ?_ ?_)))
    ·
     refine kQ (lL a [.v 40 (pB l),.o 41 (iV op) 0 0 1] ?_);cases X:((op:Int) != (8:Int))
     ·
      have zv:=aJ X;refine lB 42 X (lL a [.m 43 42] (lG 44 ?_));refine lG 45 (lG 46 (lL a [.v 47 qF,.m 48 47,.v 49 (qP l 1),.o 50 (iV n) 0 1 1] ?_));cases zg:(decide ((n:Int)<(-12:Int)))
      ·
       have zw:=oF zg;refine lB 51 zg (lL a [.v 52 qF,.m 53 52,.v 54 (qP l 1),.o 55 (iV n) 0 1 1] ?_);cases V:(decide ((12:Int)<(n:Int)))
       ·
        have zx:=oF V;refine lB 56 V (lL a [.v 57 qF] (lD ?_));intro u j;exact ⟨_,⟨false,H,rfl,a.to _ _,(fun e=>MO e kD),(fun _=>by omega)⟩,j.to _ kR⟩
       have zx:=oT V;refine lB 56 V (lL a [.v 57 qT] (lD ?_));intro u j;exact ⟨_,⟨true,H,rfl,a.to _ _,(fun _=>by omega),(fun e=>MO e kD)⟩,j.to _ kR⟩
      have zw:=oT zg;refine lB 51 zg (lL a [.v 52 qT,.m 53 52] (lG 54 ?_));refine lG 55 (lG 56 (lL a [.v 57 qT] (lD ?_)));intro u j;exact ⟨_,⟨true,H,rfl,a.to _ _,(fun _=>by omega),(fun e=>MO e kD)⟩,j.to _ kR⟩
     have zv:=aW X;refine lB 42 X (lL a [.m 43 42,.v 44 (qP l 1),.o 45 (iV n) 0 1 1] ?_);cases Z:((n:Int) != (0:Int))
     ·
      have zA:=aJ Z;refine lB 46 Z (lL a [.v 47 qF,.m 48 47,.v 49 (qP l 1),.o 50 (iV n) 0 1 1] ?_);have ⟨zJ,bn⟩:=dF (p:=(n:Int)<(-12:Int)) oM;refine lB 51 zJ (lL a [.v 52 qF,.m 53 52,.v 54 (qP l 1),.o 55 (iV n) 0 1 1] ?_);have ⟨zK,bl⟩:=dF (p:=(12:Int)<(n:Int)) oM;refine lB 56 zK (lL a [.v 57 qF] (lD ?_));intro u j;exact ⟨_,⟨false,H,rfl,a.to _ _,(fun e=>MO e kD),(fun _=>by omega)⟩,j.to _ kR⟩
     have zA:=aW Z;refine lB 46 Z (lL a [.v 47 qT,.m 48 47] (lG 49 ?_));refine lG 50 (lG 51 (lL a [.v 52 qT,.m 53 52] (lG 54 ?_)));refine lG 55 (lG 56 (lL a [.v 57 qT] (lD ?_)));intro u j;exact ⟨_,⟨true,H,rfl,a.to _ _,(fun _=>by omega),(fun e=>MO e kD)⟩,j.to _ kR⟩
    rintro _ _ ⟨S,zM,rfl,a,zL,I⟩;cases W:(S)
    ·
     try rw[W] at a
     try rw[W]
     refine cv (cK (cQ (aa a [.v 58 (qP l 8),.o 59 (qS A ps.length c) 0 8 1,.v 60 (nV ps.length),.v 61 (iV 0)] (a8 ?_))));refine bH _ (CG.loop (fun μ_ Γ B=>∃ (k:Nat) (e:Hp),μ_=ps.length-k∧Γ=[(59,qS A ps.length c),(60,nV ps.length),(61,nV k)]∧SS w h B e [⟨l,43,pG op n q s A ps.length c⟩] [] [fun e=>Tms d e ps ks,fun e=>SlO 9 bg au e A ps]∧k≤ps.length∧(∀ i,i<k→WfT (fun s=>isb s=true) d (ks.getD i bv))) _ ⟨0,zM,rfl,rfl,a.to _ _,K7 _,(fun i hi=>MO hi (Mk i))⟩ ?_);rintro _ _ _ ⟨k,_,bq,rfl,a,hk,U⟩;refine av ?_;cases zl:(decide ((k:Int)<(ps.length:Int)))
     ·
      have zB:=oF zl;refine lB 62 zl (ah (cv (CG.exit ?_)))
      show CG _ _ _ _ _ _ _ _
      exact aa a [.v 2 qT] (ac a [] qT (C8 ⟨by omega,F aM,Q aM,I aM⟩ hq (fun i hi=>U i oM)))
     have zB:=oT zl;refine lB 62 zl (ah (ce (cK (cQ (kZ (av (lX 63 A ps.length c 9 (k:Nat) k ((a.f.2.1).ok oM) ?_)))))));refine lH 64 (az (ps.getD k au)) a ((a.f.2.1).el k oM) (lA 4 43 dS a (fun b63 _ _ a=>lP 0 0 (bg (ps.getD k au)) a (fun _ a=>aI (lL a [.o 65 (az (ps.getD k au)) 0 0 9] (lC 66 a (ih (ps.getD k au) (ks.getD k bv) _ _ a.g ((a.f.1).at_ k oM) (hW k oM)) ?_)))));rintro _ _ zN a ⟨bk,rfl,J⟩;cases br:(bk)
     ·
      exact lL a [.v 67 qT] (ak (aa a [.v 2 qF] (ac a [] qF (C3 (k:=k) oM aM J))))
     refine lL a [.v 67 qF] (af (cK (kQ (bD 68 ((k:Nat)+1) (k+1) ?_))));refine lL a [.m 61 68] (lD ?_);intro u j;replace a:=a.drop 1 0;refine ⟨_,_,?_,⟨k+1,zN,rfl,rfl,a.to _ _,oM,(fun i hi=>by rcases Mm.1 hi with e|rfl;exact U i e;exact J.1 aM)⟩,j.to _ kR⟩
     omega
    try rw[W] at a
    try rw[W]
    exact ce (aa a [.v 2 qF] (ac a [] qF (pg (fun e=>zL aM e.2.2.2))))
   try rw[ze] at a
   try rw[ze]
   exact ce (aa a [.v 2 qF] (ac a [] qF (pg (fun e=>zI aM e.2.2.1))))
  try rw[zb] at a
  try rw[zb]
  exact ce (aa a [.v 2 qF] (ac a [] qF (pg (fun e=>zH aM e.2.1))))
 have L:=aW y;exact eB 6 11 y (ck a (fun _ _ a=>tN (ce (aa a [.v 2 qF] (ac a [] qF (pg (fun e=>MO e.1 oM)))))))
theorem oI (isb:ByteArray→Bool)(sm:ByteArray→Prop)(e:∀ s,sm s→∀ (w:World) (h:Hp),G w h→Calls Tryz.prog 79 #[.string s] w (Ret w h (fun v _=>∃ b,v=.bool b∧b=isb s))):∀ (d:Nat) (p:PTm) (t:Tm) (w:World) (h:Hp),G w h→TmH d h p t→iF sm d t →  Calls Tryz.prog 48 #[az p] w (Ret w h (fun v _=>∃ i,v=.bool i∧(i=true↔WfT (fun s=>isb s=true) d t)))
  | 0,_,_,_,_,_,x,_=>x.elim
  | d+1,p,t,w,h,g,x,wf=>by
    obtain ⟨op,n,q,s,A,c,ps,ks,rfl,rfl,u,z,a⟩:=x.open;obtain ⟨f,B,k,j,l,o⟩:=wf;have y:ks.length≤3:=f;exact wd isb sm e d (fun p t w h=>oI isb sm e d p t w h) op n q s A c ps ks u (by have:=a.len;omega) f B k j l o w h g z a
theorem xL  (ok:ByteArray→Prop)(d:Nat)(W:∀ (p:PTm) (t:Tm) (w:World) (h:Hp),G w h→TmH d h p t→WfT ok d t →  Calls Tryz.prog 49 #[az p,iV 1001] w (Ret w h (fun v _=>v=iV ((min (bp d t) 1001:Nat):Int))))(op n:Int)(q:Rat)(s:ByteArray)(A:Option Addr)(c:Nat)(ps:List PTm)(ks:List Tm)(hc:ps.length≤c)(L:ps.length≤2)(J:d8 op=(ks.length:Nat))(hq0:op≠1→q=0)(hq:LQ 3000 q)(Z:op=2→ok s)(hs0:op≠2→s=⟨#[]⟩)(hn0:op≠8→n=0)(hn1 : -12≤n)(S:n≤12)(Y:∀ i,i<ks.length→WfT ok d (ks.getD i bv))(w:World)(h:Hp)(g:G w h)(hK:SlO 9 bg au h A ps)(I:Tms d h ps ks):CV 49 #[pW op n q s A ps.length c,iV 1001] w h (iV ((min (bp (d+1) (.mk op n q s ks)) 1001:Nat):Int)):=by
 have a:=(((sS g).aS hK).add (K:=fun y=>Tms d y ps ks) I);have U:=(a.f.1).len;refine go Tryz.func49 [(0,pW op n q s A ps.length c),(1,iV 1001)] rfl (av (lA 2 43 (pG op n q s A ps.length c) a (fun B w2 h3 a=>lL a [.v 4 (iV 0)] (ah (aa a [.v 8 (qP B 8),.o 9 (qS A ps.length c) 0 8 1,.v 10 (nV ps.length)] ?_)))));cases l:((ps.length:Int) == (0:Int))
 ·
  have C:=ae l;refine lB 11 l (af (cK (aa a [.v 5 (iV 0)] (ah (aa a [.v 14 (qP B 8),.o 15 (qS A ps.length c) 0 8 1,.v 16 (nV ps.length),.v 17 (iV 0)] (a8 ?_))))));refine bH _ (CG.loop (fun H Γ w_=>∃ (k:Nat) (sm:Nat) (y:Hp),H=ps.length-k∧Γ=[(1,iV 1001),(2,pB B),(15,qS A ps.length c),(16,nV ps.length),(17,nV k),(5,nV sm)]∧SS w h w_ y [⟨B,43,pG op n q s A ps.length c⟩] [] [fun y=>Tms d y ps ks,fun y=>SlO 9 bg au y A ps]∧k≤ps.length∧sm=min (fK (fun i=>bp d (ks.getD i bv)) k) 1001) _ ⟨0,0,h3,rfl,rfl,a.to _ _,K7 _,rfl⟩ ?_);rintro _ _ w5 ⟨k,sm,h6,hm7,rfl,a,hk,z⟩;have Q:(fK (fun i=>bp d (ks.getD i bv)) (k+1))=(fK (fun i=>bp d (ks.getD i bv)) k)+bp d (ks.getD k bv):=rfl;refine av ?_;cases x:(decide ((k:Int)<(ps.length:Int)))
  ·
   have F:=oF x;refine lB 18 x (ah (cv (CG.exit ?_)))
   show CG _ _ _ _ _ _ _ _
   refine cQ (aa a [.v 33 (pB B),.o 34 (iV op) 0 0 1] (a8 (av ?_)));cases u:((op:Int) == (11:Int))
   ·
    have D:=ae u;refine lB 36 u (lL a [.m 35 36] (af (av ?_)));cases za:((op:Int) == (8:Int))
    ·
     have V:=ae za;refine lB 40 za (lL a [.m 39 40] (af (cK (aa a [.m 46 5,.m 47 1] (lV 48 (iV (min (sm:Int) (1001:Int))) ?_ (hr:=aK (n:=(if (1001:Int)<(sm:Int) then (1001:Int) else (sm:Int))) kR (by simp only[em])))))));refine lL a [.m 4 48] (lN (kX ?_));have j:k=ks.length:=by omega
     have b:=je (d:=d) (op:=op) (n:=n) (q:=q) (s:=s) (ks:=ks) oM;have e:=mc (s:=(fK (fun i=>bp d (ks.getD i bv)) k)) (cV op n);rw[←j] at b
     rw[←b,←z] at e
     exact a.ret [] (iV (min (sm:Int) (1001:Int))) (congrArg (Lp .i64) (by rw[←e];unfold f9;first|(rw[MN oM];(repeat' split)<;>omega)|(rw[MM oM,MN oM,JZ];(repeat' split)<;>omega)|(rw[MM oM,MM oM];(repeat' split)<;>omega)))
    have V:=ML za;refine lB 40 za (lL a [.m 39 40] (ak (kQ (lL a [.m 41 5,.v 42 (qP B 1),.o 43 (iV n) 0 1 1] (ag 44 a (E3 n oM oM _ _ a.g) (fun _ _ a=>?_))))));have X:cd n≤12∧1≤cd n:=by unfold cd;split<;>omega
    have hmb:sm*cd n≤1001*12:=KM oM oM;refine lI 45 ((sm:Nat)*(cd n:Nat)) (lL a [.m 5 45] (aI (lL a [.m 46 5,.m 47 1] (lV 48 (iV (min ((sm:Nat)*(cd n:Nat):Int) (1001:Int))) ?_ (hr:=aK (n:=(if (1001:Int)<((sm:Nat)*(cd n:Nat):Int) then (1001:Int) else ((sm:Nat)*(cd n:Nat):Int))) kR (by simp only[em]))))));refine lL a [.m 4 48] (lN (kX ?_));have j:k=ks.length:=by omega
    have b:=je (d:=d) (op:=op) (n:=n) (q:=q) (s:=s) (ks:=ks) oM;have e:=mc (s:=(fK (fun i=>bp d (ks.getD i bv)) k)) (cV op n);rw[←j] at b
    rw[←b,←z] at e
    exact a.ret [] (iV (min ((sm:Nat)*(cd n:Nat):Int) (1001:Int))) (congrArg (Lp .i64) (by rw[←e];unfold f9;first|(rw[MN oM];(repeat' split)<;>omega)|(rw[MM oM,MN oM,JZ];(repeat' split)<;>omega)|(rw[MM oM,MM oM];(repeat' split)<;>omega)))
   have D:=ML u;refine lB 36 u (lL a [.m 35 36] (ak (kQ (lL a [.m 37 5] (lI 38 ((sm:Nat)*2) ?_)))));refine lL a [.m 5 38] (aI (lL a [.m 46 5,.m 47 1] (lV 48 (iV (min ((sm:Nat)*2:Int) (1001:Int))) ?_ (hr:=aK (n:=(if (1001:Int)<((sm:Nat)*2:Int) then (1001:Int) else ((sm:Nat)*2:Int))) kR (by simp only[em])))));refine lL a [.m 4 48] (lN (kX ?_));have j:k=ks.length:=by omega
   have b:=je (d:=d) (op:=op) (n:=n) (q:=q) (s:=s) (ks:=ks) oM;have e:=mc (s:=(fK (fun i=>bp d (ks.getD i bv)) k)) (cV op n);rw[←j] at b
   rw[←b,←z] at e
   exact a.ret [] (iV (min ((sm:Nat)*2:Int) (1001:Int))) (congrArg (Lp .i64) (by rw[←e];unfold f9;first|(rw[MN oM];(repeat' split)<;>omega)|(rw[MM oM,MN oM,JZ];(repeat' split)<;>omega)|(rw[MM oM,MM oM];(repeat' split)<;>omega)))
  have F:=oT x;refine lB 18 x (ah (ce (cK (cQ (kZ (av (lX 19 A ps.length c 9 (k:Nat) k ((a.f.2.1).ok oM) ?_)))))));refine lH 20 (az (ps.getD k au)) a ((a.f.2.1).el k oM) (lA 7 43 dS a (fun b13 _ _ a=>lP 0 0 (bg (ps.getD k au)) a (fun _ a=>aI (lL a [.m 21 5,.o 22 (az (ps.getD k au)) 0 0 9,.m 23 1] (ag 24 a (W (ps.getD k au) (ks.getD k bv) _ _ a.g ((a.f.1).at_ k oM) (Y k oM)) (fun _ ze a=>lI 25 ((sm:Nat)+((min (bp d (ks.getD k bv)) 1001:Nat):Int)) (lL a [.m 26 1] (lV 27 (iV ((min (fK (fun i=>bp d (ks.getD i bv)) (k+1)) 1001:Nat):Int)) ?_ (hr:=aK (n:=if (1001:Int)<((sm:Nat)+((min (bp d (ks.getD k bv)) 1001:Nat):Int)) then (1001:Int) else ((sm:Nat)+((min (bp d (ks.getD k bv)) 1001:Nat):Int))) kR (by split<;>omega))))))))));refine lL a [.m 5 27] (aI (lL a [.m 28 5,.m 29 1] ?_));cases zb:((((min (fK (fun i=>bp d (ks.getD i bv)) (k+1)) 1001:Nat):Int):Int) == (1001:Int))
  ·
   have zd:=ae zb;refine lB 30 zb (af (cK (kQ (bD 32 ((k:Nat)+1) (k+1) ?_))));refine lL a [.m 17 32] (lD ?_);intro a_ ka;replace a:=a.drop 1 0;refine ⟨_,_,?_,⟨k+1,(min (fK (fun i=>bp d (ks.getD i bv)) (k+1)) 1001),ze,rfl,rfl,a.to _ _,oM,rfl⟩,ka.to _ kR⟩
   omega
  have zd:=ML zb;exact lB 30 zb (ak (aa a [.m 31 1,.m 4 31] (ac a [] (iV 1001) (congrArg (Lp .i64) (by have M:=uj (fun i=>bp d (ks.getD i bv)) (show k+1≤ks.length by omega);have O:=qw (d:=d) (op:=op) (n:=n) (q:=q) (s:=s) (ks:=ks) oM;omega)))))
 have C:=ML l;exact lB 11 l (ak (aa a [.m 12 1,.v 13 (iV 1),.m 4 13] (ac a [] (iV 1) (congrArg (Lp .i64) (by rw[ml oM];first|rfl|omega)))))
theorem oZ (ok:ByteArray→Prop):∀ (d:Nat) (p:PTm) (t:Tm) (w:World) (h:Hp),G w h→TmH d h p t→WfT ok d t →  Calls Tryz.prog 49 #[az p,iV 1001] w (Ret w h (fun v _=>v=iV ((min (bp d t) 1001:Nat):Int)))
  | 0,_,_,_,_,_,x,_=>x.elim
  | d + 1,p,t,w,h,g,x,wf=>by
    obtain ⟨op,n,q,s,A,c,ps,ks,rfl,rfl,k,o,a⟩:=x.open;obtain ⟨w1,w2,w3,f,l,i,j,e,u⟩:=wf
    have b:ps.length≤2:=by
      have e1:d8 op=ks.length:=w1;have:=aE op;have:=a.len
      omega
    exact xL ok d (fun p t w h=>oZ ok d p t w h) op n q s A c ps ks k b w1 w2 w3 f l i j e u w h g o a
structure PLt where
  s:ByteArray
  q:Rat
def ca:PLt:=⟨⟨#[]⟩,0⟩
def pd (p:PLt):List Value:=[.string p.s,.bool (ai p.q.num),.int .u64 (lo (ab p.q.num)),.string (hi (ab p.q.num)),.int .u64 (lo (qd p.q)),.string (hi (qd p.q))]
structure RLt where
  s:ByteArray
  neg:Bool
  zA:Option Addr
  zn:Nat
  zc:Nat
  dA:Option Addr
  dn:Nat
  dc:Nat
def RLt.t (r:RLt):RT:=(r.neg,.slice r.zA r.zn r.zc,.slice r.dA r.dn r.dc)
def dz:RLt:=⟨⟨#[]⟩,false,none,0,0,none,0,0⟩
def qu (r:RLt):List Value:=[.string r.s,.bool r.neg,.slice r.zA r.zn r.zc,.slice r.dA r.dn r.dc]
structure RLs (h:Hp) (rs:List RLt) (ps:List PLt):Prop where
  len:rs.length=ps.length
  at_:∀ i,i<ps.length→(rs.getD i dz).s=(ps.getD i ca).s∧RZ h (rs.getD i dz).t (ps.getD i ca).q
theorem RLs.gw {h h':Hp}{a:List RLt}{ps:List PLt}(x:RLs h a ps)(u:Gw h h'):RLs h' a ps:=⟨x.len,fun i hi=>⟨(x.at_ i hi).1,(x.at_ i hi).2.gw u⟩⟩
theorem RLs.nil {h:Hp}:RLs h [] []:=⟨rfl,fun i hi=>by simp at hi⟩
theorem RLs.snoc {h:Hp}{a:List RLt}{ps:List PLt}{r:RLt}{p:PLt}(x:RLs h a ps)(b:r.s=p.s)(hz:RZ h r.t p.q):RLs h (a++[r]) (ps++[p]):=by
 refine ⟨by simp[x.len],fun i hi=>?_⟩;rw[zY,Mf] at hi
 rw[cO,cO,x.len]
 by_cases e:i<ps.length
 ·rw[MN e,MN e];exact x.at_ i e
 ·rw[MM e,MM e,MN oM,MN oM];exact ⟨b,hz⟩
def uq:List PLt→ByteArray→Option Rat
  | [],_=>none
  | x::l,s=>if x.s=s then some x.q else uq l s
theorem pV {s:ByteArray}:∀ {l:List PLt} {k:Nat},(∀ i,i<k→(l.getD i ca).s≠s)→k<l.length→(l.getD k ca).s=s→uq l s=some (l.getD k ca).q
  | x::l,0,_,_,h=>MN h
  | x::l,k+1,h,hk,e=>by
    show (if x.s=s then _ else _)=_
    rw[MM (show ¬x.s=s from h 0 (K9 _))];exact pV (l:=l) (k:=k) (fun i hi=>h (i+1) oM) (by simpa using hk) e
theorem pZ {s:ByteArray}:∀ {l:List PLt},(∀ i,i<l.length→(l.getD i ca).s≠s)→uq l s=none
  | [],_=>rfl
  | x::l,h=>by
    show (if x.s=s then _ else _)=_
    rw[MM (show ¬x.s=s from h 0 (K9 _))];exact pZ (fun i hi=>h (i+1) (by simpa using hi))
theorem wo {s:ByteArray}{q:Rat}{B:Nat}:∀ {l:List PLt},(∀ i,LQ B (l.getD i ca).q)→uq l s=some q→LQ B q
  | x::l,h,e=>by
    unfold uq at e
    split at e
    · injection e with e;rw[←e];exact h 0
    · exact wo (fun i=>h (i+1)) e
def mP (op n:Int)(q:Rat)(e1 e2:Int)(a b:Rat):Int × Rat :=
  if e1≠0 then (e1,0) else if e2≠0 then (e2,0) else if i5 op n a b then (0,mB op n q a b) else (6,0)
def aF (L:List PLt):Nat→Tm→Int × Rat
  | 0,_=>(0,0)
  | d + 1,t =>
    if t.op=2 then (match uq L t.s with|some q=>(0,q)|none=>(11,0))
    else
      let x:=if 0<t.ks.length then aF L d (t.ks.getD 0 bv) else (0,0)
      let y:=if 1<t.ks.length then aF L d (t.ks.getD 1 bv) else (0,0)
      mP t.op t.n t.q x.1 y.1 x.2 y.2
theorem l7 {L:List PLt}{d:Nat}{op n:Int}{q:Rat}{s:ByteArray}{ks:List Tm}{v:Rat}(h:op=2)(e:uq L s=some v):aF L (d+1) (.mk op n q s ks)=(0,v):=by
 show (if op=2 then (match uq L s with|some q=>((0:Int),q)|none=>(11,0)) else _)=_;rw[MN h,e]
theorem k7 {L:List PLt}{d:Nat}{op n:Int}{q:Rat}{s:ByteArray}{ks:List Tm}(h:op=2)(e:uq L s=none):aF L (d+1) (.mk op n q s ks)=(11,0):=by
 show (if op=2 then (match uq L s with|some q=>((0:Int),q)|none=>(11,0)) else _)=_;rw[MN h,e]
theorem md {L:List PLt}{d:Nat}{op n:Int}{q:Rat}{s:ByteArray}(h:op≠2):aF L (d+1) (.mk op n q s [])=mP op n q 0 0 0 0:=MM h
theorem fJ {L:List PLt}{d:Nat}{op n:Int}{q:Rat}{s:ByteArray}{a:Tm}(h:op≠2):aF L (d+1) (.mk op n q s [a])=mP op n q (aF L d a).1 0 (aF L d a).2 0:=MM h
theorem fw {L:List PLt}{d:Nat}{op n:Int}{q:Rat}{s:ByteArray}{b a:Tm}(h:op≠2):aF L (d+1) (.mk op n q s [b,a])=mP op n q (aF L d b).1 (aF L d a).1 (aF L d b).2 (aF L d a).2:=MM h
section
variable {op n:Int} {q a b:Rat} {e1 e2:Int}
theorem qz (h:e1≠0):mP op n q e1 e2 a b=(e1,0):=MN h
theorem Do (h1:e1=0)(h:e2≠0):mP op n q e1 e2 a b=(e2,0):=by unfold mP;rw[MM oM,MN h]
theorem gn (h1:e1=0)(c:e2=0)(h:i5 op n a b):mP op n q e1 e2 a b=(0,gC op n q a b):=by unfold mP gC;rw[MM oM,MM oM,MN h,MN h]
theorem od (h1:e1=0)(c:e2=0)(h:¬i5 op n a b):mP op n q e1 e2 a b=(6,0):=by unfold mP;rw[MM oM,MM oM,MM h]
end
theorem ol {a:Rat}:fB a 1=a:=by
 have h1:((1:Int):Rat)=1:=rfl
 show ((1:Int):Rat)*a=a
 rw[h1];grind
theorem AW {a:Rat}{K:Nat}{n:Int}(f:1≤K)(h:LQ K a):LQ (cd n*(K+2)-2) (fB a n):=by
  unfold cd
  by_cases h1:n.natAbs≤1
  · rw[MN h1]
    have c:n=0∨n=1∨n = -1:=by omega
    rcases c with rfl|rfl|rfl
    · exact (LQ.lit (z:=1) kD).mono oM
    · rw[ol];exact h.mono oM
    · have e:fB a (-1)=a⁻¹:=by
        have h1:((1:Int):Rat)=1:=rfl
        show ((1:Int):Rat)/(((1:Int):Rat)*a)=a⁻¹
        rw[h1];rw[Rat.one_mul,Rat.div_def,Rat.one_mul]
      rw[e];exact h.inv.mono oM
  · rw[MM h1]
    have b:=it h n.natAbs;have d:n.natAbs*(K+2)=n.natAbs*K+n.natAbs*2:=Nat.mul_add _ _ _
    unfold fB
    split
    · exact b.mono oM
    · exact ((LQ.lit (z:=1) kD).div b).mono oM
theorem n5 {op n:Int}{q a b:Rat}{e1 e2:Int}{wa wb c:Nat}(B:3≤c)(l:1≤wa)(ha:LQ (c*wa-2) a)(f:1≤wb→LQ (c*wb-2) b)(d:d8 op=2→1≤wb)(o:LQ 1 q)(y:3≤op∧op≤13) :
    LQ (c*(f9 op n*(wa+wb))-2) (mP op n q e1 e2 a b).2:=by
  obtain ⟨M,hM⟩:∃ M,M=f9 op n*(wa+wb):=⟨_,rfl⟩;have w1:=cV op n;have k:wa+wb≤f9 op n*(wa+wb):=Ls _ w1;rw[←hM] at k ⊢
  have h0:LQ 1 (0:Rat):=LQ.lit (z:=0) kD;have C:=l;have D:c*(wa+wb)≤c*M:=Ke _ k;have m2:c*(wa+wb)=c*wa+c*wb:=Nat.mul_add _ _ _;have u:c≤c*wa:=Mn _ l;have hz:LQ (c*M-2) (0:Rat):=h0.mono oM
  suffices h:LQ (c*M-2) (mB op n q a b) by
    unfold mP
    split
    · exact hz
    · split
      · exact hz
      · split
        · exact h
        · exact hz
  unfold mB
  split
  · exact o.mono oM
  split
  · rename_i h;have w2:=d (by rw[h];rfl);have i:c≤c*wb:=Mn _ w2;exact (ha.add (f w2)).mono oM
  split
  · rename_i h;have w2:=d (by rw[h];rfl);have i:c≤c*wb:=Mn _ w2;exact (ha.sub (f w2)).mono oM
  split
  · rename_i h;have w2:=d (by rw[h];rfl);have i:c≤c*wb:=Mn _ w2;exact (ha.mul (f w2)).mono oM
  split
  · rename_i h;have w2:=d (by rw[h];rfl);have i:c≤c*wb:=Mn _ w2;exact (ha.div (f w2)).mono oM
  split
  · exact ha.neg.mono oM
  split
  · rename_i p
    have e:f9 op n=cd n:=by unfold f9;rw[MM oM,MN p]
    have d:=AW (n:=n) oM ha
    have e2:cd n*(c*wa-2+2)≤c*(cd n*(wa+wb)):=by
      rw[show c*wa-2+2=c*wa by omega,Mp];exact Ke _ (Ke _ (Mh _ _))
    rw[e] at hM
    rw[←hM] at e2
    exact d.mono (Nat.sub_le_sub_right e2 2)
  split
  · exact ha.abs.mono oM
  split
  · exact (LQ.maxR ha (h0.mono (by omega:1≤c*wa-2))).mono oM
  split
  · rename_i j
    have e:f9 op n=2:=by unfold f9;rw[MN j]
    rw[e] at hM
    have x:c*M=2*(c*(wa+wb)):=by rw[hM,Mp]
    exact (ha.div (ha.abs.add (LQ.lit (z:=1) kD))).mono oM
  split
  · rename_i h;have w2:=d (by rw[h];rfl);have i:c≤c*wb:=Mn _ w2
    unfold maxR;split
    · exact (f w2).mono oM
    · exact ha.mono oM
  · have w2 := d (by have:op=13:=by omega
                     rw[this];rfl)
    have i:c≤c*wb:=Mn _ w2
    unfold lw;split
    · exact (f w2).mono oM
    · exact ha.mono oM
theorem jj {ks:List Tm}{op:Int}(h:d8 op=ks.length):ks=[]∨(∃ t,ks=[t])∨∃ t u,ks=[t,u]:=by
 have:=aE op
 rcases ks with _|⟨t,_|⟨u,_|⟨v,l⟩⟩⟩
 ·exact .inl rfl
 ·exact .inr (.inl ⟨t,rfl⟩)
 ·exact .inr (.inr ⟨t,u,rfl⟩)
 ·simp only[un] at h;omega
theorem nx {ok:ByteArray→Prop}{L:List PLt}{c:Nat}(f:3002≤c)(l:∀ i,LQ (c-2) (L.getD i ca).q):∀ {d:Nat} {t:Tm},WfT ok d t→1≤bp d t∧LQ (c*bp d t-2) (aF L d t).2
  | d + 1,.mk op n q s ks,⟨h1,h2,o,h4,h5,h6,h7,h8,h9⟩=>by
    have h0:LQ 1 (0:Rat):=LQ.lit (z:=0) kD;have x:=aE op;replace h1:d8 op=(ks.length:Nat):=h1;replace o:LQ 3000 q:=o;have k:op≠1→LQ 1 q:=fun h=>(show q=0 from h2 h)▸h0
    rcases jj h1 with rfl|⟨t,rfl⟩|⟨t,u,rfl⟩
    · have e:bp (d+1) (.mk op n q s [])=1:=ml rfl
      rw[e,Nat.mul_one];refine ⟨ey _,?_⟩
      by_cases o2:op=2
      · cases e2:uq L s with
        | none=>rw[k7 o2 e2];exact h0.mono oM
        | some v=>rw[l7 o2 e2];exact (wo l e2).mono oM
      · have p:op=1:=by simp only[Mq] at h1;omega
        rw[md o2];unfold mP;rw[MM kD,MM kD]
        split
        · show LQ _ (mB op n q 0 0);rw[p];exact o.mono oM
        · exact h0.mono oM
    · have a:=nx f l (h9 0 (K9 _))
      obtain ⟨a,b⟩:=a;replace a:1≤bp d t:=a;replace b:LQ (c*bp d t-2) (aF L d t).2:=b
      simp only[un,Mq] at h1
      have e:bp (d+1) (.mk op n q s [t])=f9 op n*(bp d t+0):=by rw[je (show [t].length≠0 from Mr _)];show _*(0+bp d t)=_;rw[z6,Nat.add_zero]
      rw[e,fJ oM];have w1:=cV op n;exact ⟨ez a (Ls _ w1),n5 oM a b (fun h=>MO h kD) oM (k oM) oM⟩
    · have a:=nx f l (h9 0 (K9 _))
      have j:=nx f l (h9 1 (by show 1<2;decide));obtain ⟨a,b⟩:=a;obtain ⟨j,j2⟩:=j;replace a:1≤bp d t:=a;replace b:LQ (c*bp d t-2) (aF L d t).2:=b;replace j:1≤bp d u:=j;replace j2:LQ (c*bp d u-2) (aF L d u).2:=j2
      simp only[un,Mq] at h1
      have e:bp (d+1) (.mk op n q s [t,u])=f9 op n*(bp d t+bp d u):=by rw[je (show [t,u].length≠0 from Mr _)];show _*(0+bp d t+bp d u)=_;rw[z6]
      rw[e,fw oM];have w1:=cV op n;exact ⟨ez oM (Ls _ w1),n5 oM a b (fun _=>j2) (fun _=>j) (k oM) oM⟩
theorem kW {d m:Nat}{op n:Int}{q:Rat}{s:ByteArray}{a:Tm}(h:bp (d+1) (.mk op n q s [a])≤m):bp d a≤m:=by
 have b:=qw (d:=d) (op:=op) (n:=n) (q:=q) (s:=s) (ks:=[a]) (Mr _);have e:fK (fun i=>bp d (([a]:List Tm).getD i bv)) ([a]:List Tm).length=0+bp d a:=rfl
 omega
theorem mh {d m:Nat}{op n:Int}{q:Rat}{s:ByteArray}{b a:Tm}(h:bp (d+1) (.mk op n q s [b,a])≤m):bp d b≤m∧bp d a≤m:=by
 have c:=qw (d:=d) (op:=op) (n:=n) (q:=q) (s:=s) (ks:=[b,a]) (Mr _);have e:fK (fun i=>bp d (([b,a]:List Tm).getD i bv)) ([b,a]:List Tm).length=0+bp d b+bp d a:=rfl
 omega
theorem kJ {α:Type}:∀ {l:List α},l.length=2→∃ a b,l=[a,b]
 | [a,b],_=>⟨a,b,rfl⟩
 | [],h=>by simp only[Mq] at h;omega
 | [_],h=>by simp only[un,Mq] at h;omega
 | _::_::_::_,h=>by simp only[un] at h;omega
theorem iX {ok:ByteArray→Prop}{L:List PLt}{c:Nat}(a:3002≤c)(b:∀ i,LQ (c-2) (L.getD i ca).q){d:Nat}{t:Tm}(h:WfT ok d t)(e:bp d t≤1000):LQ (c*1000) (aF L d t).2 :=
 (nx a b h).2.mono (ez (Nat.sub_le _ _) (Ke _ e))
def EvR (ok:ByteArray→Prop)(L:List PLt)(d:Nat)(t:Tm)(e:Int)(x:Rat):Prop :=
  (WfT ok d t∧bp d t≤1000∧e=(aF L d t).1∧x=(aF L d t).2)∨(¬(WfT ok d t∧bp d t≤1000)∧e=1∧x=0)
theorem EvR.lq {ok:ByteArray→Prop}{L:List PLt}{c:Nat}(b:3002≤c){d:Nat}{t:Tm}{e:Int}{x:Rat}(f:∀ i,LQ (c-2) (L.getD i ca).q)(a:EvR ok L d t e x):LQ (c*1000) x:=by
 rcases a with ⟨a1,a2,rfl,rfl⟩|⟨a1,rfl,rfl⟩
 ·exact iX b f a1 a2
 ·exact (LQ.lit (z:=0) kD).mono oM
theorem f7 {ok:ByteArray→Prop}{d:Nat}{t:Tm}{e:Int}(h:(WfT ok d t∧e=(if 1000<bp d t then 18 else 0))∨(¬WfT ok d t∧e=2))(h0:e=0):WfT ok d t∧bp d t≤1000:=by
 rcases h with ⟨h1,h2⟩|⟨h1,h2⟩
 ·refine ⟨h1,?_⟩;split at h2<;>omega
 ·omega
theorem qe {ok:ByteArray→Prop}{d:Nat}{t:Tm}{e:Int}(h:(WfT ok d t∧e=(if 1000<bp d t then 18 else 0))∨(¬WfT ok d t∧e=2))(h0:e≠0):¬(WfT ok d t∧bp d t≤1000):=by
 rcases h with ⟨h1,h2⟩|⟨h1,h2⟩
 ·intro a;rw[MM oM] at h2;exact h0 h2
 ·exact fun a=>h1 a.1
theorem xB:∀ b:Bool,b=false∨b=true
 | false=>.inl rfl
 | true=>.inr rfl
section
variable {sm:Bool} {inp:Int} {l:List Stp} {os:List Int} {at_:List Rat}
end
def tr (nm:Int→ByteArray)(l:List Stp)(i:Nat):Tm:=F4 nm l (l.length+1) i
structure DpS (dp:Nat→Nat) (l:List Stp):Prop where
  one:∀ k,k<l.length→1≤dp k
  le:∀ k,k<l.length→dp k≤20
  a:∀ k,k<l.length→0<d8 (l.getD k ew).op→dp (l.getD k ew).a.toNat<dp k
  b:∀ k,k<l.length→1<d8 (l.getD k ew).op→dp (l.getD k ew).b.toNat<dp k
section
variable {nm:Int→ByteArray} {l:List Stp} {inp:Int} {dp:Nat→Nat}
end
section
variable {nm:Int→ByteArray} {l:List Stp} {inp:Int} {h:Hp} {k:Nat} {dp:Nat→Nat}
variable (hdp:DpS dp l) (hF:∀ k,k<l.length→iP inp k (l.getD k ew)) (hq0:∀ k,k<l.length→(l.getD k ew).op≠1→(l.getD k ew).q=0)
include hdp hF hq0
end
section
variable {dp:Nat→Nat} {inp:Int} {l:List Stp} {os:List Int} {out:Int} {nn:Nat} {e0:Int} {nm:Int→ByteArray}
end
theorem uw  (isb:ByteArray→Bool)(sm:ByteArray→Prop)(j:∀ s,sm s→∀ (w:World) (h:Hp),G w h→Calls Tryz.prog 79 #[.string s] w (Ret w h (fun v _=>∃ b,v=.bool b∧b=isb s)))(d:Nat)(p:PTm)(t:Tm)(F:d≤24)(w:World)(h:Hp)(g:G w h)(l:TmH d h p t)(k:iF sm d t):CR 20 #[az p] w h (fun v _=>∃ e:Int,v=iV e∧((WfT (fun s=>isb s=true) d t∧e=(if 1000<bp d t then 18 else 0))∨(¬WfT (fun s=>isb s=true) d t∧e=2))):=by
 have a:=((sS g).add (K:=fun i=>TmH d i p t) l);refine go Tryz.func20 [(0,az p)] rfl (av (lA 1 43 (bg p) a (fun C w2 D a=>lL a [.v 2 (iV 0)] (ah (aa a [.o 3 (az p) 0 0 9] (ag 4 a (sb sm d p t 24 _ _ a.g a.f.1 k oM oM) (fun x y a=>af (cK (cQ (aa a [.o 5 (az p) 0 0 9] (lC 6 a (oI isb sm j d p t _ _ a.g a.f.1 k) ?_)))))))))));rintro _ z B a ⟨bf,rfl,c⟩;cases u:(bf)
 ·
  exact lL a [.v 7 qT] (ak (aa a [.v 2 (iV 2)] (ac a [] (iV 2) (⟨_,rfl,.inr ⟨fun i=>Mj ((c.2 i).symm.trans aM),rfl⟩⟩))))
 refine lL a [.v 7 qF] (af (cK (cQ (aa a [.o 8 (az p) 0 0 9] (ag 9 a (oZ (fun s=>isb s=true) d p t _ _ a.g a.f.1 (c.1 aM)) (fun H _ a=>?_))))));cases za:(decide ((1000:Int)<(((min (bp d t) 1001:Nat):Int):Int)))
 ·
  have zb:=oF za;exact lB 10 za (af (cK (aa a [.v 2 (iV 0)] (ac a [] (iV 0) (⟨_,rfl,.inl ⟨c.1 aM,by split<;>omega⟩⟩)))))
 have zb:=oT za;exact lB 10 za (ak (aa a [.v 2 (iV 18)] (ac a [] (iV 18) (⟨_,rfl,.inl ⟨c.1 aM,by split<;>omega⟩⟩))))
theorem sf (isb:ByteArray→Bool)(sm:ByteArray→Prop)(c:∀ s,sm s→∀ (w:World) (h:Hp),G w h→Calls Tryz.prog 79 #[.string s] w (Ret w h (fun v _=>∃ b,v=.bool b∧b=isb s)))(f:∀ s,isb s=true→sm s)(h0:sm ⟨#[]⟩)(d:Nat)(p:PTm)(t:Tm)(k:d≤24)(w:World)(h:Hp)(g:G w h)(j:TmH d h p t)(i:WfT (fun s=>isb s=true) d t):Calls Tryz.prog 20 #[az p] w (Ret w h (fun v _=>v=iV (if 1000<bp d t then 18 else 0))) :=
 (uw isb sm c d p t k w h g j (i.sm f h0)).mono fun e w' ⟨v,h',e1,u,e2,l,a⟩=>⟨v,h',e1,u,by
  rcases a with ⟨_,a⟩|⟨a,_⟩
  ·rw[l,a]
  ·exact MO i a⟩
theorem Cg (a:Rat)(n:Int)(K:Nat)(W:14*K+20≤100000000)(ha:LQ K a)(O : -13≤n∧n≤13)(b:0≤n)(w:World)(h:Hp)(g:G w h)(F:Tab h):CV 115 #[qv a,iV n] w h (.tuple #[qv (fB a n),.bool true]):=by
 have b:=((sS g).aB F);obtain ⟨m,hm⟩:∃ m:Nat,m=n.natAbs:=⟨_,rfl⟩;have u:m≤13:=by omega
 refine go Tryz.func115 [(0,qv a),(1,iV n)] rfl (av (lA 2 40 (qc a) b (fun y w2 S b=>lA 4 40 da b (fun z U L b=>lL b [.v 5 qF] (aI (ag 7 b (C5 1 oM oM _ _ b.g) (fun Q X b=>lA 6 40 da b (fun x _ C b=>lP 0 0 (qc ((1:Int):Rat)) b (fun _ b=>ah (aa b [.m 8 1,.m 9 1] (lI 10 (0-n) ?_)))))))))));refine lV 11 (iV (max (n:Int) (0-n:Int))) ?_ (hr:=aK (n:=(if (0-n:Int)>(n:Int) then (0-n:Int) else (n:Int))) kR (by simp only[qU]));refine lL b [.v 12 (iV 0)] (a8 ?_);refine bH _ (CG.loop (fun d Γ H=>∃ (k:Nat) (e:Hp),d=m-k∧Γ=[(1,iV n),(2,pB y),(4,pB z),(5,qF),(6,pB x),(11,iV (max (n:Int) (0-n:Int))),(12,nV k)]∧SS w h H e [⟨x,40,qc (cl a k)⟩,⟨z,40,[qF,uV 0,eS,uV 0,eS]⟩,⟨y,40,qc a⟩] [] [fun e=>Tab e]∧k≤m) _ ⟨0,C,rfl,rfl,b.to _ _,K7 _⟩ ?_);rintro _ _ _ ⟨k,_,j,rfl,b,V⟩;have J:k*K≤13*K:=z7 _ oM;have c:=it ha k;refine av ?_;cases za:(decide ((k:Int)<(max (n:Int) (0-n:Int):Int)))
 ·
  have zb:=oF za;refine lB 13 za (ah (cv (CG.exit ?_)))
  show CG _ _ _ _ _ _ _ _
  refine cQ (aa b [.m 18 1] ?_);have ⟨B,i⟩:=dT (p:=(0:Int)≤(n:Int)) oM;exact lB 19 B (ak (aa b [.o 20 (qv (cl a k)) 0 0 5] (lP 1 0 (qc (cl a k)) b (fun _ b=>lL b [.v 5 qT] (ac b [(1,0,5)] (.tuple #[qv (cl a k),qT]) (by unfold fB;rw[MN oM,show n.natAbs=k by omega]))))))
 have zb:=oT za;refine lB 13 za (ah (ce (cK (cQ (kZ (kQ (lL b [.o 14 (qv (cl a k)) 0 0 5,.o 15 (qv a) 2 0 5] ?_)))))));have l:=LQ.mul c ha;refine ag 16 b (wT (cl a k) a (LQ.mono c oM) (LQ.mono ha oM) _ _ b.g b.f.1) (fun _ I b=>lP 0 0 (qc ((cl a k)*a)) b (fun _ b=>lN (kQ (bD 17 ((k:Nat)+1) (k+1) ?_))));refine lL b [.m 12 17] (lD ?_);intro M D;refine ⟨_,_,?_,⟨k+1,I,rfl,rfl,b.to _ _,oM⟩,D.to _ kR⟩
 omega
theorem Bv (a:Rat)(n:Int)(K:Nat)(Z:14*K+20≤100000000)(ha:LQ K a)(U : -13≤n∧n≤13)(b:n<0)(d:a≠0)(w:World)(h:Hp)(g:G w h)(J:Tab h):CV 115 #[qv a,iV n] w h (.tuple #[qv (fB a n),.bool true]):=by
 have b:=((sS g).aB J);obtain ⟨m,hm⟩:∃ m:Nat,m=n.natAbs:=⟨_,rfl⟩;have x:m≤13:=by omega
 refine go Tryz.func115 [(0,qv a),(1,iV n)] rfl (av (lA 2 40 (qc a) b (fun C w2 W b=>lA 4 40 da b (fun D X Q b=>lL b [.v 5 qF] (aI (ag 7 b (C5 1 oM oM _ _ b.g) (fun V h8 b=>lA 6 40 da b (fun y _ H b=>lP 0 0 (qc ((1:Int):Rat)) b (fun _ b=>ah (aa b [.m 8 1,.m 9 1] (lI 10 (0-n) ?_)))))))))));refine lV 11 (iV (max (n:Int) (0-n:Int))) ?_ (hr:=aK (n:=(if (0-n:Int)>(n:Int) then (0-n:Int) else (n:Int))) kR (by simp only[qU]));refine lL b [.v 12 (iV 0)] (a8 ?_);refine bH _ (CG.loop (fun e Γ L=>∃ (k:Nat) (i:Hp),e=m-k∧Γ=[(1,iV n),(2,pB C),(4,pB D),(5,qF),(6,pB y),(11,iV (max (n:Int) (0-n:Int))),(12,nV k)]∧SS w h L i [⟨y,40,qc (cl a k)⟩,⟨D,40,[qF,uV 0,eS,uV 0,eS]⟩,⟨C,40,qc a⟩] [] [fun i=>Tab i]∧k≤m) _ ⟨0,H,rfl,rfl,b.to _ _,K7 _⟩ ?_);rintro _ _ _ ⟨k,_,l,rfl,b,Y⟩;have O:k*K≤13*K:=z7 _ oM;have c:=it ha k;refine av ?_;cases za:(decide ((k:Int)<(max (n:Int) (0-n:Int):Int)))
 ·
  have zb:=oF za;refine lB 13 za (ah (cv (CG.exit ?_)))
  show CG _ _ _ _ _ _ _ _
  refine cQ (aa b [.m 18 1] ?_);have ⟨F,j⟩:=dF (p:=(0:Int)≤(n:Int)) oM;refine lB 19 F (af (cK (cQ (cR 5 [] mixed b ar ?_))));refine eO 1 22 [(0,0,5)] (qv (cl a k)) b (aq 0 21 b (fun _ _ b=>C5 1 oM oM _ _ b.g) (fun _ _ b=>?_));have u:=LQ.div (LQ.lit (z:=1) kD) c;exact aq 2 23 b (fun _ _ b=>vh ((1:Int):Rat) (cl a k) (LQ.mono (LQ.lit (z:=1) kD) oM) (LQ.mono c oM) (np (n3 d k)) _ _ b.g b.f.1) (fun _ _ b=>eV 3 24 (qv (((1:Int):Rat)/(cl a k))) (eV 4 25 qT (ck b (fun _ _ b=>tP 5 1 0 (qc (((1:Int):Rat)/(cl a k))) b (fun _ b=>tV 6 5 qT (tN (kX (b.ret [(1,0,5)] (.tuple #[qv (((1:Int):Rat)/(cl a k)),qT]) (by unfold fB;rw[MM oM,show n.natAbs=k by omega])))))))))
 have zb:=oT za;refine lB 13 za (ah (ce (cK (cQ (kZ (kQ (lL b [.o 14 (qv (cl a k)) 0 0 5,.o 15 (qv a) 2 0 5] ?_)))))));have B:=LQ.mul c ha;refine ag 16 b (wT (cl a k) a (LQ.mono c oM) (LQ.mono ha oM) _ _ b.g b.f.1) (fun _ M b=>lP 0 0 (qc ((cl a k)*a)) b (fun _ b=>lN (kQ (bD 17 ((k:Nat)+1) (k+1) ?_))));refine lL b [.m 12 17] (lD ?_);intro S I;refine ⟨_,_,?_,⟨k+1,M,rfl,rfl,b.to _ _,oM⟩,I.to _ kR⟩
 omega
theorem Aw (a:Rat)(n:Int)(K:Nat)(X:14*K+20≤100000000)(ha:LQ K a)(Q : -13≤n∧n≤13)(b:n<0)(d:a=0)(w:World)(h:Hp)(g:G w h)(H:Tab h):CV 115 #[qv a,iV n] w h (.tuple #[qv 0,.bool false]):=by
 have b:=((sS g).aB H);obtain ⟨m,hm⟩:∃ m:Nat,m=n.natAbs:=⟨_,rfl⟩;have x:m≤13:=by omega
 refine go Tryz.func115 [(0,qv a),(1,iV n)] rfl (av (lA 2 40 (qc a) b (fun z w2 U b=>lA 4 40 da b (fun B V M b=>lL b [.v 5 qF] (aI (ag 7 b (C5 1 oM oM _ _ b.g) (fun S Y b=>lA 6 40 da b (fun y _ D b=>lP 0 0 (qc ((1:Int):Rat)) b (fun _ b=>ah (aa b [.m 8 1,.m 9 1] (lI 10 (0-n) ?_)))))))))));refine lV 11 (iV (max (n:Int) (0-n:Int))) ?_ (hr:=aK (n:=(if (0-n:Int)>(n:Int) then (0-n:Int) else (n:Int))) kR (by simp only[qU]));refine lL b [.v 12 (iV 0)] (a8 ?_);refine bH _ (CG.loop (fun e Γ I=>∃ (k:Nat) (i:Hp),e=m-k∧Γ=[(1,iV n),(2,pB z),(4,pB B),(5,qF),(6,pB y),(11,iV (max (n:Int) (0-n:Int))),(12,nV k)]∧SS w h I i [⟨y,40,qc (cl a k)⟩,⟨B,40,[qF,uV 0,eS,uV 0,eS]⟩,⟨z,40,qc a⟩] [] [fun i=>Tab i]∧k≤m) _ ⟨0,D,rfl,rfl,b.to _ _,K7 _⟩ ?_);rintro _ _ _ ⟨k,_,u,rfl,b,W⟩;have L:k*K≤13*K:=z7 _ oM;have c:=it ha k;refine av ?_;cases za:(decide ((k:Int)<(max (n:Int) (0-n:Int):Int)))
 ·
  have zb:=oF za;refine lB 13 za (ah (cv (CG.exit ?_)))
  show CG _ _ _ _ _ _ _ _
  refine cQ (aa b [.m 18 1] ?_);have ⟨C,j⟩:=dF (p:=(0:Int)≤(n:Int)) oM;refine lB 19 C (af (cK (cQ (cR 5 [] mixed b ar ?_))));exact eO 1 22 [(0,0,5)] (qv (cl a k)) b (aq 0 21 b (fun _ _ b=>C5 1 oM oM _ _ b.g) (fun _ _ b=>aq 2 23 b (fun _ _ b=>C6 ((1:Int):Rat) (cl a k) (by rw[d];exact ti oM) _ _ b.g) (fun _ _ b=>eV 3 24 (qv 0) (eV 4 25 qF (ck b (fun _ _ b=>tP 5 1 0 (qc 0) b (fun _ b=>tV 6 5 qF (tN (kX (b.ret [(1,0,5)] (.tuple #[qv 0,qF]) rfl))))))))))
 have zb:=oT za;refine lB 13 za (ah (ce (cK (cQ (kZ (kQ (lL b [.o 14 (qv (cl a k)) 0 0 5,.o 15 (qv a) 2 0 5] ?_)))))));have l:=LQ.mul c ha;refine ag 16 b (wT (cl a k) a (LQ.mono c oM) (LQ.mono ha oM) _ _ b.g b.f.1) (fun _ J b=>lP 0 0 (qc ((cl a k)*a)) b (fun _ b=>lN (kQ (bD 17 ((k:Nat)+1) (k+1) ?_))));refine lL b [.m 12 17] (lD ?_);intro O F;refine ⟨_,_,?_,⟨k+1,J,rfl,rfl,b.to _ _,oM⟩,F.to _ kR⟩
 omega
theorem Fv (a:Rat)(n:Int)(K:Nat)(c:14*K+20≤100000000)(ha:LQ K a)(b : -13≤n∧n≤13)(e:n<0→a≠0)(w:World)(h:Hp)(g:G w h)(d:Tab h):CV 115 #[qv a,iV n] w h (.tuple #[qv (fB a n),.bool true]):=by
 by_cases hs:0≤n
 ·exact Cg a n K c ha b hs w h g d
 ·exact Bv a n K c ha b oM (e oM) w h g d
theorem AK (s:PTm)(a b:Rat)(K:Nat)(hK:14*K+20≤100000000)(ha:LQ K a)(d:LQ K b)(hq:LQ 3000 s.q)(V:1≤K)(hop:1≤s.op∧s.op≤13∧s.op≠2)(hn:s.op=8 → -12≤s.n∧s.n≤12)(e:i5 s.op s.n a b)(w:World)(h:Hp)(g:G w h)(tb:Tab h):CV 66 #[az s,qv a,qv b] w h (.tuple #[qv (mB s.op s.n s.q a b),.bool true]):=by
 have c:=((sS g).aB tb);refine go Tryz.func66 [(0,az s),(1,qv a),(2,qv b)] rfl (av (lA 3 43 (bg s) c (fun D w2 h3 c=>lA 4 40 (qc a) c (fun b4 w5 h6 c=>lA 5 40 (qc b) c (fun b7 w8 h9 c=>lA 6 40 da c (fun U _ _ c=>lL c [.v 7 qF] (ah (aa c [.v 8 (pB D),.o 9 (iV s.op) 3 0 1] (a8 (av ?_))))))))));cases za:((s.op:Int) == (1:Int))
 ·
  have Y:=ae za;refine lB 11 za (lL c [.m 10 11] (af (av ?_)));cases zb:((s.op:Int) == (3:Int))
  ·
   have zq:=ae zb;refine lB 15 zb (lL c [.m 14 15] (af (av ?_)));cases i:((s.op:Int) == (4:Int))
   ·
    have zr:=ae i;refine lB 20 i (lL c [.m 19 20] (af (av ?_)));cases x:((s.op:Int) == (5:Int))
    ·
     have zs:=ae x;refine lB 25 x (lL c [.m 24 25] (af (av ?_)));cases C:((s.op:Int) == (6:Int))
     ·
      have zt:=ae C;refine lB 30 C (lL c [.m 29 30] (af (av ?_)));cases p:((s.op:Int) == (7:Int))
      ·
       have W:=ae p;refine lB 37 p (lL c [.m 36 37] (af (av ?_)));cases u:((s.op:Int) == (8:Int))
       ·
        have zv:=ae u;refine lB 41 u (lL c [.m 40 41] (af (av ?_)));cases B:((s.op:Int) == (9:Int))
        ·
         have zw:=ae B;refine lB 49 B (lL c [.m 48 49] (af (av ?_)));cases y:((s.op:Int) == (10:Int))
         ·
          have Z:=ae y;refine lB 53 y (lL c [.m 52 53] (af (av ?_)));cases l:((s.op:Int) == (11:Int))
          ·
           have zA:=ae l;refine lB 58 l (lL c [.m 57 58] (af (av ?_)));cases j:((s.op:Int) == (12:Int))
           ·
            have X:=ae j;refine lB 68 j (lL c [.m 67 68] (af (av ?_)));cases k:((s.op:Int) == (13:Int))
            ·
             have zD:=ae k;refine lB 73 k (lL c [.m 72 73] (af (cK (aa c [.v 77 eb] (lP 0 0 da c (fun _ c=>lL c [.v 7 qF] (lN (kX ?_))))))))
             exfalso;omega
            have zD:=ML k;exact lB 73 k (lL c [.m 72 73] (ak (aa c [.o 74 (qv a) 2 0 5,.o 75 (qv b) 1 0 5] (ag 76 c (Iy a b (LQ.mono ha oM) (LQ.mono d oM) _ _ c.g) (fun _ _ c=>lP 0 0 (qc (lw a b)) c (fun _ c=>lL c [.v 7 qT] (ac c [(0,0,5)] (.tuple #[qv (lw a b),qT]) (by rw[show s.op=13 by omega];rfl))))))))
           have X:=ML j;exact lB 68 j (lL c [.m 67 68] (ak (aa c [.o 69 (qv a) 2 0 5,.o 70 (qv b) 1 0 5] (ag 71 c (HC a b (LQ.mono ha oM) (LQ.mono d oM) _ _ c.g) (fun _ _ c=>lP 0 0 (qc (maxR a b)) c (fun _ c=>lL c [.v 7 qT] (ac c [(0,0,5)] (.tuple #[qv (maxR a b),qT]) (by rw[show s.op=12 by omega];rfl))))))))
          have zA:=ML l;refine lB 58 l (lL c [.m 57 58] (ak (cQ (cR 8 [] mixed c ar ?_))));refine eO 0 59 [(2,0,5)] (qv a) c (eO 1 60 [(2,0,5)] (qv a) c ?_);have M:LQ (K) (dw a):=LQ.abs ha;refine aq 2 61 c (fun _ _ c=>HW a (LQ.mono ha oM) _ _ c.g) (fun _ _ c=>aq 3 62 c (fun _ _ c=>C5 1 oM oM _ _ c.g) (fun _ _ c=>?_));have J:=LQ.add M (LQ.lit (z:=1) kD);refine aq 4 63 c (fun _ _ c=>Fn (dw a) ((1:Int):Rat) (LQ.mono M oM) (LQ.mono (LQ.lit (z:=1) kD) oM) _ _ c.g c.f.1) (fun _ _ c=>?_);have O:=LQ.div ha J;exact aq 5 64 c (fun _ _ c=>vh a ((dw a)+((1:Int):Rat)) (LQ.mono ha oM) (LQ.mono J oM) (pz a) _ _ c.g c.f.1) (fun _ _ c=>eV 6 65 (qv (a/((dw a)+((1:Int):Rat)))) (eV 7 66 qT (ck c (fun _ _ c=>tP 8 0 0 (qc (a/((dw a)+((1:Int):Rat)))) c (fun _ c=>tV 9 7 qT (tN (kX (c.ret [(0,0,5)] (.tuple #[qv (a/((dw a)+((1:Int):Rat))),qT]) (by rw[show s.op=11 by omega];rfl)))))))))
         have Z:=ML y;exact lB 53 y (lL c [.m 52 53] (ak (aa c [.o 54 (qv a) 2 0 5,.v 55 (qv 0)] (ag 56 c (HC a 0 (LQ.mono ha oM) (LQ.mono (LQ.lit (z:=0) kD) oM) _ _ c.g) (fun _ _ c=>lP 0 0 (qc (maxR a 0)) c (fun _ c=>lL c [.v 7 qT] (ac c [(0,0,5)] (.tuple #[qv (maxR a 0),qT]) (by rw[show s.op=10 by omega];rfl))))))))
        have zw:=ML B;refine lB 49 B (lL c [.m 48 49] (ak (aa c [.o 50 (qv a) 2 0 5] ?_)));have I:LQ (K) (dw a):=LQ.abs ha;exact ag 51 c (HW a (LQ.mono ha oM) _ _ c.g) (fun _ _ c=>lP 0 0 (qc (dw a)) c (fun _ c=>lL c [.v 7 qT] (ac c [(0,0,5)] (.tuple #[qv (dw a),qT]) (by rw[show s.op=9 by omega];rfl))))
       have zv:=ML u;exact lB 41 u (lL c [.m 40 41] (ak (aa c [.o 42 (qv a) 2 0 5,.v 43 (qP D 1),.o 44 (iV s.n) 3 1 1] (ag 45 c (Fv a s.n K hK ha (by have:=hn oM;omega) (e.2 oM) _ _ c.g c.f.1) (fun _ _ c=>lL c [.v 46 (qv (fB a s.n)),.v 47 qT] (lP 0 0 (qc (fB a s.n)) c (fun _ c=>lL c [.m 7 47] (ac c [(0,0,5)] (.tuple #[qv (fB a s.n),qT]) (by rw[show s.op=8 by omega];rfl)))))))))
      have W:=ML p;refine lB 37 p (lL c [.m 36 37] (ak (aa c [.o 38 (qv a) 2 0 5] ?_)));have F:LQ (K) (-a):=LQ.neg ha;exact ag 39 c (Hc a (LQ.mono ha oM) _ _ c.g) (fun _ _ c=>lP 0 0 (qc (-a)) c (fun _ c=>lL c [.v 7 qT] (ac c [(0,0,5)] (.tuple #[qv (-a),qT]) (by rw[show s.op=7 by omega];rfl))))
     have zt:=ML C;refine lB 30 C (lL c [.m 29 30] (ak (aa c [.o 31 (qv a) 2 0 5,.o 32 (qv b) 1 0 5] ?_)));have L:=LQ.div ha d;exact ag 33 c (vh a b (LQ.mono ha oM) (LQ.mono d oM) (np (e.1 oM)) _ _ c.g c.f.1) (fun _ _ c=>lL c [.v 34 (qv (a/b)),.v 35 qT] (lP 0 0 (qc (a/b)) c (fun _ c=>lL c [.m 7 35] (ac c [(0,0,5)] (.tuple #[qv (a/b),qT]) (by rw[show s.op=6 by omega];rfl)))))
    have zs:=ML x;refine lB 25 x (lL c [.m 24 25] (ak (aa c [.o 26 (qv a) 2 0 5,.o 27 (qv b) 1 0 5] ?_)));have Q:=LQ.mul ha d;exact ag 28 c (wT a b (LQ.mono ha oM) (LQ.mono d oM) _ _ c.g c.f.1) (fun _ _ c=>lP 0 0 (qc (a*b)) c (fun _ c=>lL c [.v 7 qT] (ac c [(0,0,5)] (.tuple #[qv (a*b),qT]) (by rw[show s.op=5 by omega];rfl))))
   have zr:=ML i;refine lB 20 i (lL c [.m 19 20] (ak (aa c [.o 21 (qv a) 2 0 5,.o 22 (qv b) 1 0 5] ?_)));have H:=LQ.sub ha d;exact ag 23 c (Is a b (LQ.mono ha oM) (LQ.mono d oM) _ _ c.g c.f.1) (fun _ _ c=>lP 0 0 (qc (a-b)) c (fun _ c=>lL c [.v 7 qT] (ac c [(0,0,5)] (.tuple #[qv (a-b),qT]) (by rw[show s.op=4 by omega];rfl))))
  have zq:=ML zb;refine lB 15 zb (lL c [.m 14 15] (ak (aa c [.o 16 (qv a) 2 0 5,.o 17 (qv b) 1 0 5] ?_)));have S:=LQ.add ha d;exact ag 18 c (Fn a b (LQ.mono ha oM) (LQ.mono d oM) _ _ c.g c.f.1) (fun _ _ c=>lP 0 0 (qc (a+b)) c (fun _ c=>lL c [.v 7 qT] (ac c [(0,0,5)] (.tuple #[qv (a+b),qT]) (by rw[show s.op=3 by omega];rfl))))
 have Y:=ML za;exact lB 11 za (lL c [.m 10 11] (ak (aa c [.v 12 (qP D 2),.o 13 (qv s.q) 3 2 5] (lP 0 0 (qc s.q) c (fun _ c=>lL c [.v 7 qT] (ac c [(0,0,5)] (.tuple #[qv s.q,qT]) (by rw[show s.op=1 by omega];rfl)))))))
theorem x9 (s:PTm)(a b:Rat)(K:Nat)(Q:14*K+20≤100000000)(ha:LQ K a)(L:LQ K b)(H:LQ 3000 s.q)(y:1≤K)(C:s.op=6)(i:b=0)(w:World)(h:Hp)(g:G w h)(B:Tab h):CV 66 #[az s,qv a,qv b] w h (.tuple #[qv 0,.bool false]):=by
 have c:=((sS g).aB B);refine go Tryz.func66 [(0,az s),(1,qv a),(2,qv b)] rfl (av (lA 3 43 (bg s) c (fun z w2 I c=>lA 4 40 (qc a) c (fun M J F c=>lA 5 40 (qc b) c (fun S D O c=>lA 6 40 da c (fun x _ _ c=>lL c [.v 7 qF] (ah (aa c [.v 8 (pB z),.o 9 (iV s.op) 3 0 1] (a8 (av ?_))))))))));have za:((s.op:Int) == (1:Int))=false:=bJ oM;have j:=ae za;refine lB 11 za (lL c [.m 10 11] (af (av ?_)));have zb:((s.op:Int) == (3:Int))=false:=bJ oM;have d:=ae zb;refine lB 15 zb (lL c [.m 14 15] (af (av ?_)));have l:((s.op:Int) == (4:Int))=false:=bJ oM;have e:=ae l;refine lB 20 l (lL c [.m 19 20] (af (av ?_)));have p:((s.op:Int) == (5:Int))=false:=bJ oM;have k:=ae p;refine lB 25 p (lL c [.m 24 25] (af (av ?_)));have u:((s.op:Int) == (6:Int))=true:=fg oM;have f:=ML u;exact lB 30 u (lL c [.m 29 30] (ak (aa c [.o 31 (qv a) 2 0 5,.o 32 (qv b) 1 0 5] (ag 33 c (C6 a b i _ _ c.g) (fun _ _ c=>lL c [.v 34 (qv 0),.v 35 qF] (lP 0 0 (qc 0) c (fun _ c=>lL c [.m 7 35] (ac c [(0,0,5)] (.tuple #[qv 0,qF]) rfl))))))))
theorem BC (s:PTm)(a b:Rat)(K:Nat)(L:14*K+20≤100000000)(ha:LQ K a)(W:LQ K b)(S:LQ 3000 s.q)(H:1≤K)(J:s.op=8)(Q : -12≤s.n∧s.n<0)(d:a=0)(w:World)(h:Hp)(g:G w h)(I:Tab h):CV 66 #[az s,qv a,qv b] w h (.tuple #[qv 0,.bool false]):=by
 have c:=((sS g).aB I);refine go Tryz.func66 [(0,az s),(1,qv a),(2,qv b)] rfl (av (lA 3 43 (bg s) c (fun y w2 U c=>lA 4 40 (qc a) c (fun X V O c=>lA 5 40 (qc b) c (fun Z M Y c=>lA 6 40 da c (fun F _ _ c=>lL c [.v 7 qF] (ah (aa c [.v 8 (pB y),.o 9 (iV s.op) 3 0 1] (a8 (av ?_))))))))));have za:((s.op:Int) == (1:Int))=false:=bJ oM;have l:=ae za;refine lB 11 za (lL c [.m 10 11] (af (av ?_)));have zb:((s.op:Int) == (3:Int))=false:=bJ oM;have e:=ae zb;refine lB 15 zb (lL c [.m 14 15] (af (av ?_)));have x:((s.op:Int) == (4:Int))=false:=bJ oM;have j:=ae x;refine lB 20 x (lL c [.m 19 20] (af (av ?_)));have B:((s.op:Int) == (5:Int))=false:=bJ oM;have u:=ae B;refine lB 25 B (lL c [.m 24 25] (af (av ?_)));have D:((s.op:Int) == (6:Int))=false:=bJ oM;have k:=ae D;refine lB 30 D (lL c [.m 29 30] (af (av ?_)));have z:((s.op:Int) == (7:Int))=false:=bJ oM;have i:=ae z;refine lB 37 z (lL c [.m 36 37] (af (av ?_)));have C:((s.op:Int) == (8:Int))=true:=fg oM;have p:=ML C;exact lB 41 C (lL c [.m 40 41] (ak (aa c [.o 42 (qv a) 2 0 5,.v 43 (qP y 1),.o 44 (iV s.n) 3 1 1] (ag 45 c (Aw a s.n K L ha oM oM d _ _ c.g c.f.1) (fun _ _ c=>lL c [.v 46 (qv 0),.v 47 qF] (lP 0 0 (qc 0) c (fun _ c=>lL c [.m 7 47] (ac c [(0,0,5)] (.tuple #[qv 0,qF]) rfl))))))))
theorem qg (s:PTm)(a b:Rat)(K:Nat)(f:14*K+20≤100000000)(ha:LQ K a)(d:LQ K b)(j:LQ 3000 s.q)(c:1≤K)(e:1≤s.op∧s.op≤13∧s.op≠2)(k:s.op=8 → -12≤s.n∧s.n≤12)(w:World)(h:Hp)(g:G w h)(i:Tab h):CV 66 #[az s,qv a,qv b] w h (.tuple #[qv (gC s.op s.n s.q a b),.bool (decide (i5 s.op s.n a b))]):=by
 by_cases hok:i5 s.op s.n a b
 ·unfold gC;rw[MN hok,decide_eq_true hok];exact AK s a b K f ha d j c e k hok w h g i
 ·unfold gC;rw[MM hok,decide_eq_false hok]
  by_cases h6:s.op=6∧b=0
  ·exact x9 s a b K f ha d j c h6.1 h6.2 w h g i
  ·by_cases h8:s.op=8∧s.n<0∧a=0
   ·exact BC s a b K f ha d j c h8.1 ⟨(k h8.1).1,h8.2.1⟩ h8.2.2 w h g i
   ·exact MO ⟨fun x y=>h6 ⟨x,y⟩,fun x y z=>h8 ⟨x,y,z⟩⟩ hok
theorem Hw {p:Prop}[Decidable p](h:(!decide p)=false):p:=by simpa using h
theorem Hh {p:Prop}[Decidable p](h:(!decide p)=true):¬p:=by simpa using h
theorem AJ (e:Option Addr)(cL:Nat)(L:List PLt)(d:Nat)(O:L.length≤1000)(x:Nat)(K:3002≤x)(D:x≤7000)(U:∀ i,LQ (x-2) (L.getD i ca).q)(n:Int)(q:Rat)(s:ByteArray)(A:Option Addr)(c:Nat)(ps:List PTm)(ks:List Tm)(w:World)(h:Hp)(g:G w h)(Q:SlO 9 bg au h A ps)(M:SlO 6 pd ca h e L):CV 31 #[pW 2 n q s A ps.length c,.slice e L.length cL] w h (.tuple #[qv (aF L (d+1) (.mk 2 n q s ks)).2,iV (aF L (d+1) (.mk 2 n q s ks)).1]):=by
 have a:=(((sS g).aS Q).aS M);refine go Tryz.func31 [(0,pW 2 n q s A ps.length c),(1,qS e L.length cL)] rfl (av (lA 2 43 (pG 2 n q s A ps.length c) a (fun l w2 X a=>lA 4 40 da a (fun z Y C a=>lL a [.v 5 (iV 0)] (ah (aa a [.v 15 (pB l),.o 16 (iV 2) 1 0 1,.v 17 qT] (ak (cQ (aa a [.m 18 1,.v 19 (nV L.length),.v 20 (iV 0)] (a8 ?_))))))))));refine bH _ (CG.loop (fun p Γ S=>∃ (k:Nat) (j:Hp),p=L.length-k∧Γ=[(1,qS e L.length cL),(2,pB l),(4,pB z),(18,qS e L.length cL),(19,nV L.length),(20,nV k)]∧SS w h S j [⟨z,40,[qF,uV 0,eS,uV 0,eS]⟩,⟨l,43,pG 2 n q s A ps.length c⟩] [] [fun j=>SlO 6 pd ca j e L,fun j=>SlO 9 bg au j A ps]∧k≤L.length∧(∀ i,i<k→(L.getD i ca).s≠s)) _ ⟨0,C,rfl,rfl,a.to _ _,K7 _,(fun i hi=>MO hi (Mk i))⟩ ?_);rintro _ _ W ⟨k,h8,B,rfl,a,Z,b⟩;refine av ?_;cases za:(decide ((k:Int)<(L.length:Int)))
 ·
  have F:=oF za;refine lB 21 za (ah (cv (CG.exit ?_)))
  show CG _ _ _ _ _ _ _ _
  refine aa a [.v 32 eb] (lP 0 0 da a (fun _ a=>lL a [.v 5 (iV 11)] (lN (kX ?_))));have u:k=L.length:=by omega
  rw[u] at b
  exact a.ret [(0,0,5)] (.tuple #[.agg #[qF,uV 0,eS,uV 0,eS],iV 11]) (by rw[k7 rfl (pZ b)];rfl)
 have F:=oT za;refine lB 21 za (ah (ce (cK (cQ (kZ (av (lX 22 e L.length cL 6 (k:Nat) k ((a.f.1).ok oM) ?_)))))));refine lH 23 (.agg #[.string ((L.getD k ca).s),.bool (ai ((L.getD k ca).q).num),uV (lo (ab ((L.getD k ca).q).num)),.string (hi (ab ((L.getD k ca).q).num)),uV (lo (qd ((L.getD k ca).q))),.string (hi (qd ((L.getD k ca).q)))]) a ((a.f.1).el k oM) (lA 7 87 ([eS,qF,uV 0,eS,uV 0,eS]) a (fun y _ H a=>lP 0 0 ([.string ((L.getD k ca).s),.bool (ai ((L.getD k ca).q).num),uV (lo (ab ((L.getD k ca).q).num)),.string (hi (ab ((L.getD k ca).q).num)),uV (lo (qd ((L.getD k ca).q))),.string (hi (qd ((L.getD k ca).q)))]) a (fun _ a=>aI (lL a [.v 24 (pB y),.o 25 (.string ((L.getD k ca).s)) 0 0 1,.v 26 (qP l 7),.o 27 (.string s) 2 7 1] ?_))));cases zb:(kn ((L.getD k ca).s) s)
 ·
  have I:=gL zb;refine lB 28 zb (af (cK (kQ (bD 31 ((k:Nat)+1) (k+1) ?_))));refine lL a [.m 20 31] (lD ?_);intro V J;replace a:=a.drop 1 0;refine ⟨_,_,?_,⟨k+1,H,rfl,rfl,a.to _ _,oM,(fun i hi=>by rcases Mm.1 hi with j|rfl;exact b i j;assumption)⟩,J.to _ kR⟩
  omega
 have I:=gW zb;exact lB 28 zb (ak (aa a [.v 29 (qP y 1),.o 30 (qv ((L.getD k ca).q)) 0 1 5] (lP 1 0 (qc ((L.getD k ca).q)) a (fun _ a=>lL a [.v 5 (iV 0)] (ac a [(1,0,5)] (.tuple #[qv ((L.getD k ca).q),iV 0]) (by rw[l7 rfl (pV b oM aM)]))))))
theorem Aa  (ok:ByteArray→Prop)(d:Nat)(b:Option Addr)(cL:Nat)(L:List PLt)(F:L.length≤1000)(j:Nat)(B:3002≤j)(x:j≤7000)(J:∀ i,LQ (j-2) (L.getD i ca).q)(M:∀ (p:PTm) (t:Tm) (w:World) (h:Hp),G w h→TmH d h p t→WfT ok d t→bp d t≤1000→SlO 6 pd ca h b L→Tab h→Calls Tryz.prog 31 #[az p,.slice b L.length cL] w (Ret w h (fun v _=>v=.tuple #[qv (aF L d t).2,iV (aF L d t).1])))(op n:Int)(q:Rat)(s:ByteArray)(A:Option Addr)(c:Nat)(H:1≤op∧op≤13∧op≠2)(O : -12≤n∧n≤12)(y:LQ 3000 q)(w:World)(h:Hp)(g:G w h)(I:SlO 9 bg au h A ([]:List PTm))(C:SlO 6 pd ca h b L)(D:Tab h):CV 31 #[pW op n q s A 0 c,.slice b L.length cL] w h (.tuple #[qv (aF L (d+1) (.mk op n q s ([]:List Tm))).2,iV (aF L (d+1) (.mk op n q s ([]:List Tm))).1]):=by
 have a:=((((sS g).aS I).aS C).aB D);have u:([]:List PTm).length=0:=rfl;refine go Tryz.func31 [(0,pW op n q s A 0 c),(1,qS b L.length cL)] rfl (av (lA 2 43 (pG op n q s A 0 c) a (fun l w2 Q a=>lA 4 40 da a (fun U S K a=>lL a [.v 5 (iV 0)] (ah (aa a [.v 15 (pB l),.o 16 (iV op) 1 0 1] ?_))))));have e:((op:Int) == (2:Int))=false:=bJ oM;have k:=ae e;refine lB 17 e (af (cK (av (lA 8 129 ([qF,uV 0,eS,uV 0,eS,qF,uV 0,eS,uV 0,eS]) a (fun b8 V _ a=>ah (aa a [.v 33 (qP l 8),.o 34 (qS A 0 c) 2 8 1,.v 35 (iV 0),.v 36 (iV 0)] (a8 (cU ?_))))))));refine cN (aa a [.v 37 qF] (ah (cv (CG.exit ?_))))
 show CG _ _ _ _ _ _ _ _
 refine aa a [.o 56 (pW op n q s A 0 c) 2 0 9,.v 57 (pB b8),.o 58 (qv 0) 0 0 5,.v 59 (qP b8 5),.o 60 (qv 0) 0 5 5] (ag 61 a (qg (⟨op,n,q,s,A,0,c⟩:PTm) 0 0 (j*1000) oM (uk oM) (uk oM) y oM (by show 1≤op∧op≤13∧op≠2;omega) (by show op=8 → -12≤n∧n≤12;omega) _ _ a.g a.f.1) (fun _ _ a=>lL a [.m 55 61,.v 62 (qv (gC op n q 0 0)),.v 63 (.bool (decide (i5 op n 0 0)))] (lA 13 40 da a (fun z _ _ a=>lP 0 0 (qc (gC op n q 0 0)) a (fun _ a=>lL a [.m 14 63] (ah (aa a [.m 64 14] ?_)))))));cases za:(!(decide (i5 op n 0 0)))
 ·
  exact lB 65 za (af (cK (aa a [.o 67 (qv (gC op n q 0 0)) 0 0 5] (lP 2 0 (qc (gC op n q 0 0)) a (fun _ a=>lL a [.v 5 (iV 0)] (ac a [(2,0,5)] (.tuple #[qv (gC op n q 0 0),iV 0]) (by rw[md oM,gn oM oM (Hw aM)])))))))
 exact lB 65 za (ak (aa a [.v 66 eb] (lP 2 0 da a (fun _ a=>lL a [.v 5 (iV 6)] (ac a [(2,0,5)] (.tuple #[.agg #[qF,uV 0,eS,uV 0,eS],iV 6]) (by rw[md oM,od oM oM (Hh aM)];rfl))))))
theorem BG  (ok:ByteArray→Prop)(d:Nat)(j:Option Addr)(cL:Nat)(L:List PLt)(Y:L.length≤1000)(l:Nat)(V:3002≤l)(M:l≤7000)(hLq:∀ i,LQ (l-2) (L.getD i ca).q)(Q:∀ (p:PTm) (t:Tm) (w:World) (h:Hp),G w h→TmH d h p t→WfT ok d t→bp d t≤1000→SlO 6 pd ca h j L→Tab h→Calls Tryz.prog 31 #[az p,.slice j L.length cL] w (Ret w h (fun v _=>v=.tuple #[qv (aF L d t).2,iV (aF L d t).1])))(op n:Int)(q:Rat)(s:ByteArray)(A:Option Addr)(c:Nat)(e:PTm)(b:Tm)(B:WfT ok d b)(y:bp d b≤1000)(C:LQ (l*1000) (aF L d b).2)(Z:1≤op∧op≤13∧op≠2)(hn : -12≤n∧n≤12)(S:LQ 3000 q)(w:World)(h:Hp)(g:G w h)(hK:SlO 9 bg au h A ([e]:List PTm))(z:TmH d h e b)(W:SlO 6 pd ca h j L)(X:Tab h):CV 31 #[pW op n q s A 1 c,.slice j L.length cL] w h (.tuple #[qv (aF L (d+1) (.mk op n q s ([b]:List Tm))).2,iV (aF L (d+1) (.mk op n q s ([b]:List Tm))).1]):=by
 have a:=(((((sS g).aS hK).add (K:=fun U=>TmH d U e b) z).aS W).aB X);have J:([e]:List PTm).length=1:=rfl;refine go Tryz.func31 [(0,pW op n q s A 1 c),(1,qS j L.length cL)] rfl (av (lA 2 43 (pG op n q s A 1 c) a (fun u w2 h3 a=>lA 4 40 da a (fun x w5 h6 a=>lL a [.v 5 (iV 0)] (ah (aa a [.v 15 (pB u),.o 16 (iV op) 1 0 1] ?_))))));have k:((op:Int) == (2:Int))=false:=bJ oM;have D:=ae k;refine lB 17 k (af (cK (av (lA 8 129 ([qF,uV 0,eS,uV 0,eS,qF,uV 0,eS,uV 0,eS]) a (fun b8 w9 _ a=>ah (aa a [.v 33 (qP u 8),.o 34 (qS A 1 c) 2 8 1,.v 35 (iV 1),.v 36 (iV 0)] (a8 (cU ?_))))))));refine cN (aa a [.v 37 qT] (ah (ce (cK (cQ (kZ (aa a [.m 38 36] (lX 39 A 1 c 9 0 0 ((a.f.r.2.1).ok oM) ?_))))))));refine lH 40 (az (([e]:List PTm).getD 0 au)) a ((a.f.r.2.1).el 0 oM) (lA 10 43 dS a (fun H _ _ a=>lL a [.m 9 38] (lP 0 0 (bg (([e]:List PTm).getD 0 au)) a (fun _ a=>aI (lL a [.o 42 (az (([e]:List PTm).getD 0 au)) 0 0 9,.m 43 1] (ag 44 a (Q (([e]:List PTm).getD 0 au) b _ _ a.g a.f.r.1 B y a.f.2.1 a.f.1) (fun _ _ a=>lL a [.m 41 44,.v 45 (qv ((aF L d b).2)),.v 46 (iV ((aF L d b).1))] (lA 11 40 da a (fun I _ _ a=>lP 0 0 (qc ((aF L d b).2)) a (fun _ a=>lL a [.m 12 46] (ah (aa a [.m 47 12] ?_))))))))))));cases za:(((aF L d b).1:Int) != (0:Int))
 ·
  have O:=aJ za;refine lB 48 za (af (cK (kQ (lL a [.m 51 9,.o 52 (qv ((aF L d b).2)) 0 0 5,.v 53 (pB b8)] (lP 2 0 (qc ((aF L d b).2)) a (fun _ a=>lN (kQ (lL a [.v 54 (iV 1),.m 36 54] (lD (CL.to [(1,qS j L.length cL),(2,pB u),(4,pB x),(5,iV 0),(8,pB b8),(34,qS A 1 c),(35,iV 1),(36,iV 1),(37,qT),(38,iV 0),(39,.pointer (some ⟨(aB A),aO A+0*9,none⟩)),(40,az (([e]:List PTm).getD 0 au)),(10,pB H),(9,iV 0),(42,az (([e]:List PTm).getD 0 au)),(43,qS j L.length cL),(44,.tuple #[qv ((aF L d b).2),iV ((aF L d b).1)]),(41,.tuple #[qv ((aF L d b).2),iV ((aF L d b).1)]),(45,qv ((aF L d b).2)),(46,iV ((aF L d b).1)),(11,pB I),(12,iV ((aF L d b).1)),(47,iV ((aF L d b).1)),(48,qF),(51,iV 0),(52,qv ((aF L d b).2)),(53,pB b8),(54,iV 1)] ?_))))))))));replace a:=a.to [⟨I,40,qc ((aF L d b).2)⟩,⟨H,43,bg (([e]:List PTm).getD 0 au)⟩,⟨b8,129,[.bool (ai ((aF L d b).2).num),uV (lo (ab ((aF L d b).2).num)),.string (hi (ab ((aF L d b).2).num)),uV (lo (qd ((aF L d b).2))),.string (hi (qd ((aF L d b).2))),qF,uV 0,eS,uV 0,eS]⟩,⟨x,40,[qF,uV 0,eS,uV 0,eS]⟩,⟨u,43,pG op n q s A 1 c⟩] [];refine cN (aa a [.v 37 qF] (ah (cv (CG.exit ?_))))
  show CG _ _ _ _ _ _ _ _
  refine aa a [.o 56 (pW op n q s A 1 c) 4 0 9,.v 57 (pB b8),.o 58 (qv ((aF L d b).2)) 2 0 5,.v 59 (qP b8 5),.o 60 (qv 0) 2 5 5] (ag 61 a (qg (⟨op,n,q,s,A,1,c⟩:PTm) ((aF L d b).2) 0 (l*1000) oM C (uk oM) S oM (by show 1≤op∧op≤13∧op≠2;omega) (by show op=8 → -12≤n∧n≤12;omega) _ _ a.g a.f.1) (fun _ _ a=>lL a [.m 55 61,.v 62 (qv (gC op n q ((aF L d b).2) 0)),.v 63 (.bool (decide (i5 op n ((aF L d b).2) 0)))] (lA 13 40 da a (fun F _ _ a=>lP 0 0 (qc (gC op n q ((aF L d b).2) 0)) a (fun _ a=>lL a [.m 14 63] (ah (aa a [.m 64 14] ?_)))))));cases zb:(!(decide (i5 op n ((aF L d b).2) 0)))
  ·
   refine lB 65 zb (lN (bH [(4,pB x),(5,iV 0),(13,pB F),(65,qF)] ?_));exact cv (cK (aa a [.o 67 (qv (gC op n q ((aF L d b).2) 0)) 0 0 5] (lP 4 0 (qc (gC op n q ((aF L d b).2) 0)) a (fun _ a=>lL a [.v 5 (iV 0)] (ac a [(4,0,5)] (.tuple #[qv (gC op n q ((aF L d b).2) 0),iV 0]) (by rw[fJ oM,gn oM oM (Hw aM)]))))))
  refine lB 65 zb (lN (bH [(4,pB x),(5,iV 0),(13,pB F),(65,qT)] ?_));exact ce (aa a [.v 66 eb] (lP 4 0 da a (fun _ a=>lL a [.v 5 (iV 6)] (ac a [(4,0,5)] (.tuple #[.agg #[qF,uV 0,eS,uV 0,eS],iV 6]) (by rw[fJ oM,od oM oM (Hh aM)];rfl)))))
 have O:=aW za;exact lB 48 za (ak (aa a [.v 49 eb,.m 50 12] (lP 3 0 da a (fun _ a=>lL a [.m 5 50] (ac a [(3,0,5)] (.tuple #[.agg #[qF,uV 0,eS,uV 0,eS],iV ((aF L d b).1)]) (by rw[fJ oM,qz oM];rfl))))))
theorem B6  (ok:ByteArray→Prop)(d:Nat)(l:Option Addr)(cL:Nat)(L:List PLt)(hLl:L.length≤1000)(x:Nat)(hc3:3002≤x)(hcm:x≤7000)(hLq:∀ i,LQ (x-2) (L.getD i ca).q)(U:∀ (p:PTm) (t:Tm) (w:World) (h:Hp),G w h→TmH d h p t→WfT ok d t→bp d t≤1000→SlO 6 pd ca h l L→Tab h→Calls Tryz.prog 31 #[az p,.slice l L.length cL] w (Ret w h (fun v _=>v=.tuple #[qv (aF L d t).2,iV (aF L d t).1])))(op n:Int)(q:Rat)(s:ByteArray)(A:Option Addr)(c:Nat)(j:PTm)(b:Tm)(M:WfT ok d b)(C:bp d b≤1000)(S:LQ (x*1000) (aF L d b).2)(k:PTm)(e:Tm)(Q:WfT ok d e)(D:bp d e≤1000)(O:LQ (x*1000) (aF L d e).2)(hop:1≤op∧op≤13∧op≠2)(hn : -12≤n∧n≤12)(hq:LQ 3000 q)(w:World)(h:Hp)(g:G w h)(hK:SlO 9 bg au h A ([j,k]:List PTm))(F:TmH d h j b)(I:TmH d h k e)(hL:SlO 6 pd ca h l L)(tb:Tab h):CV 31 #[pW op n q s A 2 c,.slice l L.length cL] w h (.tuple #[qv (aF L (d+1) (.mk op n q s ([b,e]:List Tm))).2,iV (aF L (d+1) (.mk op n q s ([b,e]:List Tm))).1]):=by
 have a:=((((((sS g).aS hK).add (K:=fun H=>TmH d H j b) F).add (K:=fun H=>TmH d H k e) I).aS hL).aB tb);have hln:([j,k]:List PTm).length=2:=rfl;refine go Tryz.func31 [(0,pW op n q s A 2 c),(1,qS l L.length cL)] rfl (av (lA 2 43 (pG op n q s A 2 c) a (fun u w2 h3 a=>lA 4 40 da a (fun y w5 h6 a=>lL a [.v 5 (iV 0)] (ah (aa a [.v 15 (pB u),.o 16 (iV op) 1 0 1] ?_))))));have z:((op:Int) == (2:Int))=false:=bJ oM;have W:=ae z;refine lB 17 z (af (cK (av (lA 8 129 ([qF,uV 0,eS,uV 0,eS,qF,uV 0,eS,uV 0,eS]) a (fun b8 w9 _ a=>ah (aa a [.v 33 (qP u 8),.o 34 (qS A 2 c) 2 8 1,.v 35 (iV 2),.v 36 (iV 0)] (a8 (cU ?_))))))));refine cN (aa a [.v 37 qT] (ah (ce (cK (cQ (kZ (aa a [.m 38 36] (lX 39 A 2 c 9 0 0 ((a.f.q.1).ok oM) ?_))))))));refine lH 40 (az (([j,k]:List PTm).getD 0 au)) a ((a.f.q.1).el 0 oM) (lA 10 43 dS a (fun B _ _ a=>lL a [.m 9 38] (lP 0 0 (bg (([j,k]:List PTm).getD 0 au)) a (fun _ a=>aI (lL a [.o 42 (az (([j,k]:List PTm).getD 0 au)) 0 0 9,.m 43 1] (ag 44 a (U (([j,k]:List PTm).getD 0 au) b _ _ a.g a.f.r.2.1 M C a.f.2.1 a.f.1) (fun _ _ a=>lL a [.m 41 44,.v 45 (qv ((aF L d b).2)),.v 46 (iV ((aF L d b).1))] (lA 11 40 da a (fun J _ _ a=>lP 0 0 (qc ((aF L d b).2)) a (fun _ a=>lL a [.m 12 46] (ah (aa a [.m 47 12] ?_))))))))))));cases za:(((aF L d b).1:Int) != (0:Int))
 ·
  have zf:=aJ za;refine lB 48 za (af (cK (kQ (lL a [.m 51 9,.o 52 (qv ((aF L d b).2)) 0 0 5,.v 53 (pB b8)] (lP 2 0 (qc ((aF L d b).2)) a (fun _ a=>lN (kQ (lL a [.v 54 (iV 1),.m 36 54] (lD (CL.to [(1,qS l L.length cL),(2,pB u),(4,pB y),(5,iV 0),(8,pB b8),(34,qS A 2 c),(35,iV 2),(36,iV 1),(37,qT),(38,iV 0),(39,.pointer (some ⟨(aB A),aO A+0*9,none⟩)),(40,az (([j,k]:List PTm).getD 0 au)),(10,pB B),(9,iV 0),(42,az (([j,k]:List PTm).getD 0 au)),(43,qS l L.length cL),(44,.tuple #[qv ((aF L d b).2),iV ((aF L d b).1)]),(41,.tuple #[qv ((aF L d b).2),iV ((aF L d b).1)]),(45,qv ((aF L d b).2)),(46,iV ((aF L d b).1)),(11,pB J),(12,iV ((aF L d b).1)),(47,iV ((aF L d b).1)),(48,qF),(51,iV 0),(52,qv ((aF L d b).2)),(53,pB b8),(54,iV 1)] ?_))))))))));replace a:=a.to [⟨J,40,qc ((aF L d b).2)⟩,⟨B,43,bg (([j,k]:List PTm).getD 0 au)⟩,⟨b8,129,[.bool (ai ((aF L d b).2).num),uV (lo (ab ((aF L d b).2).num)),.string (hi (ab ((aF L d b).2).num)),uV (lo (qd ((aF L d b).2))),.string (hi (qd ((aF L d b).2))),qF,uV 0,eS,uV 0,eS]⟩,⟨y,40,[qF,uV 0,eS,uV 0,eS]⟩,⟨u,43,pG op n q s A 2 c⟩] [];refine cN (aa a [.v 37 qT] (ah (ce (cK (cQ (kZ (aa a [.m 38 36] (lX 39 A 2 c 9 1 1 ((a.f.q.1).ok oM) ?_))))))));refine lH 40 (az (([j,k]:List PTm).getD 1 au)) a ((a.f.q.1).el 1 oM) (lA 10 43 dS a (fun Y _ _ a=>lL a [.m 9 38] (lP 0 0 (bg (([j,k]:List PTm).getD 1 au)) a (fun _ a=>aI (lL a [.o 42 (az (([j,k]:List PTm).getD 1 au)) 0 0 9,.m 43 1] (ag 44 a (U (([j,k]:List PTm).getD 1 au) e _ _ a.g a.f.r.1 Q D a.f.2.1 a.f.1) (fun _ _ a=>lL a [.m 41 44,.v 45 (qv ((aF L d e).2)),.v 46 (iV ((aF L d e).1))] (lA 11 40 da a (fun X _ _ a=>lP 0 0 (qc ((aF L d e).2)) a (fun _ a=>lL a [.m 12 46] (ah (aa a [.m 47 12] ?_))))))))))));cases zb:(((aF L d e).1:Int) != (0:Int))
  ·
   have zg:=aJ zb;refine lB 48 zb (af (cK (kQ (lL a [.m 51 9,.o 52 (qv ((aF L d e).2)) 0 0 5,.v 53 (qP b8 5)] (lP 4 5 (qc ((aF L d e).2)) a (fun _ a=>lN (kQ (lL a [.v 54 (iV 2),.m 36 54] (lD (CL.to [(1,qS l L.length cL),(2,pB u),(4,pB y),(5,iV 0),(8,pB b8),(34,qS A 2 c),(35,iV 2),(36,iV 2),(37,qT),(38,iV 1),(39,.pointer (some ⟨(aB A),aO A+1*9,none⟩)),(40,az (([j,k]:List PTm).getD 1 au)),(10,pB Y),(9,iV 1),(42,az (([j,k]:List PTm).getD 1 au)),(43,qS l L.length cL),(44,.tuple #[qv ((aF L d e).2),iV ((aF L d e).1)]),(41,.tuple #[qv ((aF L d e).2),iV ((aF L d e).1)]),(45,qv ((aF L d e).2)),(46,iV ((aF L d e).1)),(11,pB X),(12,iV ((aF L d e).1)),(47,iV ((aF L d e).1)),(48,qF),(51,iV 1),(52,qv ((aF L d e).2)),(53,qP b8 5),(54,iV 2)] ?_))))))))));replace a:=a.to [⟨X,40,qc ((aF L d e).2)⟩,⟨Y,43,bg (([j,k]:List PTm).getD 1 au)⟩,⟨J,40,qc ((aF L d b).2)⟩,⟨B,43,bg (([j,k]:List PTm).getD 0 au)⟩,⟨b8,129,[.bool (ai ((aF L d b).2).num),uV (lo (ab ((aF L d b).2).num)),.string (hi (ab ((aF L d b).2).num)),uV (lo (qd ((aF L d b).2))),.string (hi (qd ((aF L d b).2))),.bool (ai ((aF L d e).2).num),uV (lo (ab ((aF L d e).2).num)),.string (hi (ab ((aF L d e).2).num)),uV (lo (qd ((aF L d e).2))),.string (hi (qd ((aF L d e).2)))]⟩,⟨y,40,[qF,uV 0,eS,uV 0,eS]⟩,⟨u,43,pG op n q s A 2 c⟩] [];refine cN (aa a [.v 37 qF] (ah (cv (CG.exit ?_))))
   show CG _ _ _ _ _ _ _ _
   refine aa a [.o 56 (pW op n q s A 2 c) 6 0 9,.v 57 (pB b8),.o 58 (qv ((aF L d b).2)) 4 0 5,.v 59 (qP b8 5),.o 60 (qv ((aF L d e).2)) 4 5 5] (ag 61 a (qg (⟨op,n,q,s,A,2,c⟩:PTm) ((aF L d b).2) ((aF L d e).2) (x*1000) oM S O hq oM (by show 1≤op∧op≤13∧op≠2;omega) (by show op=8 → -12≤n∧n≤12;omega) _ _ a.g a.f.1) (fun _ _ a=>lL a [.m 55 61,.v 62 (qv (gC op n q ((aF L d b).2) ((aF L d e).2))),.v 63 (.bool (decide (i5 op n ((aF L d b).2) ((aF L d e).2))))] (lA 13 40 da a (fun V _ _ a=>lP 0 0 (qc (gC op n q ((aF L d b).2) ((aF L d e).2))) a (fun _ a=>lL a [.m 14 63] (ah (aa a [.m 64 14] ?_)))))));cases Z:(!(decide (i5 op n ((aF L d b).2) ((aF L d e).2))))
   ·
    refine lB 65 Z (lN (bH [(4,pB y),(5,iV 0),(13,pB V),(65,qF)] ?_));exact cv (cK (aa a [.o 67 (qv (gC op n q ((aF L d b).2) ((aF L d e).2))) 0 0 5] (lP 6 0 (qc (gC op n q ((aF L d b).2) ((aF L d e).2))) a (fun _ a=>lL a [.v 5 (iV 0)] (ac a [(6,0,5)] (.tuple #[qv (gC op n q ((aF L d b).2) ((aF L d e).2)),iV 0]) (by rw[fw oM,gn oM oM (Hw aM)]))))))
   refine lB 65 Z (lN (bH [(4,pB y),(5,iV 0),(13,pB V),(65,qT)] ?_));exact ce (aa a [.v 66 eb] (lP 6 0 da a (fun _ a=>lL a [.v 5 (iV 6)] (ac a [(6,0,5)] (.tuple #[.agg #[qF,uV 0,eS,uV 0,eS],iV 6]) (by rw[fw oM,od oM oM (Hh aM)];rfl)))))
  have zg:=aW zb;exact lB 48 zb (ak (aa a [.v 49 eb,.m 50 12] (lP 5 0 da a (fun _ a=>lL a [.m 5 50] (ac a [(5,0,5)] (.tuple #[.agg #[qF,uV 0,eS,uV 0,eS],iV ((aF L d e).1)]) (by rw[fw oM,Do oM oM];rfl))))))
 have zf:=aW za;exact lB 48 za (ak (aa a [.v 49 eb,.m 50 12] (lP 3 0 da a (fun _ a=>lL a [.m 5 50] (ac a [(3,0,5)] (.tuple #[.agg #[qF,uV 0,eS,uV 0,eS],iV ((aF L d b).1)]) (by rw[fw oM,qz oM];rfl))))))
theorem vt (ok:ByteArray→Prop)(l:Option Addr)(cL:Nat)(L:List PLt)(j:L.length≤1000)(k:Nat)(a:3002≤k)(f:k≤7000)(b:∀ i,LQ (k-2) (L.getD i ca).q):∀ (d:Nat) (p:PTm) (t:Tm) (w:World) (h:Hp),G w h→TmH d h p t→WfT ok d t→bp d t≤1000→SlO 6 pd ca h l L→Tab h→Calls Tryz.prog 31 #[az p,.slice l L.length cL] w (Ret w h (fun v _=>v=.tuple #[qv (aF L d t).2,iV (aF L d t).1]))
  | 0,_,_,_,_,_,x,_,_,_,_=>x.elim
  | d + 1,p,t,w,h,g,x,wf,hw,hL,tb=>by
    obtain ⟨op,n,q,s,A,c,ps,ks,rfl,rfl,Q,z,e⟩:=x.open;obtain ⟨w1,w2,w3,M,S,O,F,B,u⟩:=wf;replace w1:d8 op=(ks.length:Nat):=w1;replace u:∀ i,i<ks.length→WfT ok d (ks.getD i bv):=u;have J:=aE op;have D:=fun p t w h=>vt ok l cL L j k a f b d p t w h
    by_cases o2:op=2
    · subst o2;exact AJ l cL L d j k a f b n q s A c ps ks w h g z hL
    · rcases jj w1 with rfl|⟨t1,rfl⟩|⟨t1,t2,rfl⟩
      · have e0:ps=[]:=z1 e.len
        subst e0
        simp only[Mq] at w1
        exact Aa ok d l cL L j k a f b D op n q s A c oM ⟨F,B⟩ w3 w h g z hL tb
      · obtain ⟨C,rfl⟩:=Mt.1 (show ps.length=1 from e.len)
        simp only[un,Mq] at w1
        have o:WfT ok d t1:=u 0 (K9 _);have y:bp d t1≤1000:=kW hw;exact BG ok d l cL L j k a f b D op n q s A c C t1 o y (iX a b o y) oM ⟨F,B⟩ w3 w h g z (e.at_ 0 (K9 _)) hL tb
      · obtain ⟨C,K,rfl⟩:=kJ (show ps.length=2 from e.len)
        simp only[un,Mq] at w1
        have o:WfT ok d t1:=u 0 (K9 _);have I:WfT ok d t2:=u 1 (by show 1<2;decide);obtain ⟨y,H⟩:=mh hw;exact B6 ok d l cL L j k a f b D op n q s A c C t1 o y (iX a b o y) K t2 I H (iX a b I H) oM ⟨F,B⟩ w3 w h g z (e.at_ 0 (K9 _)) (e.at_ 1 (by show 1<2;decide)) hL tb
theorem sH (isb:ByteArray→Bool)(sm:ByteArray→Prop)(z:∀ s,sm s→∀ (w:World) (h:Hp),G w h→Calls Tryz.prog 79 #[.string s] w (Ret w h (fun v _=>∃ b,v=.bool b∧b=isb s)))(l:Option Addr)(cL:Nat)(L:List PLt)(C:L.length≤1000)(u:Nat)(B:3002≤u)(y:u≤7000)(D:∀ i,LQ (u-2) (L.getD i ca).q)(d:Nat)(p:PTm)(t:Tm)(M:d≤24)(w:World)(h:Hp)(g:G w h)(I:TmH d h p t)(F:iF sm d t)(J:SlO 6 pd ca h l L)(O:Tab h):CR 11 #[az p,.slice l L.length cL] w h (fun v _=>∃ (e:Int) (x:Rat),v=.tuple #[qv x,iV e]∧EvR (fun s=>isb s=true) L d t e x):=by
 have a:=((((sS g).add (K:=fun H=>TmH d H p t) I).aS J).aB O);refine go Tryz.func11 [(0,az p),(1,qS l L.length cL)] rfl (av (lA 2 43 (bg p) a (fun V w2 W a=>lA 4 40 da a (fun Y X S a=>lL a [.v 5 (iV 0)] (ah (aa a [.o 6 (az p) 1 0 9] (lC 7 a (uw isb sm z d p t M _ _ a.g a.f.r.1 F) ?_)))))));rintro _ U Z a ⟨Q,rfl,c⟩;cases j:((Q:Int) != (0:Int))
 ·
  have k:=aJ j;exact lB 8 j (af (cK (aa a [.o 10 (az p) 1 0 9,.m 11 1] (ag 12 a (vt (fun s=>isb s=true) l cL L C u B y D d p t _ _ a.g a.f.r.1 (f7 c oM).1 (f7 c oM).2 a.f.2.1 a.f.1) (fun _ _ a=>lL a [.v 13 (qv ((aF L d t).2)),.v 14 (iV ((aF L d t).1))] (lP 0 0 (qc ((aF L d t).2)) a (fun _ a=>lL a [.m 5 14] (ac a [(0,0,5)] (.tuple #[qv ((aF L d t).2),iV ((aF L d t).1)]) (⟨_,_,rfl,.inl ⟨(f7 c oM).1,(f7 c oM).2,rfl,rfl⟩⟩)))))))))
 have k:=aW j;exact lB 8 j (ak (aa a [.v 9 eb] (lP 0 0 da a (fun _ a=>lL a [.v 5 (iV 1)] (ac a [(0,0,5)] (.tuple #[.agg #[qF,uV 0,eS,uV 0,eS],iV 1]) (⟨_,_,rfl,.inr ⟨qe c oM,rfl,rfl⟩⟩))))))
theorem G3 (op:Int)(w:World)(h:Hp)(g:G w h):CV 91 #[iV op] w h (iV (d8 op)):=by
 have a:=sS g;refine go Tryz.func91 [(0,iV op)] rfl (aa a [.v 2 (iV 0)] (ah (aa a [.m 3 0] (a8 (cQ (av ?_))))));cases k:((op:Int) == (1:Int))
 ·
  have z:=ae k;refine lB 5 k (lL a [.m 4 5] (af (kQ ?_)));cases l:((op:Int) == (2:Int))
  ·
   have x:=ae l;refine lB 6 l (lL a [.m 4 6] (af (cQ (av ?_))));cases e:((op:Int) == (7:Int))
   ·
    have o:=ae e;refine lB 8 e (lL a [.m 7 8] (af (av ?_)));cases c:((op:Int) == (8:Int))
    ·
     have p:=ae c;refine lB 9 c (lL a [.m 7 9] (af (av ?_)));cases i:((op:Int) == (9:Int))
     ·
      have B:=ae i;refine lB 10 i (lL a [.m 7 10] (af (av ?_)));cases b:((op:Int) == (10:Int))
      ·
       have y:=ae b;refine lB 11 b (lL a [.m 7 11] (af (kQ ?_)));cases f:((op:Int) == (11:Int))
       ·
        have u:=ae f;refine lB 12 f (lL a [.m 7 12] (af (cQ (av ?_))));cases j:((op:Int) == (3:Int))
        ·
         have D:=ae j;refine lB 14 j (lL a [.m 13 14] (af (av ?_)));cases d:((op:Int) == (4:Int))
         ·
          have C:=ae d;refine lB 15 d (lL a [.m 13 15] (af (av ?_)));cases za:((op:Int) == (5:Int))
          ·
           have I:=ae za;refine lB 16 za (lL a [.m 13 16] (af (av ?_)));cases zb:((op:Int) == (6:Int))
           ·
            have J:=ae zb;refine lB 17 zb (lL a [.m 13 17] (af (av ?_)));cases F:((op:Int) == (12:Int))
            ·
             have K:=ae F;refine lB 18 F (lL a [.m 13 18] (af (kQ ?_)));cases H:((op:Int) == (13:Int))
             ·
              have L:=ae H;exact lB 19 H (lL a [.m 13 19] (af (cK (aa a [.v 2 (iV (-1))] (ac a [] (iV (-1)) (congrArg (Lp .i64) (by have:=aE op;omega)))))))
             have L:=ML H;exact lB 19 H (lL a [.m 13 19] (ak (aa a [.v 2 (iV 2)] (ac a [] (iV 2) (congrArg (Lp .i64) (by have:=aE op;omega))))))
            have K:=ML F;exact lB 18 F (lL a [.m 13 18] (ak (cK (ce (aa a [.v 2 (iV 2)] (ac a [] (iV 2) (congrArg (Lp .i64) (by have:=aE op;omega))))))))
           have J:=ML zb;exact lB 17 zb (lL a [.m 13 17] (ak (cK (ce (aa a [.v 2 (iV 2)] (ac a [] (iV 2) (congrArg (Lp .i64) (by have:=aE op;omega))))))))
          have I:=ML za;exact lB 16 za (lL a [.m 13 16] (ak (cK (ce (aa a [.v 2 (iV 2)] (ac a [] (iV 2) (congrArg (Lp .i64) (by have:=aE op;omega))))))))
         have C:=ML d;exact lB 15 d (lL a [.m 13 15] (ak (cK (ce (aa a [.v 2 (iV 2)] (ac a [] (iV 2) (congrArg (Lp .i64) (by have:=aE op;omega))))))))
        have D:=ML j;exact lB 14 j (lL a [.m 13 14] (ak (cK (ce (aa a [.v 2 (iV 2)] (ac a [] (iV 2) (congrArg (Lp .i64) (by have:=aE op;omega))))))))
       have u:=ML f;exact lB 12 f (lL a [.m 7 12] (ak (aa a [.v 2 (iV 1)] (ac a [] (iV 1) (congrArg (Lp .i64) (by have:=aE op;omega))))))
      have y:=ML b;exact lB 11 b (lL a [.m 7 11] (ak (cK (ce (aa a [.v 2 (iV 1)] (ac a [] (iV 1) (congrArg (Lp .i64) (by have:=aE op;omega))))))))
     have B:=ML i;exact lB 10 i (lL a [.m 7 10] (ak (cK (ce (aa a [.v 2 (iV 1)] (ac a [] (iV 1) (congrArg (Lp .i64) (by have:=aE op;omega))))))))
    have p:=ML c;exact lB 9 c (lL a [.m 7 9] (ak (cK (ce (aa a [.v 2 (iV 1)] (ac a [] (iV 1) (congrArg (Lp .i64) (by have:=aE op;omega))))))))
   have o:=ML e;exact lB 8 e (lL a [.m 7 8] (ak (cK (ce (aa a [.v 2 (iV 1)] (ac a [] (iV 1) (congrArg (Lp .i64) (by have:=aE op;omega))))))))
  have x:=ML l;exact lB 6 l (lL a [.m 4 6] (ak (aa a [.v 2 (iV 0)] (ac a [] (iV 0) (congrArg (Lp .i64) (by have:=aE op;omega))))))
 have z:=ML k;exact lB 5 k (lL a [.m 4 5] (ak (cK (ce (aa a [.v 2 (iV 0)] (ac a [] (iV 0) (congrArg (Lp .i64) (by have:=aE op;omega))))))))
theorem Bq (z:Int)(A:Option Addr)(c:Nat)(w:World)(h:Hp)(g:G w h)(k:S3 A (lim (ab z)) h):CV 161 #[.agg #[.bool (ai z),.slice A ((lim (ab z)).length) c]] w h (iV z.sign):=by
 have a:=((sS g).aS k);have i:0<(lim (ab z)).length↔0<ab z:=bV
 unfold ab at i
 refine go Tryz.func161 [(0,.agg #[.bool (ai z),qS A ((lim (ab z)).length) c])] rfl (av (lA 1 26 ([.bool (ai z),qS A ((lim (ab z)).length) c]) a (fun j w2 l a=>lL a [.v 2 (iV 0)] (ah (kZ (aa a [.v 4 (qP j 1),.o 5 (qS A ((lim (ab z)).length) c) 0 1 1,.v 6 (nV ((lim (ab z)).length))] ?_))))));cases d:((((lim (ab z)).length:Nat):Int) == (0:Int))
 ·
  have f:=ae d;refine lB 7 d (lL a [.m 3 7] (af (aa a [.v 9 (pB j),.o 10 (.bool (ai z)) 0 0 1,.m 8 10] (lN ?_))));cases b:(ai z)
  ·
   try rw[b] at a
   try rw[b]
   have e:=bc b;exact cv (cK (aa a [.v 2 (iV 1)] (ac a [] (iV 1) (congrArg (Lp .i64) (by first|(rw[show z=0 by (unfold ab at *;omega)];rfl)|exact (LC oM).symm|exact (LD (by unfold ab at *;omega)).symm)))))
  try rw[b] at a
  try rw[b]
  have e:=bx b;exact ce (aa a [.v 2 (iV (-1))] (ac a [] (iV (-1)) (congrArg (Lp .i64) (by first|(rw[show z=0 by (unfold ab at *;omega)];rfl)|exact (LC oM).symm|exact (LD (by unfold ab at *;omega)).symm))))
 have f:=ML d;exact lB 7 d (lL a [.m 3 7] (ak (aa a [.v 2 (iV 0)] (ac a [] (iV 0) (congrArg (Lp .i64) (by first|(rw[show z=0 by (unfold ab at *;omega)];rfl)|exact (LC oM).symm|exact (LD (by unfold ab at *;omega)).symm))))))
theorem IT (z:Int)(A:Option Addr)(c n:Nat)(D:Option Addr)(d:Nat)(p:(lim (ab z)).length≤c)(u:(lim n).length≤d)(w:World)(h:Hp)(g:G w h)(i:S3 A (lim (ab z)) h)(b:S3 D (lim n) h):CV 120 #[.agg #[.bool (ai z),.slice A ((lim (ab z)).length) c,.slice D ((lim n).length) d]] w h (iV z.sign):=by
 have a:=(((sS g).aS i).aS b);exact go Tryz.func120 [(0,.agg #[.bool (ai z),qS A ((lim (ab z)).length) c,qS D ((lim n).length) d])] rfl (av (lA 1 28 ([.bool (ai z),qS A ((lim (ab z)).length) c,qS D ((lim n).length) d]) a (fun e w2 l a=>lL a [.v 2 (iV 0)] (aI (lL a [.v 3 (pB e),.o 4 (.agg #[.bool (ai z),qS A ((lim (ab z)).length) c]) 0 0 2] (ag 5 a (Bq z A c _ _ a.g a.f.2.1) (fun j k a=>lL a [.m 2 5] (ac a [] (iV z.sign) rfl))))))))
theorem j7 (z:Int)(A:Option Addr)(c n:Nat)(D:Option Addr)(d:Nat)(u:(lim (ab z)).length≤c)(y:(lim n).length≤d)(w:World)(h:Hp)(g:G w h)(x:S3 A (lim (ab z)) h)(l:S3 D (lim n) h):CV 67 #[.agg #[.bool (ai z),.slice A ((lim (ab z)).length) c,.slice D ((lim n).length) d]] w h (.bool (decide (n=0∨z=0))):=by
 have a:=(((sS g).aS x).aS l);have k:0<(lim n).length↔0<n:=bV;refine go Tryz.func67 [(0,.agg #[.bool (ai z),qS A ((lim (ab z)).length) c,qS D ((lim n).length) d])] rfl (av (lA 1 28 ([.bool (ai z),qS A ((lim (ab z)).length) c,qS D ((lim n).length) d]) a (fun p w2 F a=>lL a [.v 2 qF] (aI (lL a [.v 3 (qP p 2),.o 4 (qS D ((lim n).length) d) 0 2 1,.v 5 (nV ((lim n).length))] ?_)))));cases b:((((lim n).length:Nat):Int) == (0:Int))
 ·
  have i:=ae b;refine lB 6 b (lL a [.m 7 6,.o 8 (.agg #[.bool (ai z),qS A ((lim (ab z)).length) c,qS D ((lim n).length) d]) 0 0 3] (ag 9 a (IT z A c n D d u y _ _ a.g a.f.2.1 a.f.1) (fun H C a=>?_)));have B:z.sign=0↔z=0:=Mi;cases e:((z.sign:Int) == (0:Int))
  ·
   have j:=ae e;exact lB 10 e (lL a [.v 11 qF,.m 2 11] (ac a [] qF (congrArg Mg (decide_eq_false oM).symm)))
  have j:=ML e;exact lB 10 e (lL a [.v 11 qT,.m 2 11] (ac a [] qT (congrArg Mg (decide_eq_true oM).symm)))
 have i:=ML b;refine lB 6 b (lL a [.m 7 6] (lG 8 ?_));exact lG 9 (lG 10 (lL a [.v 11 qT,.m 2 11] (ac a [] qT (congrArg Mg (decide_eq_true oM).symm))))
def eL (op n sum:Int):Int:=if op=11 then 2*sum else if op=8∧n≠0 then sum*(if n<0 then 0-n else n) else sum
theorem xV {o:OSt}(hz:o.has=false→o.q=0)(h:nM o=0∨o.q.num=0):o.q=((0:Int):Rat):=by
 rcases h with h|h
 ·refine hz ?_
  have a:=Bd (o:=o);rw[h,fD] at a
  cases b:o.has with
  | false=>rfl
  | true=>rw[b] at a;simp at a
 ·exact Ma.1 h
theorem vm {o:OSt}(hz:o.has=false→o.q=0)(h:¬(nM o=0∨o.q.num=0)):nM o=o.q.den:=by
 refine x7 ?_;cases a:o.has with
 | true=>rfl
 | false=>exact MO (.inr (by rw[hz a];rfl)) h
theorem u6 {q:Rat}{n:Int}{m:Nat}(a:q≠0)(c:n<0)(b:m=n.natAbs):cl (((1:Int):Rat)/q) m=fB q n:=by
  have h1:((1:Int):Rat)=1:=rfl
  have e:∀ k,cl (((1:Int):Rat)/q) k=((1:Int):Rat)/cl q k:=fun k=>by
    induction k with
    | zero=>show ((1:Int):Rat)=((1:Int):Rat)/((1:Int):Rat);rw[h1];grind
    | succ k ih =>
      show cl _ k*_=_/(cl q k*q)
      have:=n3 a k;rw[ih,h1];grind
  unfold fB
  rw[MM oM,←b,e]
theorem q9 {a:Rat}:0<a.num.sign↔0<a:=by
 rw[Rat.lt_iff]
 rcases Int.lt_trichotomy a.num 0 with h|h|h
 ·rw[LC h];simp;omega
 ·rw[h];simp
 ·rw[LD h];simpa using h
theorem Bi {op n:Int}{a b:Rat}(h:op=10)(c:0<a.num.sign):a=mB op n 0 a b:=by
 subst h;have h1:=q9.1 c
 show a=maxR a 0
 unfold maxR;rw[MM (by grind)]
theorem Br {op n:Int}{a b:Rat}(h:op=10)(c:¬0<a.num.sign):((0:Int):Rat)=mB op n 0 a b:=by
 subst h;have h1:¬0<a:=fun x=>c (q9.2 x)
 show (0:Rat)=maxR a 0
 unfold maxR;split
 ·rfl
 ·grind
theorem Fp {op n:Int}{a b:Rat}(h:op=11):a/(((1:Int):Rat)+dw a)=mB op n 0 a b:=by
 subst h
 show _=a/(dw a+((1:Int):Rat))
 rw[Rat.add_comm]
theorem BH {op n:Int}{a b:Rat}(h:op=12)(c:0≤cX a b):a=mB op n 0 a b:=by
 subst h
 show a=maxR a b
 unfold maxR;rw[MM (fun x=>by have:=iA.2 x;omega)]
theorem BJ {op n:Int}{a b:Rat}(h:op=12)(c:¬0≤cX a b):b=mB op n 0 a b:=by
 subst h
 show b=maxR a b
 unfold maxR;rw[MN (iA.1 oM)]
theorem Ac {op n:Int}{a b:Rat}(h:op=13)(c:cX a b≤0):a=mB op n 0 a b:=by
 subst h
 show a=lw a b
 unfold lw;rw[MM (fun x=>by have:=iq.2 x;omega)]
theorem AD {op n:Int}{a b:Rat}(h:op=13)(c:¬cX a b≤0):b=mB op n 0 a b:=by
 subst h
 show b=lw a b
 unfold lw;rw[MN (iq.1 oM)]
theorem CJ (o:OSt)(A:Option Addr)(c:Nat)(D:Option Addr)(d:Nat)(l:(lim (ab o.q.num)).length≤c)(p:(lim (nM o)).length≤d)(hz:o.has=false→o.q=0)(w:World)(h:Hp)(g:G w h)(z:S3 A (lim (ab o.q.num)) h)(u:S3 D (lim (nM o)) h):CR 94 #[.agg #[.bool (ai o.q.num),.slice A ((lim (ab o.q.num)).length) c,.slice D ((lim (nM o)).length) d]] w h (fun v h1=>RQ h1 v o.q):=by
 have a:=(((sS g).aS z).aS u);refine go Tryz.func94 [(0,.agg #[.bool (ai o.q.num),qS A ((lim (ab o.q.num)).length) c,qS D ((lim (nM o)).length) d])] rfl (av (lA 1 28 ([.bool (ai o.q.num),qS A ((lim (ab o.q.num)).length) c,qS D ((lim (nM o)).length) d]) a (fun I w2 J a=>lA 2 28 ec a (fun L K F a=>ah (aa a [.o 3 (.agg #[.bool (ai o.q.num),qS A ((lim (ab o.q.num)).length) c,qS D ((lim (nM o)).length) d]) 1 0 3] (ag 4 a (j7 o.q.num A c (nM o) D d l p _ _ a.g a.f.2.1 a.f.1) (fun H M a=>?_)))))));cases b:(decide (nM o=0∨o.q.num=0))
 ·
  have e:=oF b;exact af (cK (aa a [.o 6 (.agg #[.bool (ai o.q.num),qS A ((lim (ab o.q.num)).length) c,qS D ((lim (nM o)).length) d]) 1 0 3] (lP 0 0 ([.bool (ai o.q.num),qS A ((lim (ab o.q.num)).length) c,qS D ((lim (nM o)).length) d]) a (fun _ a=>ac a [(0,0,3)] (.agg #[.bool (ai o.q.num),qS A ((lim (ab o.q.num)).length) c,qS D ((lim (nM o)).length) d]) (by have i:=vm hz (o:=o) oM;show RP _ _ o.q.num o.q.den;rw[←i];exact ⟨A,c,D,d,rfl,l,p,a.f.2.1,a.f.1⟩)))))
 have e:=oT b;refine ak (av (lC 5 a (mr 0 oM oM _ _ a.g) ?_));rintro _ _ _ a ⟨za,zb,j,k,rfl,C,x,y,B⟩;replace a:=a.aP y B;exact lP 0 0 (cW ((0:Int):Rat) za zb j k) a (fun _ a=>ac a [(0,0,3)] (rG ((0:Int):Rat) za zb j k) (RQ.eq ⟨_,_,_,_,rfl,C,x,a.f.2.1,a.f.1⟩ (xV hz oM).symm))
theorem Dw (q:Rat)(c:Option Addr)(c1:Nat)(d:Option Addr)(j:Nat)(B:(lim (ab q.num)).length≤c1)(D:(lim q.den).length≤j)(n:Int)(K:Nat)(hK:14*K+20≤100000000)(z:LQ K q)(hn : -13≤n∧n≤13)(h0:0≤n)(m:Nat)(hm:(m:Int)=n)(w:World)(h:Hp)(g:G w h)(J:S3 c (lim (ab q.num)) h)(F:S3 d (lim q.den) h):CR 149 #[rG q c c1 d j,iV n] w h (fun v h1=>∃ x,v=.tuple #[x,.bool true]∧RQ h1 x (cl q m)):=by
 have a:=(((sS g).aS J).aS F);refine go Tryz.func149 [(0,rG q c c1 d j),(1,iV n)] rfl (av (lA 2 28 (cW q c c1 d j) a (fun M w2 h3 a=>lA 4 28 ec a (fun X w5 h6 a=>lL a [.v 5 qF] (ah (aa a [.m 8 1] ?_))))));have ⟨H,L⟩:=dF (p:=(n:Int)<(0:Int)) oM;refine lB 9 H (af (cK (av (lC 22 a (mr 1 oM oM _ _ a.g) ?_))));rintro _ _ _ a ⟨I,c9,zb,Q,rfl,zk,zl,zm,zn⟩;replace a:=a.aP zm zn;refine lA 6 28 ec a (fun Y _ zs a=>lP 0 0 (cW ((1:Int):Rat) I c9 zb Q) a (fun _ a=>ah (aa a [.v 7 (iV 0)] (a8 ?_))));replace a:=a.aS a.f.1;replace a:=a.aS a.f.r.1;refine bH _ (CG.loop (fun C Γ w_=>∃ (k:Nat) (e:Option Addr) (cS:Nat) (i:Option Addr) (b:Nat) (h_:Hp),C=m-k∧Γ=[(1,iV n),(2,pB M),(4,pB X),(5,qF),(6,pB Y),(7,nV k)]∧SS w h w_ h_ [⟨Y,28,cW (cl q k) e cS i b⟩,⟨X,28,[qF,sZ,sZ]⟩,⟨M,28,cW q c c1 d j⟩] [] [S3 e (lim (ab (cl q k).num)),S3 i (lim (cl q k).den),S3 zb (lim ((1:Int):Rat).den),S3 I (lim (ab ((1:Int):Rat).num)),S3 d (lim q.den),S3 c (lim (ab q.num))]∧k≤m∧(lim (ab (cl q k).num)).length≤cS∧(lim (cl q k).den).length≤b) _ ⟨0,I,c9,zb,Q,zs,rfl,rfl,a.to _ _,K7 _,zk,zl⟩ ?_);rintro _ _ _ ⟨k,e,cS,i,b,_,V,rfl,a,hk,y,u⟩;have hkK:k*K≤13*K:=z7 _ oM;have l:=it z k;refine cQ (aa a [.m 23 7,.m 24 1] ?_);cases za:(decide ((k:Int)<(n:Int)))
 ·
  have zc:=oF za;refine lB 25 za (af (CG.exit ?_))
  show CG _ _ _ _ _ _ _ _
  exact aa a [.o 31 (rG (cl q k) e cS i b) 0 0 3] (lP 1 0 (cW (cl q k) e cS i b) a (fun _ a=>lL a [.v 5 qT] (ac a [(1,0,3)] (.tuple #[rG (cl q k) e cS i b,qT]) (⟨_,rfl,(by rw[show m=k by omega];exact ⟨_,_,_,_,rfl,y,u,a.f.1,a.f.2.1⟩)⟩))))
 have zc:=oT za;refine lB 25 za (ak (cK (cQ (kZ (kQ (lL a [.o 28 (rG (cl q k) e cS i b) 0 0 3,.o 29 (rG q c c1 d j) 2 0 3] ?_))))));have Z:=LQ.mul l z;refine lC 30 a (G7 (cl q k) e cS i b y u (nl l) (nD l) q c c1 d j B D (nl z) (nD z) _ _ a.g a.f.1 a.f.2.1 a.f.q.2.1 a.f.q.1) ?_;rintro _ _ zt a ⟨O,S,W,U,rfl,zo,zp,zq,zr⟩;replace a:=a.aP zq zr;refine lP 0 0 (cW ((cl q k)*q) O S W U) a (fun _ a=>lN (kQ (lL a [.m 26 7] (bD 27 ((k:Nat)+1) (k+1) ?_))));refine lL a [.m 7 27] (lD ?_);intro a_ ka;replace a:=((a.tl.tl.tl.tl.aS a.f.1).aS a.f.2.1);refine ⟨_,_,?_,⟨k+1,O,S,W,U,zt,rfl,rfl,a.to _ _,oM,zo,zp⟩,ka.to _ kR⟩
 omega
theorem Ga (q:Rat)(c:Option Addr)(c1:Nat)(d:Option Addr)(b:Nat)(j:(lim (ab q.num)).length≤c1)(i:(lim q.den).length≤b)(n:Int)(K:Nat)(hK:14*K+48≤100000000)(e:LQ K q)(hn : -13≤n∧n≤13)(h0:n<0)(hq0:q≠0)(m:Nat)(hm:m=n.natAbs)(w:World)(h:Hp)(g:G w h)(C:S3 c (lim (ab q.num)) h)(u:S3 d (lim q.den) h):CR 149 #[rG q c c1 d b,iV n] w h (fun v h1=>∃ x,v=.tuple #[x,.bool true]∧RQ h1 x (fB q n)):=by
 have a:=(((sS g).aS C).aS u);have D:=np hq0;have X:q.num.sign=0↔q.num=0:=Mi;refine go Tryz.func149 [(0,rG q c c1 d b),(1,iV n)] rfl (av (lA 2 28 (cW q c c1 d b) a (fun b1 w2 h3 a=>lA 4 28 ec a (fun b4 w5 h6 a=>lL a [.v 5 qF] (ah (aa a [.m 8 1] ?_))))));have ⟨B,I⟩:=dT (p:=(n:Int)<(0:Int)) oM;refine lB 9 B (ak (cQ (aa a [.o 10 (rG q c c1 d b) 1 0 3] (ag 11 a (oq q c c1 d b j i (nl e) (nD e) _ _ a.g a.f.2.1 a.f.1) (fun w8 h9 a=>?_)))));have za:((q.num.sign:Int) == (0:Int))=false:=bJ oM;have l:=ae za;refine lB 12 za (af (cK (cQ (cR 8 [] mixed a ar ?_))));refine eO 1 15 [(1,0,3)] (rG q c c1 d b) a (eV 3 17 (iV n) (eI 4 18 (0-n) (eC 0 14 a (fun _ _ a=>mr 1 oM oM _ _ a.g) ?_)));rintro _ _ _ _ _ a ⟨Z,zt,L,Y,rfl,zf,zg,zi,zj⟩;replace a:=a.aP zi zj;have H:=LQ.div (LQ.lit (z:=1) kD) e;refine eC 2 16 a (fun _ _ a=>FA ((1:Int):Rat) Z zt L Y zf zg (nl (LQ.lit (z:=1) kD)) (nD (LQ.lit (z:=1) kD)) q c c1 d b j i (nl e) (nD e) D _ _ a.g a.f.2.1 a.f.1 a.f.r.2.1 a.f.r.1) ?_;rintro _ _ _ _ _ a ⟨zw,S,zA,O,rfl,W,U,V,Q⟩;replace a:=a.aP V Q;refine eC 5 19 a (fun _ _ a=>Dw (((1:Int):Rat)/q) zw S zA O W U (0-n) (K+2) oM (LQ.mono ((LQ.lit (z:=1) kD).div e) oM) oM oM m oM _ _ a.g a.f.2.1 a.f.1) ?_;rintro _ _ _ _ _ a ⟨_,rfl,zb,k,y,F,rfl,J,M,zq,zr⟩;replace a:=a.aP zq zr;exact eV 6 20 (rG (cl (((1:Int):Rat)/q) m) zb k y F) (eV 7 21 qT (ck a (fun _ _ a=>tP 8 0 0 (cW (cl (((1:Int):Rat)/q) m) zb k y F) a (fun _ a=>tV 9 5 qT (tN (kX (a.ret [(0,0,3)] (.tuple #[rG (cl (((1:Int):Rat)/q) m) zb k y F,qT]) (⟨_,rfl,RQ.eq ⟨_,_,_,_,rfl,J,M,a.f.2.1,a.f.1⟩ (u6 hq0 oM hm)⟩))))))))
theorem GO (q:Rat)(c:Option Addr)(c1:Nat)(d:Option Addr)(b:Nat)(u:(lim (ab q.num)).length≤c1)(i:(lim q.den).length≤b)(n:Int)(K:Nat)(Y:14*K+48≤100000000)(B:LQ K q)(Q : -13≤n∧n≤13)(h0:n<0)(hq0:q=0)(w:World)(h:Hp)(g:G w h)(l:S3 c (lim (ab q.num)) h)(j:S3 d (lim q.den) h):CR 149 #[rG q c c1 d b,iV n] w h (fun v h1=>∃ x,v=.tuple #[x,.bool false]∧RQ h1 x ((0:Int):Rat)):=by
 have a:=(((sS g).aS l).aS j);have F:q.num.sign=0:=by rw[hq0];rfl
 refine go Tryz.func149 [(0,rG q c c1 d b),(1,iV n)] rfl (av (lA 2 28 (cW q c c1 d b) a (fun S w2 U a=>lA 4 28 ec a (fun W V O a=>lL a [.v 5 qF] (ah (aa a [.m 8 1] ?_))))));have ⟨k,z⟩:=dT (p:=(n:Int)<(0:Int)) oM;refine lB 9 k (ak (cQ (aa a [.o 10 (rG q c c1 d b) 1 0 3] (ag 11 a (oq q c c1 d b u i (nl B) (nD B) _ _ a.g a.f.2.1 a.f.1) (fun M X a=>?_)))));have za:((q.num.sign:Int) == (0:Int))=true:=fg oM;have e:=ML za;refine lB 12 za (ak (av (lC 13 a (mr 0 oM oM _ _ a.g) ?_)));rintro _ _ _ a ⟨zb,y,C,D,rfl,H,I,L,J⟩;replace a:=a.aP L J;exact lP 0 0 (cW ((0:Int):Rat) zb y C D) a (fun _ a=>lL a [.v 5 qF] (ac a [(0,0,3)] (.tuple #[rG ((0:Int):Rat) zb y C D,qF]) (⟨_,rfl,⟨_,_,_,_,rfl,H,I,a.f.2.1,a.f.1⟩⟩)))
theorem IZ (q:Rat)(i:Option Addr)(c1:Nat)(j:Option Addr)(f:Nat)(d:(lim (ab q.num)).length≤c1)(a:(lim q.den).length≤f)(n:Int)(K:Nat)(p:14*K+48≤100000000)(l:LQ K q)(k : -13≤n∧n≤13)(o:n<0→q≠0)(w:World)(h:Hp)(g:G w h)(c:S3 i (lim (ab q.num)) h)(b:S3 j (lim q.den) h):CR 149 #[rG q i c1 j f,iV n] w h (fun v h1=>∃ x,v=.tuple #[x,.bool true]∧RQ h1 x (fB q n)):=by
 by_cases hs:0≤n
 ·have x:=Dw q i c1 j f d a n K oM l k hs n.toNat oM w h g c b
  have e:fB q n=cl q n.toNat:=by unfold fB;rw[MN hs,show n.natAbs=n.toNat by omega]
  rw[e];exact x
 ·exact Ga q i c1 j f d a n K p l k oM (o oM) n.natAbs rfl w h g c b
theorem I0 (op n:Int)(a:Rat)(d:Option Addr)(c1:Nat)(i:Option Addr)(j:Nat)(k:(lim (ab a.num)).length≤c1)(l:(lim a.den).length≤j)(b:Rat)(p:Option Addr)(c2:Nat)(u:Option Addr)(y:Nat)(B:(lim (ab b.num)).length≤c2)(C:(lim b.den).length≤y)(K:Nat)(hK:14*K+48≤100000000)(ha:LQ K a)(D:LQ K b)(hop:3≤op∧op≤13)(hn:op=8 → -12≤n∧n≤12)(H:i5 op n a b)(w:World)(h:Hp)(g:G w h)(hA1:S3 d (lim (ab a.num)) h)(hD1:S3 i (lim a.den) h)(hA2:S3 p (lim (ab b.num)) h)(Z:S3 u (lim b.den) h):CR 95 #[iV op,iV n,rG a d c1 i j,rG b p c2 u y] w h (fun v h1=>∃ x,v=.tuple #[x,.bool true]∧RQ h1 x (mB op n 0 a b)):=by
 have c:=(((((sS g).aS hA1).aS hD1).aS hA2).aS Z);have hsz:b.num.sign=0↔b.num=0:=Mi;have F:=fun e=>np (H.1 e)
 refine go Tryz.func95 [(0,iV op),(1,iV n),(2,rG a d c1 i j),(3,rG b p c2 u y)] rfl (av (lA 6 28 (cW a d c1 i j) c (fun b1 w2 h3 c=>lA 7 28 (cW b p c2 u y) c (fun b4 w5 h6 c=>lA 8 28 ec c (fun b7 w8 h9 c=>lL c [.v 9 qF] (ah (aa c [.m 10 0] (a8 (av ?_)))))))));cases zb:((op:Int) == (3:Int))
 ·
  have zX:=ae zb;refine lB 12 zb (lL c [.m 11 12] (af (av ?_)));cases W:((op:Int) == (4:Int))
  ·
   have ya:=ae W;refine lB 17 W (lL c [.m 16 17] (af (av ?_)));cases Q:((op:Int) == (5:Int))
   ·
    have yb:=ae Q;refine lB 22 Q (lL c [.m 21 22] (af (av ?_)));cases V:((op:Int) == (6:Int))
    ·
     have yc:=ae V;refine lB 27 V (lL c [.m 26 27] (af (av ?_)));cases S:((op:Int) == (7:Int))
     ·
      have yd:=ae S;refine lB 36 S (lL c [.m 35 36] (af (av ?_)));cases Y:((op:Int) == (8:Int))
      ·
       have ye:=ae Y;refine lB 40 Y (lL c [.m 39 40] (af (av ?_)));cases M:((op:Int) == (9:Int))
       ·
        have yf:=ae M;refine lB 47 M (lL c [.m 46 47] (af (av ?_)));cases U:((op:Int) == (10:Int))
        ·
         have yg:=ae U;refine lB 51 U (lL c [.m 50 51] (af (av ?_)));cases O:((op:Int) == (11:Int))
         ·
          have yi:=ae O;refine lB 58 O (lL c [.m 57 58] (af (av ?_)));cases X:((op:Int) == (12:Int))
          ·
           have yj:=ae X;refine lB 66 X (lL c [.m 65 66] (af (cK (cQ (aa c [.o 73 (rG a d c1 i j) 2 0 3,.o 74 (rG b p c2 u y) 1 0 3] (ag 75 c (Cc a d c1 i j k l (nl ha) (nD ha) b p c2 u y B C (nl D) (nD D) _ _ c.g c.f.r.2.1 c.f.r.1 c.f.2.1 c.f.1) (fun _ _ c=>?_)))))));cases J:(decide ((cX a b:Int)≤(0:Int)))
           ·
            have yk:=oF J;exact lB 76 J (af (cK (aa c [.o 78 (rG b p c2 u y) 1 0 3] (lP 0 0 (cW b p c2 u y) c (fun _ c=>lL c [.v 9 qT] (ac c [(0,0,3)] (.tuple #[rG b p c2 u y,qT]) (⟨_,rfl,RQ.eq ⟨_,_,_,_,rfl,B,C,c.f.2.1,c.f.1⟩ (AD oM oM)⟩)))))))
           have yk:=oT J;exact lB 76 J (ak (aa c [.o 77 (rG a d c1 i j) 2 0 3] (lP 0 0 (cW a d c1 i j) c (fun _ c=>lL c [.v 9 qT] (ac c [(0,0,3)] (.tuple #[rG a d c1 i j,qT]) (⟨_,rfl,RQ.eq ⟨_,_,_,_,rfl,k,l,c.f.r.2.1,c.f.r.1⟩ (Ac oM oM)⟩))))))
          have yj:=ML X;refine lB 66 X (lL c [.m 65 66] (ak (cQ (aa c [.o 67 (rG a d c1 i j) 2 0 3,.o 68 (rG b p c2 u y) 1 0 3] (ag 69 c (Cc a d c1 i j k l (nl ha) (nD ha) b p c2 u y B C (nl D) (nD D) _ _ c.g c.f.r.2.1 c.f.r.1 c.f.2.1 c.f.1) (fun _ _ c=>?_))))));cases I:(decide ((0:Int)≤(cX a b:Int)))
          ·
           have yl:=oF I;exact lB 70 I (af (cK (aa c [.o 72 (rG b p c2 u y) 1 0 3] (lP 0 0 (cW b p c2 u y) c (fun _ c=>lL c [.v 9 qT] (ac c [(0,0,3)] (.tuple #[rG b p c2 u y,qT]) (⟨_,rfl,RQ.eq ⟨_,_,_,_,rfl,B,C,c.f.2.1,c.f.1⟩ (BJ oM oM)⟩)))))))
          have yl:=oT I;exact lB 70 I (ak (aa c [.o 71 (rG a d c1 i j) 2 0 3] (lP 0 0 (cW a d c1 i j) c (fun _ c=>lL c [.v 9 qT] (ac c [(0,0,3)] (.tuple #[rG a d c1 i j,qT]) (⟨_,rfl,RQ.eq ⟨_,_,_,_,rfl,k,l,c.f.r.2.1,c.f.r.1⟩ (BH oM oM)⟩))))))
         have yi:=ML O;refine lB 58 O (lL c [.m 57 58] (ak (cQ (cR 6 [] mixed c ar ?_))));refine eO 0 59 [(2,0,3)] (rG a d c1 i j) c (eO 2 61 [(2,0,3)] (rG a d c1 i j) c (eC 1 60 c (fun _ _ c=>mr 1 oM oM _ _ c.g) ?_));rintro _ _ _ _ _ c ⟨ZI,ZJ,ZK,ZL,rfl,Zd,Ze,Zf,Zg⟩;replace c:=c.aP Zf Zg;have zp:LQ (K) (dw a):=LQ.abs ha;refine eC 3 62 c (fun _ _ c=>G5 a d c1 i j k l (nl ha) (nD ha) _ _ c.g c.f.q.2.1 c.f.q.1) ?_;rintro _ _ _ _ _ c ⟨ZM,ZN,ZO,ZP,rfl,Zi,Zj,Zk,Zl⟩;replace c:=c.aP Zk Zl;have zq:=LQ.add (LQ.lit (z:=1) kD) zp;refine eC 4 63 c (fun _ _ c=>Eh ((1:Int):Rat) ZI ZJ ZK ZL Zd Ze (nl (LQ.lit (z:=1) kD)) (nD (LQ.lit (z:=1) kD)) (dw a) ZM ZN ZO ZP Zi Zj (nl zp) (nD zp) _ _ c.g c.f.r.2.1 c.f.r.1 c.f.2.1 c.f.1) ?_;rintro _ _ _ _ _ c ⟨ZQ,ZR,ZS,ZT,rfl,Zm,Zn,Zo,Zp⟩;replace c:=c.aP Zo Zp;have bt:=LQ.div ha zq;refine eC 5 64 c (fun _ _ c=>FA a d c1 i j k l (nl ha) (nD ha) (((1:Int):Rat)+(dw a)) ZQ ZR ZS ZT Zm Zn (nl zq) (nD zq) (l5 a) _ _ c.g c.f.q.q.2.1 c.f.q.q.1 c.f.2.1 c.f.1) ?_;rintro _ _ _ _ _ c ⟨yP,yQ,yR,yS,rfl,Zq,Zr,Zs,Zt⟩;replace c:=c.aP Zs Zt;exact ck c (fun _ _ c=>tP 6 0 0 (cW (a/(((1:Int):Rat)+(dw a))) yP yQ yR yS) c (fun _ c=>tV 7 9 qT (tN (kX (c.ret [(0,0,3)] (.tuple #[rG (a/(((1:Int):Rat)+(dw a))) yP yQ yR yS,qT]) (⟨_,rfl,RQ.eq ⟨_,_,_,_,rfl,Zq,Zr,c.f.2.1,c.f.1⟩ (Fp oM)⟩))))))
        have yg:=ML U;refine lB 51 U (lL c [.m 50 51] (ak (cQ (aa c [.o 52 (rG a d c1 i j) 2 0 3] (ag 53 c (oq a d c1 i j k l (nl ha) (nD ha) _ _ c.g c.f.r.2.1 c.f.r.1) (fun _ _ c=>?_))))));cases L:(decide ((0:Int)<(a.num.sign:Int)))
        ·
         have ym:=oF L;refine lB 54 L (af (cK (av (lC 56 c (mr 0 oM oM _ _ c.g) ?_))));rintro _ _ _ c ⟨yT,yU,yV,yW,rfl,Zu,Zv,Zw,Zx⟩;replace c:=c.aP Zw Zx;exact lP 0 0 (cW ((0:Int):Rat) yT yU yV yW) c (fun _ c=>lL c [.v 9 qT] (ac c [(0,0,3)] (.tuple #[rG ((0:Int):Rat) yT yU yV yW,qT]) (⟨_,rfl,RQ.eq ⟨_,_,_,_,rfl,Zu,Zv,c.f.2.1,c.f.1⟩ (Br oM oM)⟩)))
        have ym:=oT L;exact lB 54 L (ak (aa c [.o 55 (rG a d c1 i j) 2 0 3] (lP 0 0 (cW a d c1 i j) c (fun _ c=>lL c [.v 9 qT] (ac c [(0,0,3)] (.tuple #[rG a d c1 i j,qT]) (⟨_,rfl,RQ.eq ⟨_,_,_,_,rfl,k,l,c.f.r.2.1,c.f.r.1⟩ (Bi oM oM)⟩))))))
       have yf:=ML M;refine lB 47 M (lL c [.m 46 47] (ak (aa c [.o 48 (rG a d c1 i j) 2 0 3] ?_)));have br:LQ (K) (dw a):=LQ.abs ha;refine lC 49 c (G5 a d c1 i j k l (nl ha) (nD ha) _ _ c.g c.f.r.2.1 c.f.r.1) ?_;rintro _ _ _ c ⟨yX,Za,Zb,Zc,rfl,ZA,ZB,ZC,ZD⟩;replace c:=c.aP ZC ZD;exact lP 0 0 (cW (dw a) yX Za Zb Zc) c (fun _ c=>lL c [.v 9 qT] (ac c [(0,0,3)] (.tuple #[rG (dw a) yX Za Zb Zc,qT]) (⟨_,rfl,RQ.eq ⟨_,_,_,_,rfl,ZA,ZB,c.f.2.1,c.f.1⟩ (by rw[show op=9 by omega];rfl)⟩)))
      have ye:=ML Y;refine lB 40 Y (lL c [.m 39 40] (ak (aa c [.o 41 (rG a d c1 i j) 2 0 3,.m 42 1] (lC 43 c (IZ a d c1 i j k l n K hK ha oM (H.2 oM) _ _ c.g c.f.r.2.1 c.f.r.1) ?_))));rintro _ _ _ c ⟨_,rfl,zr,zs,zt,zu,rfl,yn,yo,yp,yq⟩;replace c:=c.aP yp yq;exact lL c [.v 44 (rG (fB a n) zr zs zt zu),.v 45 qT] (lP 0 0 (cW (fB a n) zr zs zt zu) c (fun _ c=>lL c [.m 9 45] (ac c [(0,0,3)] (.tuple #[rG (fB a n) zr zs zt zu,qT]) (⟨_,rfl,RQ.eq ⟨_,_,_,_,rfl,yn,yo,c.f.2.1,c.f.1⟩ (by rw[show op=8 by omega];rfl)⟩))))
     have yd:=ML S;refine lB 36 S (lL c [.m 35 36] (ak (aa c [.o 37 (rG a d c1 i j) 2 0 3] ?_)));have bd:LQ (K) (-a):=LQ.neg ha;refine lC 38 c (GF a d c1 i j k l (nl ha) (nD ha) _ _ c.g c.f.r.2.1 c.f.r.1) ?_;rintro _ _ _ c ⟨zv,zw,zx,zA,rfl,yr,ys,yt,yu⟩;replace c:=c.aP yt yu;exact lP 0 0 (cW (-a) zv zw zx zA) c (fun _ c=>lL c [.v 9 qT] (ac c [(0,0,3)] (.tuple #[rG (-a) zv zw zx zA,qT]) (⟨_,rfl,RQ.eq ⟨_,_,_,_,rfl,yr,ys,c.f.2.1,c.f.1⟩ (by rw[show op=7 by omega];rfl)⟩)))
    have yc:=ML V;refine lB 27 V (lL c [.m 26 27] (ak (cQ (aa c [.o 28 (rG b p c2 u y) 1 0 3] (ag 29 c (oq b p c2 u y B C (nl D) (nD D) _ _ c.g c.f.2.1 c.f.1) (fun _ _ c=>?_))))));cases za:((b.num.sign:Int) == (0:Int))
    ·
     have zB:=ae za;refine lB 30 za (af (cK (aa c [.o 32 (rG a d c1 i j) 2 0 3,.o 33 (rG b p c2 u y) 1 0 3] ?_)));have bb:=LQ.div ha D;refine lC 34 c (FA a d c1 i j k l (nl ha) (nD ha) b p c2 u y B C (nl D) (nD D) (F oM) _ _ c.g c.f.r.2.1 c.f.r.1 c.f.2.1 c.f.1) ?_;rintro _ _ _ c ⟨zD,zE,zG,zH,rfl,yv,yw,yx,yA⟩;replace c:=c.aP yx yA;exact lP 0 0 (cW (a/b) zD zE zG zH) c (fun _ c=>lL c [.v 9 qT] (ac c [(0,0,3)] (.tuple #[rG (a/b) zD zE zG zH,qT]) (⟨_,rfl,RQ.eq ⟨_,_,_,_,rfl,yv,yw,c.f.2.1,c.f.1⟩ (by rw[show op=6 by omega];rfl)⟩)))
    have zB:=ML za;refine lB 30 za (ak (av (lC 31 c (mr 0 oM oM _ _ c.g) ?_)));rintro _ _ _ c ⟨ZE,ZF,ZG,ZH,rfl,bl,bm,yB,yC⟩;replace c:=c.aP yB yC;refine lP 0 0 (cW ((0:Int):Rat) ZE ZF ZG ZH) c (fun _ c=>lL c [.v 9 qF] (lN (kX ?_)));exact MO (show b.num=0 by omega) (F oM)
   have yb:=ML Q;refine lB 22 Q (lL c [.m 21 22] (ak (aa c [.o 23 (rG a d c1 i j) 2 0 3,.o 24 (rG b p c2 u y) 1 0 3] ?_)));have bn:=LQ.mul ha D;refine lC 25 c (G7 a d c1 i j k l (nl ha) (nD ha) b p c2 u y B C (nl D) (nD D) _ _ c.g c.f.r.2.1 c.f.r.1 c.f.2.1 c.f.1) ?_;rintro _ _ _ c ⟨zI,zJ,zK,zL,rfl,yD,yE,yF,yG⟩;replace c:=c.aP yF yG;exact lP 0 0 (cW (a*b) zI zJ zK zL) c (fun _ c=>lL c [.v 9 qT] (ac c [(0,0,3)] (.tuple #[rG (a*b) zI zJ zK zL,qT]) (⟨_,rfl,RQ.eq ⟨_,_,_,_,rfl,yD,yE,c.f.2.1,c.f.1⟩ (by rw[show op=5 by omega];rfl)⟩)))
  have ya:=ML W;refine lB 17 W (lL c [.m 16 17] (ak (aa c [.o 18 (rG a d c1 i j) 2 0 3,.o 19 (rG b p c2 u y) 1 0 3] ?_)));have bk:=LQ.sub ha D;refine lC 20 c (Iu a d c1 i j k l (nl ha) (nD ha) b p c2 u y B C (nl D) (nD D) _ _ c.g c.f.r.2.1 c.f.r.1 c.f.2.1 c.f.1) ?_;rintro _ _ _ c ⟨zM,zN,zP,zQ,rfl,yH,yI,yJ,yK⟩;replace c:=c.aP yJ yK;exact lP 0 0 (cW (a-b) zM zN zP zQ) c (fun _ c=>lL c [.v 9 qT] (ac c [(0,0,3)] (.tuple #[rG (a-b) zM zN zP zQ,qT]) (⟨_,rfl,RQ.eq ⟨_,_,_,_,rfl,yH,yI,c.f.2.1,c.f.1⟩ (by rw[show op=4 by omega];rfl)⟩)))
 have zX:=ML zb;refine lB 12 zb (lL c [.m 11 12] (ak (aa c [.o 13 (rG a d c1 i j) 2 0 3,.o 14 (rG b p c2 u y) 1 0 3] ?_)));have bq:=LQ.add ha D;refine lC 15 c (Eh a d c1 i j k l (nl ha) (nD ha) b p c2 u y B C (nl D) (nD D) _ _ c.g c.f.r.2.1 c.f.r.1 c.f.2.1 c.f.1) ?_;rintro _ _ _ c ⟨zR,zS,zU,zW,rfl,yL,yM,yN,yO⟩;replace c:=c.aP yN yO;exact lP 0 0 (cW (a+b) zR zS zU zW) c (fun _ c=>lL c [.v 9 qT] (ac c [(0,0,3)] (.tuple #[rG (a+b) zR zS zU zW,qT]) (⟨_,rfl,RQ.eq ⟨_,_,_,_,rfl,yL,yM,c.f.2.1,c.f.1⟩ (by rw[show op=3 by omega];rfl)⟩)))
theorem Ia (op n:Int)(a:Rat)(k:Option Addr)(c1:Nat)(l:Option Addr)(j:Nat)(hc1:(lim (ab a.num)).length≤c1)(hd1:(lim a.den).length≤j)(b:Rat)(d:Option Addr)(c2:Nat)(i:Option Addr)(e:Nat)(p:(lim (ab b.num)).length≤c2)(F:(lim b.den).length≤e)(K:Nat)(hK:14*K+48≤100000000)(ha:LQ K a)(V:LQ K b)(hop:op=6)(H:b=0)(w:World)(h:Hp)(g:G w h)(J:S3 k (lim (ab a.num)) h)(B:S3 l (lim a.den) h)(y:S3 d (lim (ab b.num)) h)(u:S3 i (lim b.den) h):CR 95 #[iV op,iV n,rG a k c1 l j,rG b d c2 i e] w h (fun v h1=>∃ x,v=.tuple #[x,.bool false]∧RQ h1 x ((0:Int):Rat)):=by
 have c:=(((((sS g).aS J).aS B).aS y).aS u);have hsz:b.num.sign=0:=by rw[H];rfl
 refine go Tryz.func95 [(0,iV op),(1,iV n),(2,rG a k c1 l j),(3,rG b d c2 i e)] rfl (av (lA 6 28 (cW a k c1 l j) c (fun b1 w2 h3 c=>lA 7 28 (cW b d c2 i e) c (fun b4 w5 h6 c=>lA 8 28 ec c (fun b7 w8 h9 c=>lL c [.v 9 qF] (ah (aa c [.m 10 0] (a8 (av ?_)))))))));have za:((op:Int) == (3:Int))=false:=bJ oM;have z:=ae za;refine lB 12 za (lL c [.m 11 12] (af (av ?_)));have zb:((op:Int) == (4:Int))=false:=bJ oM;have C:=ae zb;refine lB 17 zb (lL c [.m 16 17] (af (av ?_)));have M:((op:Int) == (5:Int))=false:=bJ oM;have D:=ae M;refine lB 22 M (lL c [.m 21 22] (af (av ?_)));have Q:((op:Int) == (6:Int))=true:=fg oM;have I:=ML Q;refine lB 27 Q (lL c [.m 26 27] (ak (cQ (aa c [.o 28 (rG b d c2 i e) 1 0 3] (ag 29 c (oq b d c2 i e p F (nl V) (nD V) _ _ c.g c.f.2.1 c.f.1) (fun _ _ c=>?_))))));have X:((b.num.sign:Int) == (0:Int))=true:=fg oM;have L:=ML X;refine lB 30 X (ak (av (lC 31 c (mr 0 oM oM _ _ c.g) ?_)));rintro _ _ _ c ⟨O,S,W,U,rfl,zk,Z,zm,Y⟩;replace c:=c.aP zm Y;exact lP 0 0 (cW ((0:Int):Rat) O S W U) c (fun _ c=>lL c [.v 9 qF] (ac c [(0,0,3)] (.tuple #[rG ((0:Int):Rat) O S W U,qF]) (⟨_,rfl,⟨_,_,_,_,rfl,zk,Z,c.f.2.1,c.f.1⟩⟩)))
theorem Ix (op n:Int)(a:Rat)(e:Option Addr)(c1:Nat)(i:Option Addr)(d:Nat)(U:(lim (ab a.num)).length≤c1)(C:(lim a.den).length≤d)(b:Rat)(j:Option Addr)(c2:Nat)(l:Option Addr)(k:Nat)(Z:(lim (ab b.num)).length≤c2)(hd2:(lim b.den).length≤k)(K:Nat)(hK:14*K+48≤100000000)(ha:LQ K a)(hb:LQ K b)(hop:op=8)(hn : -12≤n∧n<0)(u:a=0)(w:World)(h:Hp)(g:G w h)(S:S3 e (lim (ab a.num)) h)(D:S3 i (lim a.den) h)(z:S3 j (lim (ab b.num)) h)(p:S3 l (lim b.den) h):CR 95 #[iV op,iV n,rG a e c1 i d,rG b j c2 l k] w h (fun v h1=>∃ x,v=.tuple #[x,.bool false]∧RQ h1 x ((0:Int):Rat)):=by
 have c:=(((((sS g).aS S).aS D).aS z).aS p);refine go Tryz.func95 [(0,iV op),(1,iV n),(2,rG a e c1 i d),(3,rG b j c2 l k)] rfl (av (lA 6 28 (cW a e c1 i d) c (fun b1 w2 h3 c=>lA 7 28 (cW b j c2 l k) c (fun b4 w5 h6 c=>lA 8 28 ec c (fun b7 w8 h9 c=>lL c [.v 9 qF] (ah (aa c [.m 10 0] (a8 (av ?_)))))))));have za:((op:Int) == (3:Int))=false:=bJ oM;have B:=ae za;refine lB 12 za (lL c [.m 11 12] (af (av ?_)));have zb:((op:Int) == (4:Int))=false:=bJ oM;have H:=ae zb;refine lB 17 zb (lL c [.m 16 17] (af (av ?_)));have V:((op:Int) == (5:Int))=false:=bJ oM;have I:=ae V;refine lB 22 V (lL c [.m 21 22] (af (av ?_)));have X:((op:Int) == (6:Int))=false:=bJ oM;have O:=ae X;refine lB 27 X (lL c [.m 26 27] (af (av ?_)));have Y:((op:Int) == (7:Int))=false:=bJ oM;have F:=ae Y;refine lB 36 Y (lL c [.m 35 36] (af (av ?_)));have W:((op:Int) == (8:Int))=true:=fg oM;have J:=ML W;refine lB 40 W (lL c [.m 39 40] (ak (aa c [.o 41 (rG a e c1 i d) 2 0 3,.m 42 1] (lC 43 c (GO a e c1 i d U C n K hK ha oM oM u _ _ c.g c.f.r.2.1 c.f.r.1) ?_))));rintro _ _ _ c ⟨_,rfl,L,Q,M,y,rfl,zl,zm,zn,zo⟩;replace c:=c.aP zn zo;exact lL c [.v 44 (rG ((0:Int):Rat) L Q M y),.v 45 qF] (lP 0 0 (cW ((0:Int):Rat) L Q M y) c (fun _ c=>lL c [.m 9 45] (ac c [(0,0,3)] (.tuple #[rG ((0:Int):Rat) L Q M y,qF]) (⟨_,rfl,⟨_,_,_,_,rfl,zl,zm,c.f.2.1,c.f.1⟩⟩))))
theorem Jk (op n:Int)(a:Rat)(p:Option Addr)(c1:Nat)(u:Option Addr)(o:Nat)(l:(lim (ab a.num)).length≤c1)(f:(lim a.den).length≤o)(b:Rat)(B:Option Addr)(c2:Nat)(D:Option Addr)(C:Nat)(c:(lim (ab b.num)).length≤c2)(j:(lim b.den).length≤C)(K:Nat)(I:14*K+48≤100000000)(ha:LQ K a)(F:LQ K b)(H:3≤op∧op≤13)(J:op=8 → -12≤n∧n≤12)(w:World)(h:Hp)(g:G w h)(k:S3 p (lim (ab a.num)) h)(i:S3 u (lim a.den) h)(e:S3 B (lim (ab b.num)) h)(d:S3 D (lim b.den) h):CR 95 #[iV op,iV n,rG a p c1 u o,rG b B c2 D C] w h (fun v h1=>∃ x,v=.tuple #[x,.bool (decide (i5 op n a b))]∧RQ h1 x (gC op n 0 a b)):=by
 by_cases hok:i5 op n a b
 ·unfold gC;rw[MN hok,decide_eq_true hok];exact I0 op n a p c1 u o l f b B c2 D C c j K I ha F H J hok w h g k i e d
 ·unfold gC;rw[MM hok,decide_eq_false hok]
  by_cases h6:op=6∧b=0
  ·exact Ia op n a p c1 u o l f b B c2 D C c j K I ha F h6.1 h6.2 w h g k i e d
  ·by_cases h8:op=8∧n<0∧a=0
   ·exact Ix op n a p c1 u o l f b B c2 D C c j K I ha F h8.1 ⟨(J h8.1).1,h8.2.1⟩ h8.2.2 w h g k i e d
   ·exact MO ⟨fun x y=>h6 ⟨x,y⟩,fun x y z=>h8 ⟨x,y,z⟩⟩ hok
theorem WfT1.two {ok:ByteArray→Prop}{d:Nat}{t:Tm}(h:WfT1 ok (d+1) t):t.ks.length≤2:=by
 have:=h.1;have:=aE t.op
 omega
structure RecOk (nm:Int→ByteArray) (inp:Int) (d:Nat) (l:List Stp) (l2:List Stp) (n:Nat) (t:Tm):Prop where
  lq:(∀ i,LQ 1 (l.getD i ew).q)→∀ i,LQ 1 (l2.getD i ew).q
  dps:∀ dp,DpS dp l→∃ dp',DpS dp' l2∧(∀ k,k<l.length→dp' k=dp k)∧dp' (l2.length-1)≤d
  pre:∃ m,l2=l++m
  len:l2.length=l.length+n
  pos:0<n
  fm:∀ k,k<l2.length→iP inp k (l2.getD k ew)
  tr:∀ f,l2.length≤f→F4 nm l2 f (l2.length-1)=t
structure AllOk (nm:Int→ByteArray) (inp:Int) (d:Nat) (ts:List Tm) (k:Nat) (l:List Stp) (os:List Int) (c:Nat):Prop where
  len:l.length=c
  fm:∀ k,k<l.length→iP inp k (l.getD k ew)
  lq:∀ i,LQ 1 (l.getD i ew).q
  dps:∃ dp,DpS dp l
  out:∀ j,j<k→0≤os.getD j 0∧os.getD j 0<(l.length:Nat)∧F4 nm l (l.length+1) (os.getD j 0).toNat=ts.getD j bv
theorem vf (k:Bool)(l:Option Addr)(i b:Nat)(a:Option Addr)(j f:Nat)(q:Rat)(w:World)(h:Hp)(g:G w h)(B:RZ h (k,.slice l i b,.slice a j f) q):Calls Tryz.prog 67 #[.agg #[.bool k,.slice l i b,.slice a j f]] w (Ret w h (fun v _=>v=.bool (decide (q.num=0)))):=by
 obtain ⟨has,⟨A,c,D,d,e,u,y,x,p⟩,hz⟩:=B;have e2:(Value.agg #[.bool k,qS l i b,qS a j f])=.agg #[.bool (ai q.num),qS A (lim (ab q.num)).length c,qS D (lim (if has then q.den else 0)).length d]:=e;rw[e2];have o:=j7 q.num A c (if has then q.den else 0) D d u y w h g x p
 have z:decide ((if has=true then q.den else 0)=0∨q.num=0)=decide (q.num=0):=by
  cases has
  ·rw[decide_eq_true (.inl rfl),decide_eq_true];rw[hz rfl];rfl
  ·have:=q.den_nz
   by_cases e:q.num=0
   ·rw[decide_eq_true (.inr e),decide_eq_true e]
   ·rw[decide_eq_false (fun h=>h.elim this e),decide_eq_false e]
 rw[z] at o
 exact o
theorem vO  (isb:ByteArray→Bool)(sm:ByteArray→Prop)(hIs:∀ s,sm s→∀ (w:World) (h:Hp),G w h→Calls Tryz.prog 92 #[.string s] w (Ret w h (fun v _=>∃ b,v=.bool b∧b=isb s)))(d:Nat)(ih:∀ (r:RTm) (t:Tm) (w:World) (h:Hp),G w h→RmH d h r t→iF sm d t →  Calls Tryz.prog 56 #[bE r] w (Ret w h (fun v _=>∃ bb,v=.bool bb∧(bb=true↔WfT (fun s=>isb s=true) d t))))(op n:Int)(H:Bool)(I:Option Addr)(D J:Nat)(F:Option Addr)(M L:Nat)(q:Rat)(s:ByteArray)(A:Option Addr)(c:Nat)(y:List RTm)(ks:List Tm)(hc:y.length≤c)(hk3:ks.length≤3)(hop : -1000≤op∧op≤1000)(hn : -1000≤n∧n≤1000)(hq:LQ 3000 q)(hsm:sm s)(hW:∀ i,i<ks.length→iF sm d (ks.getD i bv))(w:World)(h:Hp)(g:G w h)(hZ:RZ h (H,.slice I D J,.slice F M L) q)(hK:SlO 7 bU aN h A y)(hKs:Rms d h y ks):CR 56 #[.agg #[iV op,iV n,.bool H,.slice I D J,.slice F M L,.string s,.slice A y.length c]] w h (fun v _=>∃ bb,v=.bool bb∧(bb=true↔WfT (fun s=>isb s=true) (d+1) (.mk op n q s ks))):=by
 have a:=((((sS g).add (K:=fun e=>RZ e (H,qS I D J,qS F M L) q) hZ).aS hK).add (K:=fun e=>Rms d e y ks) hKs);have hln:=(a.f.1).len;refine go Tryz.func56 [(0,.agg #[iV op,iV n,.bool H,qS I D J,qS F M L,.string s,qS A y.length c])] rfl (av (lA 1 31 ([iV op,iV n,.bool H,qS I D J,qS F M L,.string s,qS A y.length c]) a (fun u w2 h3 a=>lL a [.v 2 qF] (aI (lL a [.v 5 (pB u),.o 6 (iV op) 0 0 1] (ag 7 a (G3 op _ _ a.g) (fun w4 U a=>?_)))))));refine lL a [.m 3 7] (ah (CG.join (fun Γ w_=>∃ (V:Bool) (e:Hp),Γ=[(1,pB u),(2,qF),(68,.bool V)]∧SS w h w_ e [⟨u,31,[iV op,iV n,.bool H,qS I D J,qS F M L,.string s,qS A y.length c]⟩] [] [fun e=>Rms d e y ks,fun e=>SlO 7 bU aN e A y,fun e=>RZ e (H,qS I D J,qS F M L) q]∧(V=true→¬((0≤d8 op∧(ks.length:Int)=d8 op)∧((op=2→isb s=true)∧(op≠2→s=⟨#[]⟩))∧(op=1∨q.num=0)∧(op=8∨n=0) ∧ -12≤n∧n≤12))∧(V=false→((0≤d8 op∧(ks.length:Int)=d8 op)∧((op=2→isb s=true)∧(op≠2→s=⟨#[]⟩))∧(op=1∨q.num=0)∧(op=8∨n=0) ∧ -12≤n∧n≤12))) ?_ ?_))
 ·
  refine kQ (lL a [.m 8 3] ?_);cases S:(decide ((d8 op:Int)<(0:Int)))
  ·
   have Z:=oF S;refine lB 9 S (lL a [.m 10 9,.v 11 (qP u 6),.o 12 (qS A y.length c) 0 6 1,.v 13 (nV y.length),.m 14 3] ?_);cases O:((y.length:Int) != (d8 op:Int))
   ·
    have X:=aJ O;refine lB 15 O (lL a [.v 16 qF,.m 17 16,.v 18 (pB u),.o 19 (iV op) 0 0 1] ?_);cases Q:((op:Int) == (2:Int))
    ·
     have bd:=ae Q;refine lB 20 Q (lL a [.m 21 20] (lG 22 ?_));refine lG 23 (lG 24 (lG 25 (lL a [.v 26 qF,.v 27 qF,.m 28 27,.v 29 (pB u),.o 30 (iV op) 0 0 1] ?_)));have Y:((op:Int) != (2:Int))=true:=xr oM;have b5:=aW Y;refine lB 31 Y (lL a [.m 32 31,.v 33 (qP u 5),.o 34 (.string s) 0 5 1] ?_);cases zb:(mT s (⟨#[]⟩))
     ·
      have zw:=rF zb;refine lB 35 zb (lL a [.v 36 qF,.v 37 qF,.m 38 37,.v 39 (pB u),.o 40 (iV op) 0 0 1] ?_);cases zd:((op:Int) != (1:Int))
      ·
       have zx:=aJ zd;refine lB 41 zd (lL a [.m 42 41] (lG 43 ?_));refine lG 44 (lG 45 (lG 46 (lL a [.v 47 qF,.v 48 qF,.m 49 48,.v 50 (pB u),.o 51 (iV op) 0 0 1] ?_)));have zp:((op:Int) != (8:Int))=true:=xr oM;have bl:=aW zp;refine lB 52 zp (lL a [.m 53 52,.v 54 (qP u 1),.o 55 (iV n) 0 1 1] ?_);cases ze:((n:Int) != (0:Int))
       ·
        have zB:=aJ ze;refine lB 56 ze (lL a [.v 57 qF,.v 58 qF,.m 59 58,.v 60 (qP u 1),.o 61 (iV n) 0 1 1] ?_);have ⟨zM,bn⟩:=dF (p:=(n:Int)<(-12:Int)) oM;refine lB 62 zM (lL a [.v 63 qF,.m 64 63,.v 65 (qP u 1),.o 66 (iV n) 0 1 1] ?_);have ⟨zN,br⟩:=dF (p:=(12:Int)<(n:Int)) oM;refine lB 67 zN (lL a [.v 68 qF] (lD ?_));intro B j;exact ⟨_,⟨false,U,rfl,a.to _ _,(fun e=>MO e kD),(fun _=>⟨by omega,⟨fun e=>by first|exact l.symm.trans aM|exact MO e oM,fun e=>by first|assumption|exact MO e oM⟩,by omega,by omega⟩)⟩,j.to _ kR⟩
       have zB:=aW ze;refine lB 56 ze (lL a [.v 57 qT,.v 58 qT,.m 59 58] (lG 60 ?_));refine lG 61 (lG 62 (lL a [.v 63 qT,.m 64 63] (lG 65 ?_)));refine lG 66 (lG 67 (lL a [.v 68 qT] (lD ?_)));intro B j;exact ⟨_,⟨true,U,rfl,a.to _ _,(fun _ e=>by first|exact Mj ((e.2.1.1 oM).symm.trans (l.symm.trans aM))|exact MO (e.2.1.2 oM) aM|(have x:=e.1;have z:=e.2.2;omega)),(fun e=>MO e kD)⟩,j.to _ kR⟩
      have zx:=aW zd;refine lB 41 zd (lL a [.m 42 41,.v 43 (qP u 2),.o 44 (.agg #[.bool H,qS I D J,qS F M L]) 0 2 3] (ag 45 a (vf H I D J F M L q _ _ a.g a.f.r.1) (fun _ za a=>?_)));cases zq:(decide (q.num=0))
      ·
       have zD:=oF zq;refine lL a [.v 46 qT,.v 47 qT,.v 48 qT,.m 49 48] (lG 50 ?_);refine lG 51 (lG 52 (lG 53 (lG 54 (lG 55 (lG 56 (lG 57 (lL a [.v 58 qT,.m 59 58] (lG 60 ?_))))))));refine lG 61 (lG 62 (lL a [.v 63 qT,.m 64 63] (lG 65 ?_)));refine lG 66 (lG 67 (lL a [.v 68 qT] (lD ?_)));intro B j;exact ⟨_,⟨true,za,rfl,a.to _ _,(fun _ e=>by first|exact Mj ((e.2.1.1 oM).symm.trans (l.symm.trans aM))|exact MO (e.2.1.2 oM) aM|(have x:=e.1;have z:=e.2.2;omega)),(fun e=>MO e kD)⟩,j.to _ kR⟩
      have zD:=oT zq;refine lL a [.v 46 qF,.v 47 qF,.v 48 qF,.m 49 48,.v 50 (pB u),.o 51 (iV op) 0 0 1] ?_;cases zf:((op:Int) != (8:Int))
      ·
       have zE:=aJ zf;refine lB 52 zf (lL a [.m 53 52] (lG 54 ?_));refine lG 55 (lG 56 (lL a [.v 57 qF,.v 58 qF,.m 59 58,.v 60 (qP u 1),.o 61 (iV n) 0 1 1] ?_));cases zg:(decide ((n:Int)<(-12:Int)))
       ·
        have zG:=oF zg;refine lB 62 zg (lL a [.v 63 qF,.m 64 63,.v 65 (qP u 1),.o 66 (iV n) 0 1 1] ?_);cases zi:(decide ((12:Int)<(n:Int)))
        ·
         have zH:=oF zi;refine lB 67 zi (lL a [.v 68 qF] (lD ?_));intro B j;exact ⟨_,⟨false,za,rfl,a.to _ _,(fun e=>MO e kD),(fun _=>⟨by omega,⟨fun e=>by first|exact l.symm.trans aM|exact MO e oM,fun e=>by first|assumption|exact MO e oM⟩,by omega,by omega⟩)⟩,j.to _ kR⟩
        have zH:=oT zi;refine lB 67 zi (lL a [.v 68 qT] (lD ?_));intro B j;exact ⟨_,⟨true,za,rfl,a.to _ _,(fun _ e=>by first|exact Mj ((e.2.1.1 oM).symm.trans (l.symm.trans aM))|exact MO (e.2.1.2 oM) aM|(have x:=e.1;have z:=e.2.2;omega)),(fun e=>MO e kD)⟩,j.to _ kR⟩
       have zG:=oT zg;refine lB 62 zg (lL a [.v 63 qT,.m 64 63] (lG 65 ?_));refine lG 66 (lG 67 (lL a [.v 68 qT] (lD ?_)));intro B j;exact ⟨_,⟨true,za,rfl,a.to _ _,(fun _ e=>by first|exact Mj ((e.2.1.1 oM).symm.trans (l.symm.trans aM))|exact MO (e.2.1.2 oM) aM|(have x:=e.1;have z:=e.2.2;omega)),(fun e=>MO e kD)⟩,j.to _ kR⟩
      have zE:=aW zf;refine lB 52 zf (lL a [.m 53 52,.v 54 (qP u 1),.o 55 (iV n) 0 1 1] ?_);cases zj:((n:Int) != (0:Int))
      ·
       have zI:=aJ zj;refine lB 56 zj (lL a [.v 57 qF,.v 58 qF,.m 59 58,.v 60 (qP u 1),.o 61 (iV n) 0 1 1] ?_);have ⟨zP,bm⟩:=dF (p:=(n:Int)<(-12:Int)) oM;refine lB 62 zP (lL a [.v 63 qF,.m 64 63,.v 65 (qP u 1),.o 66 (iV n) 0 1 1] ?_);have ⟨zQ,b4⟩:=dF (p:=(12:Int)<(n:Int)) oM;refine lB 67 zQ (lL a [.v 68 qF] (lD ?_));intro B j;exact ⟨_,⟨false,za,rfl,a.to _ _,(fun e=>MO e kD),(fun _=>⟨by omega,⟨fun e=>by first|exact l.symm.trans aM|exact MO e oM,fun e=>by first|assumption|exact MO e oM⟩,by omega,by omega⟩)⟩,j.to _ kR⟩
      have zI:=aW zj;refine lB 56 zj (lL a [.v 57 qT,.v 58 qT,.m 59 58] (lG 60 ?_));refine lG 61 (lG 62 (lL a [.v 63 qT,.m 64 63] (lG 65 ?_)));refine lG 66 (lG 67 (lL a [.v 68 qT] (lD ?_)));intro B j;exact ⟨_,⟨true,za,rfl,a.to _ _,(fun _ e=>by first|exact Mj ((e.2.1.1 oM).symm.trans (l.symm.trans aM))|exact MO (e.2.1.2 oM) aM|(have x:=e.1;have z:=e.2.2;omega)),(fun e=>MO e kD)⟩,j.to _ kR⟩
     have zw:=sh zb;refine lB 35 zb (lL a [.v 36 qT,.v 37 qT,.m 38 37] (lG 39 ?_));refine lG 40 (lG 41 (lG 42 (lG 43 (lG 44 (lG 45 (lG 46 (lG 47 (lL a [.v 48 qT,.m 49 48] (lG 50 ?_)))))))));refine lG 51 (lG 52 (lG 53 (lG 54 (lG 55 (lG 56 (lG 57 (lL a [.v 58 qT,.m 59 58] (lG 60 ?_))))))));refine lG 61 (lG 62 (lL a [.v 63 qT,.m 64 63] (lG 65 ?_)));refine lG 66 (lG 67 (lL a [.v 68 qT] (lD ?_)));intro B j;exact ⟨_,⟨true,U,rfl,a.to _ _,(fun _ e=>by first|exact Mj ((e.2.1.1 oM).symm.trans (l.symm.trans aM))|exact MO (e.2.1.2 oM) aM|(have x:=e.1;have z:=e.2.2;omega)),(fun e=>MO e kD)⟩,j.to _ kR⟩
    have bd:=ML Q;refine lB 20 Q (lL a [.m 21 20,.v 22 (qP u 5),.o 23 (.string s) 0 5 1] (lC 24 a (hIs s hsm _ _ a.g) ?_));rintro _ _ zW a ⟨bi,rfl,l⟩;cases b9:(bi)
    ·
     refine lL a [.v 25 qT,.v 26 qT,.v 27 qT,.m 28 27] (lG 29 ?_);refine lG 30 (lG 31 (lG 32 (lG 33 (lG 34 (lG 35 (lG 36 (lL a [.v 37 qT,.m 38 37] (lG 39 ?_))))))));refine lG 40 (lG 41 (lG 42 (lG 43 (lG 44 (lG 45 (lG 46 (lG 47 (lL a [.v 48 qT,.m 49 48] (lG 50 ?_)))))))));refine lG 51 (lG 52 (lG 53 (lG 54 (lG 55 (lG 56 (lG 57 (lL a [.v 58 qT,.m 59 58] (lG 60 ?_))))))));refine lG 61 (lG 62 (lL a [.v 63 qT,.m 64 63] (lG 65 ?_)));refine lG 66 (lG 67 (lL a [.v 68 qT] (lD ?_)));intro B j;exact ⟨_,⟨true,zW,rfl,a.to _ _,(fun _ e=>by first|exact Mj ((e.2.1.1 oM).symm.trans (l.symm.trans aM))|exact MO (e.2.1.2 oM) aM|(have x:=e.1;have z:=e.2.2;omega)),(fun e=>MO e kD)⟩,j.to _ kR⟩
    refine lL a [.v 25 qF,.v 26 qF,.v 27 qF,.m 28 27,.v 29 (pB u),.o 30 (iV op) 0 0 1] ?_;have zr:((op:Int) != (2:Int))=false:=mE oM;have b3:=aJ zr;refine lB 31 zr (lL a [.m 32 31] (lG 33 ?_));refine lG 34 (lG 35 (lL a [.v 36 qF,.v 37 qF,.m 38 37,.v 39 (pB u),.o 40 (iV op) 0 0 1] ?_));have zs:((op:Int) != (1:Int))=true:=xr oM;have bw:=aW zs;refine lB 41 zs (lL a [.m 42 41,.v 43 (qP u 2),.o 44 (.agg #[.bool H,qS I D J,qS F M L]) 0 2 3] (ag 45 a (vf H I D J F M L q _ _ a.g a.f.r.1) (fun _ zt a=>?_)));cases zu:(decide (q.num=0))
    ·
     have zJ:=oF zu;refine lL a [.v 46 qT,.v 47 qT,.v 48 qT,.m 49 48] (lG 50 ?_);refine lG 51 (lG 52 (lG 53 (lG 54 (lG 55 (lG 56 (lG 57 (lL a [.v 58 qT,.m 59 58] (lG 60 ?_))))))));refine lG 61 (lG 62 (lL a [.v 63 qT,.m 64 63] (lG 65 ?_)));refine lG 66 (lG 67 (lL a [.v 68 qT] (lD ?_)));intro B j;exact ⟨_,⟨true,zt,rfl,a.to _ _,(fun _ e=>by first|exact Mj ((e.2.1.1 oM).symm.trans (l.symm.trans aM))|exact MO (e.2.1.2 oM) aM|(have x:=e.1;have z:=e.2.2;omega)),(fun e=>MO e kD)⟩,j.to _ kR⟩
    have zJ:=oT zu;refine lL a [.v 46 qF,.v 47 qF,.v 48 qF,.m 49 48,.v 50 (pB u),.o 51 (iV op) 0 0 1] ?_;have zv:((op:Int) != (8:Int))=true:=xr oM;have b0:=aW zv;refine lB 52 zv (lL a [.m 53 52,.v 54 (qP u 1),.o 55 (iV n) 0 1 1] ?_);cases zk:((n:Int) != (0:Int))
    ·
     have zK:=aJ zk;refine lB 56 zk (lL a [.v 57 qF,.v 58 qF,.m 59 58,.v 60 (qP u 1),.o 61 (iV n) 0 1 1] ?_);have ⟨zR,bt⟩:=dF (p:=(n:Int)<(-12:Int)) oM;refine lB 62 zR (lL a [.v 63 qF,.m 64 63,.v 65 (qP u 1),.o 66 (iV n) 0 1 1] ?_);have ⟨zS,b2⟩:=dF (p:=(12:Int)<(n:Int)) oM;refine lB 67 zS (lL a [.v 68 qF] (lD ?_));intro B j;exact ⟨_,⟨false,zt,rfl,a.to _ _,(fun e=>MO e kD),(fun _=>⟨by omega,⟨fun e=>by first|exact l.symm.trans aM|exact MO e oM,fun e=>by first|assumption|exact MO e oM⟩,by omega,by omega⟩)⟩,j.to _ kR⟩
    have zK:=aW zk;refine lB 56 zk (lL a [.v 57 qT,.v 58 qT,.m 59 58] (lG 60 ?_));refine lG 61 (lG 62 (lL a [.v 63 qT,.m 64 63] (lG 65 ?_)));refine lG 66 (lG 67 (lL a [.v 68 qT] (lD ?_)));intro B j;exact ⟨_,⟨true,zt,rfl,a.to _ _,(fun _ e=>by first|exact Mj ((e.2.1.1 oM).symm.trans (l.symm.trans aM))|exact MO (e.2.1.2 oM) aM|(have x:=e.1;have z:=e.2.2;omega)),(fun e=>MO e kD)⟩,j.to _ kR⟩
   have X:=aW O;refine lB 15 O (lL a [.v 16 qT,.m 17 16] (lG 18 ?_));refine lG 19 (lG 20 (lG 21 (lG 22 (lG 23 (lG 24 (lG 25 (lG 26 (lL a [.v 27 qT,.m 28 27] (lG 29 ?_)))))))));refine lG 30 (lG 31 (lG 32 (lG 33 (lG 34 (lG 35 (lG 36 (lL a [.v 37 qT,.m 38 37] (lG 39 ?_))))))));refine lG 40 (lG 41 (lG 42 (lG 43 (lG 44 (lG 45 (lG 46 (lG 47 (lL a [.v 48 qT,.m 49 48] (lG 50 ?_)))))))));refine lG 51 (lG 52 (lG 53 (lG 54 (lG 55 (lG 56 (lG 57 (lL a [.v 58 qT,.m 59 58] (lG 60 ?_))))))));refine lG 61 (lG 62 (lL a [.v 63 qT,.m 64 63] (lG 65 ?_)));refine lG 66 (lG 67 (lL a [.v 68 qT] (lD ?_)));intro B j;exact ⟨_,⟨true,U,rfl,a.to _ _,(fun _ e=>by first|exact Mj ((e.2.1.1 oM).symm.trans (l.symm.trans aM))|exact MO (e.2.1.2 oM) aM|(have x:=e.1;have z:=e.2.2;omega)),(fun e=>MO e kD)⟩,j.to _ kR⟩
  have Z:=oT S;refine lB 9 S (lL a [.m 10 9] (lG 11 ?_));refine lG 12 (lG 13 (lG 14 (lG 15 (lL a [.v 16 qT,.m 17 16] (lG 18 ?_)))));refine lG 19 (lG 20 (lG 21 (lG 22 (lG 23 (lG 24 (lG 25 (lG 26 (lL a [.v 27 qT,.m 28 27] (lG 29 ?_)))))))));refine lG 30 (lG 31 (lG 32 (lG 33 (lG 34 (lG 35 (lG 36 (lL a [.v 37 qT,.m 38 37] (lG 39 ?_))))))));refine lG 40 (lG 41 (lG 42 (lG 43 (lG 44 (lG 45 (lG 46 (lG 47 (lL a [.v 48 qT,.m 49 48] (lG 50 ?_)))))))));refine lG 51 (lG 52 (lG 53 (lG 54 (lG 55 (lG 56 (lG 57 (lL a [.v 58 qT,.m 59 58] (lG 60 ?_))))))));refine lG 61 (lG 62 (lL a [.v 63 qT,.m 64 63] (lG 65 ?_)));refine lG 66 (lG 67 (lL a [.v 68 qT] (lD ?_)));intro B j;exact ⟨_,⟨true,U,rfl,a.to _ _,(fun _ e=>by first|exact Mj ((e.2.1.1 oM).symm.trans (l.symm.trans aM))|exact MO (e.2.1.2 oM) aM|(have x:=e.1;have z:=e.2.2;omega)),(fun e=>MO e kD)⟩,j.to _ kR⟩
 rintro _ _ ⟨V,zX,rfl,a,zU,C⟩;cases zl:(V)
 ·
  try rw[zl] at a
  try rw[zl]
  refine cv (cK (cQ (aa a [.v 4 (iV 0)] (a8 ?_))));refine bH _ (CG.loop (fun μ_ Γ w_=>∃ (k:Nat) (e:Hp),μ_=y.length-k∧Γ=[(1,pB u),(4,nV k)]∧SS w h w_ e [⟨u,31,[iV op,iV n,.bool H,qS I D J,qS F M L,.string s,qS A y.length c]⟩] [] [fun e=>Rms d e y ks,fun e=>SlO 7 bU aN e A y,fun e=>RZ e (H,qS I D J,qS F M L) q]∧k≤y.length∧(∀ i,i<k→WfT (fun s=>isb s=true) d (ks.getD i bv))) _ ⟨0,zX,rfl,rfl,a.to _ _,K7 _,(fun i hi=>MO hi (Mk i))⟩ ?_);rintro _ _ _ ⟨k,_,b6,rfl,a,hk,hWk⟩;refine cQ (aa a [.m 69 4,.v 70 (qP u 6),.o 71 (qS A y.length c) 0 6 1,.v 72 (nV y.length)] ?_);cases zm:(decide ((k:Int)<(y.length:Int)))
  ·
   have zL:=oF zm;refine lB 73 zm (af (CG.exit ?_))
   show CG _ _ _ _ _ _ _ _
   exact aa a [.v 2 qT] (ac a [] qT (C8 ⟨by have x:=(C aM).1;omega,(C aM).2.2.1,(C aM).2.1,(C aM).2.2.2⟩ hq (fun i hi=>hWk i oM)))
  have zL:=oT zm;refine lB 73 zm (ak (cK (cQ (kZ (aa a [.v 76 (qP u 6),.o 77 (qS A y.length c) 0 6 1,.m 78 4] (lX 79 A y.length c 7 (k:Nat) k ((a.f.2.1).ok oM) ?_))))));refine lH 80 (bE (y.getD k aN)) a ((a.f.2.1).el k oM) (lC 81 a (ih (y.getD k aN) (ks.getD k bv) _ _ a.g ((a.f.1).at_ k oM) (hW k oM)) ?_);rintro _ _ ya a ⟨bk,rfl,W⟩;cases b7:(bk)
  ·
   exact lL a [.v 82 qT] (ak (aa a [.v 2 qF] (ac a [] qF (C3 (k:=k) oM aM W))))
  refine lL a [.v 82 qF] (af (cK (kQ (lL a [.m 74 4] (bD 75 ((k:Nat)+1) (k+1) ?_)))));refine lL a [.m 4 75] (lD ?_);intro B j;refine ⟨_,_,?_,⟨k+1,ya,rfl,rfl,a.to _ _,oM,(fun i hi=>by rcases Mm.1 hi with e|rfl;exact hWk i e;exact W.1 aM)⟩,j.to _ kR⟩
  omega
 try rw[zl] at a
 try rw[zl]
 exact ce (aa a [.v 2 qF] (ac a [] qF (pg (fun e=>zU aM ⟨by have x:=e.1;omega,e.2.2.1,e.2.1,e.2.2.2⟩))))
theorem pe (isb:ByteArray→Bool)(sm:ByteArray→Prop)(a:∀ s,sm s→∀ (w:World) (h:Hp),G w h→Calls Tryz.prog 92 #[.string s] w (Ret w h (fun v _=>∃ b,v=.bool b∧b=isb s))):∀ (d:Nat) (r:RTm) (t:Tm) (w:World) (h:Hp),G w h→RmH d h r t→iF sm d t →  Calls Tryz.prog 56 #[bE r] w (Ret w h (fun v _=>∃ f,v=.bool f∧(f=true↔WfT (fun s=>isb s=true) d t)))
  | 0,_,_,_,_,_,x,_=>x.elim
  | d+1,r,t,w,h,g,x,wf=>by
    obtain ⟨op,n,b,H,u,o,l,z,p,q,s,A,c,i,ks,rfl,rfl,J,D,F,e⟩:=x.open;obtain ⟨y,I,k,j,B,C⟩:=wf;exact vO isb sm a d (fun r t w h=>pe isb sm a d r t w h) op n b H u o l z p q s A c i ks D y I k j B C w h g J F e
section
variable {M:Ms} {P:Program} {n:Nat} {N R:Po} {X:Nat→Po} {ops:Array Oper} {k k0:Nat} {hr:Hp} {AL:List Al} {L:Array Bool} {Γ:bz} {w:World} {h:Hp} {w0:World} {h0:Hp} {B:List Bx} {Rs:List Rw} {F:List (Hp→Prop)}
theorem Bm {a:Nat}{e:TypeId}{sz:Nat}{A:Option Addr}{l c n:Nat}{b:List Value}(o:w.ownsRow a e sz (.slice A l c) n b):l≤c:=by
 rcases o with ⟨_,⟨e1,_⟩|⟨g,cap,cur,e1,_,_,h1,_⟩⟩
 ·cases e1;exact ey _
 ·cases e1;exact h1
theorem xM {α:Type}{o:Oper}{ty:TypeId}{sz L c c2 j:Nat}{z:Value}{A p:Option Addr}{l:List α}{f:α→List Value}(s:SS w0 h0 w h B Rs F)(J:xE P (ev Γ) o=some (.slice A l.length c,.slice p 0 c2,ty,z,sz,L))(C:Rs.getD j default=⟨ty,sz,A,c,l.length,l.flatMap f⟩)(k:j<Rs.length) :
    (execOp (ev Γ) o).run P w=.ok (.value (.slice A l.length c)) w:=by
  obtain ⟨x,y,d,H,K,D,i,hi⟩:=n8 J;have r:=s.ro _ (gs k);rw[fG C k] at r
  cases b:P.info? ty with
  | none=>rw[b] at hi;cases hi
  | some inf =>
    rw[b] at hi
    have I:Src P inf.size d (.slice p 0 c2) 0 [] w:=by
      cases p with
      | none=>exact Src.ofNil w i c2
      | some a=>exact Src.ofSlice w i a 0 c2 [] (by simp) (fun j u k=>by cases k) (fun u i=>by cases i)
    have e:=run_append_nothing (P:=P) w d d o.type ty inf i b A l.length c (Bm r.own) (.slice p 0 c2) I
    unfold execOp
    simp only[H,resolve,invoke,builtin,Sem.run_bind,Sem.run_pure,Result.andThen_ok,List.map_toArray,List.map_cons,List.map_nil,K,D,e]
theorem Jl {α:Type}(t j:Nat)(ty:TypeId)(sz c:Nat)(A:Option Addr)(l:List α)(f:α→List Value)(d:α)(i:Option Addr)(m:List α)(D c2 p:Nat)(z:Value)(s:SS w0 h0 w h B Rs F)(so:SlO sz f d h i m)
    (H:∀ A' c' w' h',SS w0 h0 w' h' B (Rs.set j ⟨ty,sz,A',c',(l++m).length,(l++m).flatMap f⟩) F→LG P n N R X ops (k+1) ((t,.slice A' (l++m).length c')::Γ) w')
    (o:cL ops Γ k t n=true:=by kernel_rfl)(C:xE P (ev Γ) (ao ops k)=some (.slice A l.length c,.slice i D c2,ty,z,sz,p):=by kernel_rfl)(I:D=m.length:=by omega)(hf:∀ x,(f x).length=sz:=by intro _;rfl)(h1:∀ x,(f x).all (·.oneCell')=true:=by intro _;kernel_rfl)(e:z.cells.size=sz:=by kernel_rfl)(a:0<sz:=by decide)
    (hr:Rs.getD j default=⟨ty,sz,A,c,l.length,l.flatMap f⟩:=by kernel_rfl)(u:decide (j<Rs.length)=true:=by kernel_rfl)(K:l.length+m.length≤1099511627776:=by omega)(L:(l.length+m.length)*p≤140737488355328:=by omega):LG P n N R X ops k Γ w:=by
  subst I;cases m with
  | nil =>
    have b:=oT u;have e0:l++[]=l:=List.append_nil l;rw[e0] at H
    have J:Rs.set j ⟨ty,sz,A,c,l.length,l.flatMap f⟩=Rs:=by
      have:=fG hr b;rw[←this,List.set_getElem_self]
    have y:=s;rw[←J] at y
    exact LG.val t _ w (bK o).1 (bK o).2 (xM s C hr b) (H A c w h y)
  | cons x xs=>exact I7 t j ty sz c A l f d i (x::xs) c2 p z s so (K9 _) H o C hf h1 e a hr u K L
theorem tO (i t:Nat)(ps:List (Nat × Nat × Nat))(v:Value)(s:SS w0 h0 w h B Rs F)(H:AG M P n N R X ops k0 (L.setIfInBounds i true) ((t,v)::Γ) w)(a:cT n ops k0 L Γ i t=true:=by kernel_rfl)(b:bY B ps=true:=by kernel_rfl)(c:bS P (execOp (ev Γ) (ao ops i)) (cA B ps)=some (.value v,bT B ps):=by kernel_rfl):AG M P n N R X ops k0 L Γ w :=
 T.val i t v w (oV a).1 (oV a).2 (bL _ _ _ _ c (cu s.st.own ps b)) H
end
def jJ (f:Nat→Nat):Nat→Nat
  | 0=>0
  | n+1=>max (jJ f n) (f n)
def nA:Nat→Tm→Nat
  | 0,_=>0
  | d+1,t=>jJ (fun i=>nA d (t.ks.getD i bv)) t.ks.length+1
theorem nu {f:Nat→Nat}{b:Nat}:∀ n,(∀ i,i<n→f i≤b)→jJ f n≤b
 | 0,_=>K7 _
 | n+1,h=>Nat.max_le.2 ⟨nu n (fun i hi=>h i oM),h n (Nat.lt_succ_self n)⟩
theorem n6:∀ (d:Nat) (t:Tm),nA d t≤d
 | 0,_=>ey _
 | d+1,t=>Nat.succ_le_succ (nu _ (fun i _=>n6 d _))
open Go.RowKit Go.WideMaps
structure MapI (P:Program) (kt:TypeId) (Q:Value→Prop) (w1:World) (h1:Hp) (b:Nat):Prop where
  jk:h1[b]?=some junk
  ex:∃ es clk,w1.heap[b]?=some (.map es clk)∧∀ e∈es.toList,(∃ l,keyOf P kt e.key=some l)∧Q e.val
section laws
variable {P:Program} {n:Nat} {N R:Po} {X:Nat→Po} {ops:Array Oper} {k:Nat} {Γ:bz} {w:World} {h:Hp} {w0 w1:World} {h0 h1:Hp} {B:List Bx} {Rs:List Rw} {F:List (Hp→Prop)}
end laws
structure Dif (M:List Nat) (w w0:World):Prop where
  mo:Mo M w w0
  sz:w0.heap.size=w.heap.size
section frn
variable {w0 w w' wi:World} {h0 h h':Hp} {B:List Bx} {R:List Rw} {F:List (Hp→Prop)} {M:List Nat}
end frn
section get
variable {P:Program} {n:Nat} {N R:Po} {X:Nat→Po} {ops:Array Oper} {k:Nat} {Γ:bz} {w:World} {h:Hp} {w0:World} {h0:Hp} {B:List Bx} {Rs:List Rw} {F:List (Hp→Prop)}
end get
section gete
variable {M:Ms} {P:Program} {n:Nat} {N R:Po} {X:Nat→Po} {ops:Array Oper} {k0:Nat} {hr:Hp} {AL:List Al} {L:Array Bool} {Γ:bz} {w:World} {h:Hp} {w0:World} {h0:Hp} {B:List Bx} {Rs:List Rw} {F:List (Hp→Prop)}
end gete
section ops
variable {P:Program} {Γ:bz} {o:Oper}
end ops
section laws
variable {M:Ms} {P:Program} {n:Nat} {N R:Po} {X:Nat→Po} {ops:Array Oper} {k k0:Nat} {hr:Hp} {AL:List Al} {L:Array Bool} {Γ:bz} {w:World} {h:Hp} {w0 wi:World} {h0:Hp} {B:List Bx} {Rs:List Rw} {F:List (Hp→Prop)} {Ml:List Nat}
end laws
section zone
variable {w0 w w':World} {h0 h h':Hp} {B:List Bx} {R:List Rw} {F:List (Hp→Prop)}
end zone
section ret
variable {P:Program} {n:Nat} {Γ:bz} {w:World} {h:Hp} {w0 wz:World} {h0 hz:Hp} {B:List Bx} {Rs:List Rw} {F:List (Hp→Prop)}
end ret
section call
variable {M:Ms} {P:Program} {n:Nat} {N R:Po} {X:Nat→Po} {ops:Array Oper} {k0:Nat} {hr:Hp} {AL:List Al} {L:Array Bool} {Γ:bz} {w:World} {h:Hp} {w0:World} {h0:Hp} {B:List Bx} {Rs:List Rw} {F:List (Hp→Prop)}
end call
section perm
variable {w0:World} {h0:Hp} {w:World} {h:Hp} {B B':List Bx} {R R':List Rw} {F:List (Hp→Prop)}
end perm
section ret
variable {P:Program} {n:Nat} {Γ:bz} {w:World} {h:Hp} {w0:World} {h0:Hp} {B:List Bx} {Rs:List Rw} {F:List (Hp→Prop)}
end ret
section call
variable {P:Program} {n:Nat} {N R:Po} {X:Nat→Po} {ops:Array Oper} {k:Nat} {Γ:bz} {w:World}
end call
def Jp (ss:List ByteArray):List MapEntry:=ss.zipIdx.map fun p=>⟨.string p.1,.bool true,p.2⟩
structure MapK (w:World) (h:Hp) (b:Nat) (ss:List ByteArray):Prop where
  jk:h[b]?=some junk
  ob:w.heap[b]?=some (.map (Jp ss).toArray ss.length)
  nd:ss.Nodup
section laws
variable {P:Program} {n:Nat} {N R:Po} {X:Nat→Po} {ops:Array Oper} {k:Nat} {Γ:bz} {w:World} {h:Hp} {w1:World} {h1:Hp} {B:List Bx} {Rs:List Rw} {F:List (Hp→Prop)}
end laws
section ro
variable {w0:World} {h0:Hp} {w:World} {h:Hp} {B:List Bx} {R:List Rw} {F:List (Hp→Prop)}
theorem SS.ro_jk (s:SS w0 h0 w h B R F)(j:Nat){ty:TypeId}{sz c m:Nat}{A:Option Addr}{cs:List Value}(hr:R.getD j default=⟨ty,sz,A,c,m,cs⟩:=by kernel_rfl)(e:decide (j<R.length)=true:=by kernel_rfl):∀ b∈(Dx A m c).ownBlock.toList,h[b]?=some junk:=fun b d=>by
 have a:=oT e;have r:=s.ro _ (gs a);rw[fG hr a] at r
 exact r.jk b (Mu.1 d)
theorem SS.ro_lt (s:SS w0 h0 w h B R F)(j:Nat){ty:TypeId}{sz c m:Nat}{A:Option Addr}{cs:List Value}(hr:R.getD j default=⟨ty,sz,A,c,m,cs⟩:=by kernel_rfl)(e:decide (j<R.length)=true:=by kernel_rfl):∀ b∈(Dx A m c).ownBlock.toList,b<h.size:=fun b d=>by
 have a:=oT e;have r:=s.ro _ (gs a);rw[fG hr a] at r
 exact a7 (r.jk b (Mu.1 d))
theorem SS.ro_ne (s:SS w0 h0 w h B R F)(q j:Nat){ty:TypeId}{sz c m:Nat}{A:Option Addr}{cs:List Value}(f:decide (q<B.length)=true:=by kernel_rfl)(hr:R.getD j default=⟨ty,sz,A,c,m,cs⟩:=by kernel_rfl)(e:decide (j<R.length)=true:=by kernel_rfl):(aA B q).b ∉ (Dx A m c).ownBlock.toList:=fun d=>by
 have a:=oT e;have r:=s.ro _ (gs a);rw[fG hr a] at r
 exact r.ap _ (Mu.1 d) (List.mem_map.2 ⟨_,bB (oT f),rfl⟩)
end ro
section
variable {pl:ByteArray→Int} {d k:Nat} {l tl:List Stp} {ks:List Tm} {za zb:Int}
end
section laws
variable {M:Ms} {P:Program} {ops:Array Oper} {Q:Exit→Act→World→Prop} {k0:Nat}
structure Waits (ops:Array Oper) (k0 i:Nat) (late:List Nat):Prop where
  ev:∀ u∈late,∃ ou,ops[u]?=some ou∧∃ e∈ou.after,g1 .any e=true∧(e.on=i∨e.on∈late)
  tl:∀ j oj,ops[j]?=some oj→k0≤j→j∈late
theorem oe {i:Nat}{K:Oper}{v:Value}{S:World→Prop}{d:List Nat}(hi:ops[i]?=some K)(F:∀ (j:Nat) (o:Oper) cs b,ops[j]?=some o→o.op≠.select cs b)
    (hQ:∀ c a w,Q (.panic c) (a.put K.dst v) w→Q (.panic c) a w)(hcl:∀ w w',S w→Mo M.l w w'→S w')(hw:Waits ops k0 i d) :
    ∀ (n:Nat) (L:Array Bool) (a:Act) (w:World),
      (∀ j B,ops[j]?=some B→j≠i→L.getD j true=false→(∀ e∈B.after,g1 .any e=true→e.on≠i)→K.apart ops B=true) →
      (∀ u∈d,L.getD u true=false) →
      i∈ga .any ops L→YieldsIf P ops S K v a→S w →
      nw M P ops Q k0 n (L.setIfInBounds i true) (a.put K.dst v) w→nw M P ops Q k0 (n+1) L a w:=by
  intro n
  induction n with
  | zero =>
    intro L a w _ _ hr Z X H;refine ⟨fun h=>(by rw[h] at hr;cases hr),fun j Y=>?_⟩
    by_cases hji:j=i
    · subst hji;exact Z.wpOp hi X ⟨Rl.refl _ _ _ _,H⟩
    · have:=ready_mono Y hji
      rw[H.1] at this
      cases this
  | succ n ih =>
    intro L a w y C hr Z X H;refine ⟨fun h=>(by rw[h] at hr;cases hr),fun j Y=>?_⟩
    by_cases hji:j=i
    · subst hji;exact Z.wpOp hi X ⟨Rl.refl _ _ _ _,H⟩
    · have h1:=H.2 j (ready_mono Y hji)
      obtain ⟨I,B,f,U⟩:=mem_ready.1 Y
      have p:∀ x,L.getD x true=false→∀ e∈B.after,g1 .any e=true→e.on≠x:=fun x h0 e he hb heq=>by
        have h1:=U e he hb;rw[heq] at h1
        obtain ⟨W,h0'⟩:=Fc h0
        simp[Array.getD,W,h0'] at h1
      have D:=p i (mem_ready.1 hr).1
      have V:j ∉ d:=fun hm=>by
        obtain ⟨ou,ho,e,he,hb,J⟩:=hw.ev j hm;obtain rfl:B=ou:=Option.some.inj (f.symm.trans ho)
        rcases J with J|J
        · exact D e he hb J
        · exact p e.on (C _ J) e he hb rfl
      have hlt:j<k0:=by
        rcases Nat.lt_or_ge j k0 with W|W
        · exact W
        · exact MO (hw.tl j B f W) V
      have J:=wpOp_putIf f (y j B f hji I D) (fun cs b=>F i K cs b hi) (fun cs b=>F j B cs b f) hQ Z h1
      have z:∀ k ok,ops[k]?=some ok→k≠i→(L.setIfInBounds j true).getD k true=false →
          (∀ e∈ok.after,g1 .any e=true→e.on≠i)→K.apart ops ok=true:=fun k ok hk hki O hno=>by
        refine y k ok hk hki ?_ hno
        by_cases hjk:j=k
        · subst hjk;exact I
        · rw[getD_set_ne true hjk] at O;exact O
      refine wpOp_mono (fun a' w' h3=>⟨h3.2.1,ih (L.setIfInBounds j true) a' w' z (fun u hu=>?_) (ready_mono hr (Ne.symm hji)) h3.1 (hcl _ _ X (h3.2.1.1 hlt)) ?_⟩) J
      · rw[getD_set_ne true (fun e=>V (by rw[e];exact hu))];exact C u hu
      · rw[Array.setIfInBounds_comm _ _ hji]
        exact h3.2.2
theorem E.take0U {h0:Hp}{AL:List Al}{L:Array Bool}{a:Act}{w:World}{h:Hp}{i:Nat}{o:Oper}{v:Value}{S:World→Prop}{e:List Nat}
  (hi:ops[i]?=some o)(k:Region.noSelect ops=true)(hf:Region.free .any ops L i=true)(hr:i∈ga .any ops L)
  (B:∀ x∈AL,x.i≠i∧x.t ∉ o.looksAt ops∧o.dst≠some x.t)(K:∀ c a w,¬Q (.panic c) a w)
  (D:∀ w w',S w→Mo M.l w w'→S w')(O:∀ w',Mo M.l w w'→S w')(X:YieldsIf P ops S o v a)
  (U:Waits ops k0 i e)(f:∀ u∈e,L.getD u true=false∧∀ x∈AL,x.i≠u)
  (H:E M P ops Q k0 h0 AL (L.setIfInBounds i true) (a.put o.dst v) w h):E M P ops Q k0 h0 AL L a w h:=by
 intro w' h' u p T F Z W;have d:∀ s∈p,s.1.i≠i∧s.1.t ∉ o.looksAt ops∧o.dst≠some s.1.t:=fun s b=>B _ (gI F b)
 have J:=H w' h' u p T F Z W;rw[kL L p i (fun s b=>(d s b).1),l8 a p o.dst v (fun s b=>(d s b).2.2)] at J
 have y:=kO (fun s b=>(d s b).1) hr;obtain ⟨e1,e2⟩:=jN (ops:=ops) (hO k i o · · hi) a p (fun s b=>(d s b).2.1)
 unfold A at *
 rw[ee y]
 exact oe hi (hO k) (fun c a w Y=>MO Y (K _ _ _)) D U _ _ _ _
  (fun j oj V z C=>Region.free_spec hi hf j oj V z (ip C))
  (fun x I=>by rw[jn true (fun s b=>(f x I).2 _ (gI F b))];exact (f x I).1) y (X.of_same e1 e2) (O _ (u.m M.l).mo) J
end laws
section steps
variable {M:Ms} {P:Program} {n:Nat} {N R:Po} {X:Nat→Po} {ops:Array Oper} {k0:Nat} {hr:Hp} {AL:List Al} {L:Array Bool} {Γ:bz} {w:World} {h:Hp} {w0:World} {h0:Hp} {B:List Bx} {Rs:List Rw} {F:List (Hp→Prop)}
def nr (ops:Array Oper)(k0:Nat)(AL:List Al)(L:Array Bool)(i:Nat)(late:List Nat):Bool :=
  (late.all fun u=>decide (u<ops.size) && !(L.getD u true) && (AL.all fun x=>x.i != u) && ((ao ops u).after.any fun e=>g1 .any e && (e.on == i || late.contains e.on))) && ((List.range ops.size).all fun j=>decide (j<k0) || late.contains j)
theorem nj {i:Nat}{a:List Nat}(e:nr ops k0 AL L i a=true):Waits ops k0 i a∧∀ u∈a,L.getD u true=false∧∀ x∈AL,x.i≠u:=by
 unfold nr at e
 rw[i1] at e
 obtain ⟨h1,k⟩:=e;have b:=fun u c=>(i4.1 h1) u c
 refine ⟨⟨fun u c=>?_,fun j z h y=>?_⟩,fun u c=>?_⟩
 ·have q:=b u c
  simp only[i1,decide_eq_true_eq,Array.any_eq_true,ov,beq_iff_eq,Mv] at q
  obtain ⟨⟨⟨l,_⟩,_⟩,x,f,p,o⟩:=q;exact ⟨_,bR l,_,Array.getElem_mem f,p,o⟩
 ·have d:=(hS.1 h).1
  have q:=(i4.1 k) j (List.mem_range.2 d)
  simp only[ov,decide_eq_true_eq,Mv] at q
  rcases q with q|q
  ·omega
  ·exact q
 ·have q:=b u c
  simp only[i1,Bool.not_eq_true',i4,bne_iff_ne,ne_eq] at q
  exact ⟨q.1.1.2,fun x f=>q.1.2 x f⟩
def Eb (n:Nat)(ops:Array Oper)(k0:Nat)(AL:List Al)(L:Array Bool)(Γ:bz)(i t:Nat)(late:List Nat):Bool:=dr n ops k0 AL L i t && bj Γ (ao ops i) && nr ops k0 AL L i late && (bA ops Γ (ao ops i) == some true)
theorem Rg.loadU (i t:Nat)(b:List Nat)(v:Value)(d:Eb n ops k0 AL L Γ i t b=true)
  (hr:∀ w',Mo M.l w w'→(execOp (ev Γ) (ao ops i)).run P w'=.ok (.value v) w')
  (k:EG M P n N R X ops k0 h0 AL (L.setIfInBounds i true) ((t,v)::Γ) w h):EG M P n N R X ops k0 h0 AL L Γ w h:=by
 unfold Eb at d
 simp only[i1] at d
 obtain ⟨⟨⟨d,j⟩,B⟩,e⟩:=d;have e:bA ops Γ (ao ops i)=some true:=by simpa using e
 have c:=dd d;obtain ⟨y,l2⟩:=nj B;intro u hM g f a o;have e1:=o.exec (hO c.sel i _ · · c.get) j;refine E.take0U (v:=v) (S:=fun w'=>Mo M.l w w') c.get c.sel c.free c.ready c.al (fun _ _ _ z=>z) (fun _ _ h1 x=>h1.trans x) (fun _ p=>p) (.inl ⟨o.want e,fun w' p=>by rw[e1];exact hr w' p⟩) y l2 ?_;rw[c.dst];exact k u hM g f _ (o.put c.tn v)
theorem HX (i t:Nat)(a:List Nat)(ps:List (Nat × Nat × Nat))(v:Value)(s:SS w0 h0 w h B Rs F)(H:EG ⟨[],none⟩ P n N R X ops k0 hr AL (L.setIfInBounds i true) ((t,v)::Γ) w h)(f:Eb n ops k0 AL L Γ i t a=true:=by kernel_rfl)(e:bY B ps=true:=by kernel_rfl)(j:bS P (execOp (ev Γ) (ao ops i)) (cA B ps)=some (.value v,bT B ps):=by kernel_rfl):EG ⟨[],none⟩ P n N R X ops k0 hr AL L Γ w h :=
 Rg.loadU i t a v f (fun w' d=>bL _ _ _ _ j (eW (fun _ _=>List.not_mem_nil) (fun x c _=>(d.blk x.b (by rw[s.g.size];exact a7 (s.st.jk x c)) List.not_mem_nil).trans (s.st.own x c)) ps (fun _ h=>h) e)) H
end steps
theorem E9 (s:ByteArray):(s.toList == s.toList)=true:=beq_self_eq_true _
theorem Dr (s:ByteArray):(!(s.toList == s.toList))=false:=by rw[E9];rfl
theorem Dl {a n:Int}(h:0≤a∧a≤1073741824)(b : -1000≤n∧n≤1000) : -1073741824000≤a*n∧a*n≤1073741824000:=by
 have h1:(a*n).natAbs≤1073741824*1000:=by rw[Int.natAbs_mul];exact KM oM oM
 omega
theorem pm {op n:Int}{s:Nat}:min (eL op n ((min s 1073741824:Nat):Int)) 1073741824=((min (f9 op n*s) 1073741824:Nat):Int):=by
  unfold eL f9 cd
  by_cases e11:op=11
  · rw[MN e11,MN e11];omega
  · rw[MM e11,MM e11]
    by_cases e8:op=8∧n≠0
    · rw[MN e8,MN e8.1]
      have e:(if n<0 then 0-n else n)=((if n.natAbs≤1 then 1 else n.natAbs:Nat):Int):=by have:=e8.2;split<;>split<;>omega
      rw[e]
      generalize hm:(if n.natAbs≤1 then 1 else n.natAbs)=m
      have a:1≤m:=by rw[←hm];split<;>omega
      rw[←Int.natCast_mul,JZ]
      rcases Ln s 1073741824 with h|h
      · rw[J5 h];omega
      · rw[Kw h]
        have c:=Ls 1073741824 a;have b:=ez h (Ls s a)
        omega
    · rw[MM e8]
      by_cases e9:op=8
      · rw[MN e9]
        have:n=0:=by by_cases z:n=0;exact z;exact MO ⟨e9,z⟩ e8
        rw[this,MN kD];omega
      · rw[MM e9];omega
theorem BI  (sm:ByteArray→Prop)(d:Nat)(S:∀ (r:RTm) (t:Tm) (w:World) (h:Hp),G w h→RmH d h r t→iF sm d t→d≤1000→Calls Tryz.prog 55 #[bE r] w (Ret w h (fun v _=>v=nV (nA d t))))(op n:Int)(z:Bool)(B:Option Addr)(x p:Nat)(l:Option Addr)(y u:Nat)(q:Rat)(s:ByteArray)(A:Option Addr)(c:Nat)(b:List RTm)(ks:List Tm)(hc:b.length≤c)(Y:ks.length≤3)(hop : -1000≤op∧op≤1000)(hn : -1000≤n∧n≤1000)(hq:LQ 3000 q)(Z:sm s)(U:∀ i,i<ks.length→iF sm d (ks.getD i bv))(hd:d+1≤1000)(w:World)(h:Hp)(g:G w h)(hZ:RZ h (z,.slice B x p,.slice l y u) q)(hK:SlO 7 bU aN h A b)(L:Rms d h b ks):CV 55 #[.agg #[iV op,iV n,.bool z,.slice B x p,.slice l y u,.string s,.slice A b.length c]] w h (nV (nA (d+1) (.mk op n q s ks))):=by
 have a:=((((sS g).add (K:=fun e=>RZ e (z,qS B x p,qS l y u) q) hZ).aS hK).add (K:=fun e=>Rms d e b ks) L);have O:=(a.f.1).len;have F:∀ k,k≤ks.length→(jJ (fun i=>nA d (ks.getD i bv)) k)≤d:=fun k hk=>nu k (fun i _=>n6 d _)
 have H:=fun i=>n6 d (ks.getD i bv)
 refine go Tryz.func55 [(0,.agg #[iV op,iV n,.bool z,qS B x p,qS l y u,.string s,qS A b.length c])] rfl (av (lA 1 31 ([iV op,iV n,.bool z,qS B x p,qS l y u,.string s,qS A b.length c]) a (fun I w2 X a=>lL a [.v 2 (iV 0)] (aI (lL a [.v 3 (iV 0)] (ah (aa a [.v 4 (iV 0)] (a8 ?_))))))));refine bH _ (CG.loop (fun J Γ w_=>∃ (k:Nat) (e:Hp),J=b.length-k∧Γ=[(1,pB I),(2,iV 0),(4,nV k),(3,nV (jJ (fun i=>nA d (ks.getD i bv)) k))]∧SS w h w_ e [⟨I,31,[iV op,iV n,.bool z,qS B x p,qS l y u,.string s,qS A b.length c]⟩] [] [fun e=>Rms d e b ks,fun e=>SlO 7 bU aN e A b,fun e=>RZ e (z,qS B x p,qS l y u) q]∧k≤b.length) _ ⟨0,X,rfl,rfl,a.to _ _,K7 _⟩ ?_);rintro _ _ w4 ⟨k,h5,Q,rfl,a,hk⟩;have V:(jJ (fun i=>nA d (ks.getD i bv)) (k+1))=max (jJ (fun i=>nA d (ks.getD i bv)) k) (nA d (ks.getD k bv)):=rfl;refine cQ (aa a [.m 5 4,.v 6 (qP I 6),.o 7 (qS A b.length c) 0 6 1,.v 8 (nV b.length)] ?_);cases j:(decide ((k:Int)<(b.length:Int)))
 ·
  have D:=oF j;refine lB 9 j (af (CG.exit ?_))
  show CG _ _ _ _ _ _ _ _
  refine aa a [.m 20 3] ?_;have C:=F k oM;exact bD 21 (((jJ (fun i=>nA d (ks.getD i bv)) k):Nat)+1) (((jJ (fun i=>nA d (ks.getD i bv)) k):Nat)+1) (lL a [.m 2 21] (ac a [] (nV (((jJ (fun i=>nA d (ks.getD i bv)) k):Nat)+1)) (congrArg (fun n:Nat=>Lp .i64 (n:Int)) (by rw[show k=ks.length by omega];rfl))))
 have D:=oT j;refine lB 9 j (ak (cK (cQ (kZ (kQ (lL a [.m 12 3,.v 13 (qP I 6),.o 14 (qS A b.length c) 0 6 1,.m 15 4] (lX 16 A b.length c 7 (k:Nat) k ((a.f.2.1).ok oM) ?_)))))));refine lH 17 (bE (b.getD k aN)) a ((a.f.2.1).el k oM) (ag 18 a (S (b.getD k aN) (ks.getD k bv) _ _ a.g ((a.f.1).at_ k oM) (U k oM) oM) (fun w8 h9 a=>?_));have C:=F k oM;have M:=H k;refine lV 19 (nV (jJ (fun i=>nA d (ks.getD i bv)) (k+1))) ?_ (hr:=aK (n:=if (nA d (ks.getD k bv):Int)>((jJ (fun i=>nA d (ks.getD i bv)) k):Int) then (nA d (ks.getD k bv):Int) else ((jJ (fun i=>nA d (ks.getD i bv)) k):Int)) kR (by split<;>omega));refine lL a [.m 3 19] (lN (kQ (lL a [.m 10 4] (bD 11 ((k:Nat)+1) (k+1) ?_))));refine lL a [.m 4 11] (lD ?_);intro a_ W;refine ⟨_,_,?_,⟨k+1,h9,rfl,rfl,a.to _ _,oM⟩,W.to _ kR⟩
 omega
theorem uS (sm:ByteArray→Prop):∀ (d:Nat) (r:RTm) (t:Tm) (w:World) (h:Hp),G w h→RmH d h r t→iF sm d t→d≤1000→Calls Tryz.prog 55 #[bE r] w (Ret w h (fun v _=>v=nV (nA d t)))
  | 0,_,_,_,_,_,x,_,_=>x.elim
  | d+1,r,t,w,h,g,x,wf,hd=>by
    obtain ⟨op,n,b,D,o,k,j,u,l,q,s,A,c,e,ks,rfl,rfl,H,B,C,a⟩:=x.open;obtain ⟨p,F,i,f,y,z⟩:=wf;exact BI sm d (fun r t w h=>uS sm d r t w h) op n b D o k j u l q s A c e ks B p F i f y z hd w h g H C a
theorem CM (op n a:Int)(D:0≤a∧a≤1073741824)(K:op=8 → -1000≤n∧n≤1000)(w:World)(h:Hp)(g:G w h):CV 93 #[iV op,iV n,iV a] w h (iV (min (eL op n a) 1073741824)):=by
 have b:=sS g;have c:min (a:Int) (1073741824:Int)=a:=by omega
 have I:=fun h8:op=8=>Dl D (K h8)
 have F:=fun h8:op=8=>Dl (n:=0-n) D (by have:=K h8;omega)
 rw[←c] at I F
 have M:n≤0→(min (a:Int) (1073741824:Int))*n≤0∧0≤(min (a:Int) (1073741824:Int))*(0-n):=fun H=>⟨Int.mul_nonpos_of_nonneg_of_nonpos oM H,Mw oM oM⟩
 have O:0≤n→0≤(min (a:Int) (1073741824:Int))*n:=fun H=>Mw oM H
 refine go Tryz.func93 [(0,iV op),(1,iV n),(2,iV a)] rfl (aa b [.v 6 (iV 0)] (ah (kZ (aa b [.m 8 0] ?_))));cases k:((op:Int) == (11:Int))
 ·
  have B:=ae k;refine lB 9 k (lL b [.m 7 9] (af (aa b [.m 13 0] ?_)));cases l:((op:Int) == (8:Int))
  ·
   have y:=ae l;refine lB 14 l (lL b [.m 15 14] (lG 16 ?_));refine lG 17 (lL b [.v 18 qF,.m 12 18] (af (cK (aa b [.m 33 2] (lV 34 (iV (min (a:Int) (1073741824:Int))) ?_ (hr:=aK (n:=(if (1073741824:Int)<(a:Int) then (1073741824:Int) else (a:Int))) kR (by simp only[em])))))));exact lL b [.m 6 34] (ac b [] (iV (min (a:Int) (1073741824:Int))) (congrArg (Lp .i64) (by unfold eL;first|(rw[MN oM]<;>omega)|(rw[MM oM,MN oM,MN oM]<;>rw[c] at * <;> omega)|(rw[MM oM,MN oM,MM oM]<;>rw[c] at * <;> omega)|(rw[MM oM,MM oM]<;>omega))))
  have y:=ML l;refine lB 14 l (lL b [.m 15 14,.m 16 1] ?_);cases f:((n:Int) != (0:Int))
  ·
   have o:=aJ f;refine lB 17 f (lL b [.v 18 qF,.m 12 18] (af (cK (aa b [.m 33 2] (lV 34 (iV (min (a:Int) (1073741824:Int))) ?_ (hr:=aK (n:=(if (1073741824:Int)<(a:Int) then (1073741824:Int) else (a:Int))) kR (by simp only[em])))))));exact lL b [.m 6 34] (ac b [] (iV (min (a:Int) (1073741824:Int))) (congrArg (Lp .i64) (by unfold eL;first|(rw[MN oM]<;>omega)|(rw[MM oM,MN oM,MN oM]<;>rw[c] at * <;> omega)|(rw[MM oM,MN oM,MM oM]<;>rw[c] at * <;> omega)|(rw[MM oM,MM oM]<;>omega))))
  have o:=aW f;refine lB 17 f (lL b [.v 18 qT,.m 12 18] (ak (cQ (aa b [.m 19 1] ?_))));cases e:(decide ((n:Int)<(0:Int)))
  ·
   have u:=oF e;refine lB 20 e (af (cK (cQ (aa b [.m 23 1] ?_))));have ⟨J,L⟩:=dF (p:=(n:Int)<(0:Int)) oM;refine lB 24 J (lL b [.m 25 24,.m 26 1] ?_);cases d:(decide ((1073741824:Int)<(n:Int)))
   ·
    have z:=oF d;refine lB 27 d (lL b [.v 28 qF] (af (cK (kQ (lL b [.m 29 2] (lV 30 (iV (min (a:Int) (1073741824:Int))) ?_ (hr:=aK (n:=(if (1073741824:Int)<(a:Int) then (1073741824:Int) else (a:Int))) kR (by simp only[em]))))))));refine lL b [.m 31 1] (lI 32 ((min (a:Int) (1073741824:Int))*n) ?_);refine lL b [.m 2 32] (aI (lL b [.m 33 2] (lV 34 (iV (min ((min (a:Int) (1073741824:Int))*n:Int) (1073741824:Int))) ?_ (hr:=aK (n:=(if (1073741824:Int)<((min (a:Int) (1073741824:Int))*n:Int) then (1073741824:Int) else ((min (a:Int) (1073741824:Int))*n:Int))) kR (by simp only[em])))));exact lL b [.m 6 34] (ac b [] (iV (min ((min (a:Int) (1073741824:Int))*n:Int) (1073741824:Int))) (congrArg (Lp .i64) (by unfold eL;first|(rw[MN oM]<;>omega)|(rw[MM oM,MN oM,MN oM]<;>rw[c] at * <;> omega)|(rw[MM oM,MN oM,MM oM]<;>rw[c] at * <;> omega)|(rw[MM oM,MM oM]<;>omega))))
   have z:=oT d;refine lB 27 d (lL b [.v 28 qT] (ak (kQ (lL b [.v 1 (iV 1073741824)] (lN (kQ (lL b [.m 29 2] (lV 30 (iV (min (a:Int) (1073741824:Int))) ?_ (hr:=aK (n:=(if (1073741824:Int)<(a:Int) then (1073741824:Int) else (a:Int))) kR (by simp only[em]))))))))));refine lL b [.m 31 1] (lI 32 ((min (a:Int) (1073741824:Int))*1073741824) ?_);refine lL b [.m 2 32] (aI (lL b [.m 33 2] (lV 34 (iV (min ((min (a:Int) (1073741824:Int))*1073741824:Int) (1073741824:Int))) ?_ (hr:=aK (n:=(if (1073741824:Int)<((min (a:Int) (1073741824:Int))*1073741824:Int) then (1073741824:Int) else ((min (a:Int) (1073741824:Int))*1073741824:Int))) kR (by simp only[em])))));exact lL b [.m 6 34] (ac b [] (iV (min ((min (a:Int) (1073741824:Int))*1073741824:Int) (1073741824:Int))) (congrArg (Lp .i64) (by unfold eL;first|(rw[MN oM]<;>omega)|(rw[MM oM,MN oM,MN oM]<;>rw[c] at * <;> omega)|(rw[MM oM,MN oM,MM oM]<;>rw[c] at * <;> omega)|(rw[MM oM,MM oM]<;>omega))))
  have u:=oT e;refine lB 20 e (ak (kQ (lL b [.m 21 1] (lI 22 (0-n) ?_))));refine lL b [.m 1 22] (ah (aa b [.m 23 1] ?_));cases i:(decide ((0-n:Int)<(0:Int)))
  ·
   have x:=oF i;refine lB 24 i (lL b [.m 25 24,.m 26 1] ?_);cases j:(decide ((1073741824:Int)<(0-n:Int)))
   ·
    have C:=oF j;refine lB 27 j (lL b [.v 28 qF] (af (cK (kQ (lL b [.m 29 2] (lV 30 (iV (min (a:Int) (1073741824:Int))) ?_ (hr:=aK (n:=(if (1073741824:Int)<(a:Int) then (1073741824:Int) else (a:Int))) kR (by simp only[em]))))))));refine lL b [.m 31 1] (lI 32 ((min (a:Int) (1073741824:Int))*(0-n)) ?_);refine lL b [.m 2 32] (aI (lL b [.m 33 2] (lV 34 (iV (min ((min (a:Int) (1073741824:Int))*(0-n):Int) (1073741824:Int))) ?_ (hr:=aK (n:=(if (1073741824:Int)<((min (a:Int) (1073741824:Int))*(0-n):Int) then (1073741824:Int) else ((min (a:Int) (1073741824:Int))*(0-n):Int))) kR (by simp only[em])))));exact lL b [.m 6 34] (ac b [] (iV (min ((min (a:Int) (1073741824:Int))*(0-n):Int) (1073741824:Int))) (congrArg (Lp .i64) (by unfold eL;first|(rw[MN oM]<;>omega)|(rw[MM oM,MN oM,MN oM]<;>rw[c] at * <;> omega)|(rw[MM oM,MN oM,MM oM]<;>rw[c] at * <;> omega)|(rw[MM oM,MM oM]<;>omega))))
   have C:=oT j;refine lB 27 j (lL b [.v 28 qT] (ak (kQ (lL b [.v 1 (iV 1073741824)] (lN (kQ (lL b [.m 29 2] (lV 30 (iV (min (a:Int) (1073741824:Int))) ?_ (hr:=aK (n:=(if (1073741824:Int)<(a:Int) then (1073741824:Int) else (a:Int))) kR (by simp only[em]))))))))));refine lL b [.m 31 1] (lI 32 ((min (a:Int) (1073741824:Int))*1073741824) ?_);refine lL b [.m 2 32] (aI (lL b [.m 33 2] (lV 34 (iV (min ((min (a:Int) (1073741824:Int))*1073741824:Int) (1073741824:Int))) ?_ (hr:=aK (n:=(if (1073741824:Int)<((min (a:Int) (1073741824:Int))*1073741824:Int) then (1073741824:Int) else ((min (a:Int) (1073741824:Int))*1073741824:Int))) kR (by simp only[em])))));exact lL b [.m 6 34] (ac b [] (iV (min ((min (a:Int) (1073741824:Int))*1073741824:Int) (1073741824:Int))) (congrArg (Lp .i64) (by unfold eL;first|(rw[MN oM]<;>omega)|(rw[MM oM,MN oM,MN oM]<;>rw[c] at * <;> omega)|(rw[MM oM,MN oM,MM oM]<;>rw[c] at * <;> omega)|(rw[MM oM,MM oM]<;>omega))))
  have x:=oT i;refine lB 24 i (lL b [.m 25 24] (lG 26 ?_));refine lG 27 (lL b [.v 28 qT] (ak (kQ (lL b [.v 1 (iV 1073741824)] (lN (kQ (lL b [.m 29 2] (lV 30 (iV (min (a:Int) (1073741824:Int))) ?_ (hr:=aK (n:=(if (1073741824:Int)<(a:Int) then (1073741824:Int) else (a:Int))) kR (by simp only[em]))))))))));refine lL b [.m 31 1] (lI 32 ((min (a:Int) (1073741824:Int))*1073741824) ?_);refine lL b [.m 2 32] (aI (lL b [.m 33 2] (lV 34 (iV (min ((min (a:Int) (1073741824:Int))*1073741824:Int) (1073741824:Int))) ?_ (hr:=aK (n:=(if (1073741824:Int)<((min (a:Int) (1073741824:Int))*1073741824:Int) then (1073741824:Int) else ((min (a:Int) (1073741824:Int))*1073741824:Int))) kR (by simp only[em])))));exact lL b [.m 6 34] (ac b [] (iV (min ((min (a:Int) (1073741824:Int))*1073741824:Int) (1073741824:Int))) (congrArg (Lp .i64) (by unfold eL;first|(rw[MN oM]<;>omega)|(rw[MM oM,MN oM,MN oM]<;>rw[c] at * <;> omega)|(rw[MM oM,MN oM,MM oM]<;>rw[c] at * <;> omega)|(rw[MM oM,MM oM]<;>omega))))
 have B:=ML k;refine lB 9 k (lL b [.m 7 9] (ak (kQ (lL b [.m 10 2] (lI 11 (2*a) ?_)))));refine lL b [.m 2 11] (aI (lL b [.m 33 2] (lV 34 (iV (min (2*a:Int) (1073741824:Int))) ?_ (hr:=aK (n:=(if (1073741824:Int)<(2*a:Int) then (1073741824:Int) else (2*a:Int))) kR (by simp only[em])))));exact lL b [.m 6 34] (ac b [] (iV (min (2*a:Int) (1073741824:Int))) (congrArg (Lp .i64) (by unfold eL;first|(rw[MN oM]<;>omega)|(rw[MM oM,MN oM,MN oM]<;>rw[c] at * <;> omega)|(rw[MM oM,MN oM,MM oM]<;>rw[c] at * <;> omega)|(rw[MM oM,MM oM]<;>omega))))
theorem vR  (sm:ByteArray→Prop)(d:Nat)(V:∀ (r:RTm) (t:Tm) (w:World) (h:Hp),G w h→RmH d h r t→iF sm d t →  Calls Tryz.prog 57 #[bE r] w (Ret w h (fun v _=>v=iV ((min (bp d t) 1073741824:Nat):Int))))(op n:Int)(F:Bool)(H:Option Addr)(B y:Nat)(x:Option Addr)(C z:Nat)(q:Rat)(s:ByteArray)(A:Option Addr)(c:Nat)(b:List RTm)(ks:List Tm)(hc:b.length≤c)(hk3:ks.length≤3)(hop : -1000≤op∧op≤1000)(W : -1000≤n∧n≤1000)(hq:LQ 3000 q)(hsm:sm s)(X:∀ i,i<ks.length→iF sm d (ks.getD i bv))(w:World)(h:Hp)(g:G w h)(hZ:RZ h (F,.slice H B y,.slice x C z) q)(hK:SlO 7 bU aN h A b)(M:Rms d h b ks):CV 57 #[.agg #[iV op,iV n,.bool F,.slice H B y,.slice x C z,.string s,.slice A b.length c]] w h (iV ((min (bp (d+1) (.mk op n q s ks)) 1073741824:Nat):Int)):=by
 have a:=((((sS g).add (K:=fun e=>RZ e (F,qS H B y,qS x C z) q) hZ).aS hK).add (K:=fun e=>Rms d e b ks) M);have U:=(a.f.1).len;refine go Tryz.func57 [(0,.agg #[iV op,iV n,.bool F,qS H B y,qS x C z,.string s,qS A b.length c])] rfl (av (lA 1 31 ([iV op,iV n,.bool F,qS H B y,qS x C z,.string s,qS A b.length c]) a (fun D w2 Z a=>lL a [.v 2 (iV 0)] (ah (aa a [.v 5 (qP D 6),.o 6 (qS A b.length c) 0 6 1,.v 7 (nV b.length)] ?_)))));cases j:((b.length:Int) == (0:Int))
 ·
  have I:=ae j;refine lB 8 j (af (cK (aa a [.v 3 (iV 0)] (ah (aa a [.v 4 (iV 0)] (a8 ?_))))));refine bH _ (CG.loop (fun L Γ w_=>∃ (k:Nat) (u:Nat) (e:Hp),L=b.length-k∧Γ=[(1,pB D),(2,iV 0),(4,nV k),(3,nV u)]∧SS w h w_ e [⟨D,31,[iV op,iV n,.bool F,qS H B y,qS x C z,.string s,qS A b.length c]⟩] [] [fun e=>Rms d e b ks,fun e=>SlO 7 bU aN e A b,fun e=>RZ e (F,qS H B y,qS x C z) q]∧k≤b.length∧u=min (fK (fun i=>bp d (ks.getD i bv)) k) 1073741824) _ ⟨0,0,Z,rfl,rfl,a.to _ _,K7 _,rfl⟩ ?_);rintro _ _ w5 ⟨k,u,h6,hm7,rfl,a,hk,p⟩;have S:(fK (fun i=>bp d (ks.getD i bv)) (k+1))=(fK (fun i=>bp d (ks.getD i bv)) k)+bp d (ks.getD k bv):=rfl;refine cQ (aa a [.m 9 4,.v 10 (qP D 6),.o 11 (qS A b.length c) 0 6 1,.v 12 (nV b.length)] ?_);cases l:(decide ((k:Int)<(b.length:Int)))
  ·
   have J:=oF l;refine lB 13 l (af (CG.exit ?_))
   show CG _ _ _ _ _ _ _ _
   refine aa a [.v 25 (pB D),.o 26 (iV op) 0 0 1,.v 27 (qP D 1),.o 28 (iV n) 0 1 1,.m 29 3] (ag 30 a (CM op n (u:Nat) oM (fun _=>W) _ _ a.g) (fun w9 _ a=>lL a [.m 2 30] (lN (kX ?_))));have O:k=ks.length:=by omega
   have Q:=je (d:=d) (op:=op) (n:=n) (q:=q) (s:=s) (ks:=ks) oM;rw[O] at p
   exact a.ret [] (iV (min (eL op n (u:Nat)) 1073741824)) (congrArg (Lp .i64) (by rw[Q,p];exact pm))
  have J:=oT l;refine lB 13 l (ak (cK (cQ (kZ (kQ (lL a [.m 16 3,.v 17 (qP D 6),.o 18 (qS A b.length c) 0 6 1,.m 19 4] (lX 20 A b.length c 7 (k:Nat) k ((a.f.2.1).ok oM) ?_)))))));refine lH 21 (bE (b.getD k aN)) a ((a.f.2.1).el k oM) (ag 22 a (V (b.getD k aN) (ks.getD k bv) _ _ a.g ((a.f.1).at_ k oM) (X k oM)) (fun _ za a=>lI 23 ((u:Nat)+((min (bp d (ks.getD k bv)) 1073741824:Nat):Int)) (lV 24 (iV ((min (fK (fun i=>bp d (ks.getD i bv)) (k+1)) 1073741824:Nat):Int)) ?_ (hr:=aK (n:=if (1073741824:Int)<((u:Nat)+((min (bp d (ks.getD k bv)) 1073741824:Nat):Int)) then (1073741824:Int) else ((u:Nat)+((min (bp d (ks.getD k bv)) 1073741824:Nat):Int))) kR (by split<;>omega)))));refine lL a [.m 3 24] (lN (kQ (lL a [.m 14 4] (bD 15 ((k:Nat)+1) (k+1) ?_))));refine lL a [.m 4 15] (lD ?_);intro a_ Y;refine ⟨_,_,?_,⟨k+1,(min (fK (fun i=>bp d (ks.getD i bv)) (k+1)) 1073741824),za,rfl,rfl,a.to _ _,oM,rfl⟩,Y.to _ kR⟩
  omega
 have I:=ML j;exact lB 8 j (ak (aa a [.v 2 (iV 1)] (ac a [] (iV 1) (congrArg (Lp .i64) (by rw[ml oM];rfl)))))
theorem rM (sm:ByteArray→Prop):∀ (d:Nat) (r:RTm) (t:Tm) (w:World) (h:Hp),G w h→RmH d h r t→iF sm d t →  Calls Tryz.prog 57 #[bE r] w (Ret w h (fun v _=>v=iV ((min (bp d t) 1073741824:Nat):Int)))
  | 0,_,_,_,_,_,x,_=>x.elim
  | d+1,r,t,w,h,g,x,wf=>by
    obtain ⟨op,n,b,D,o,k,j,u,l,q,s,A,c,e,ks,rfl,rfl,H,B,C,a⟩:=x.open;obtain ⟨p,F,i,f,y,z⟩:=wf;exact vR sm d (fun r t w h=>rM sm d r t w h) op n b D o k j u l q s A c e ks B p F i f y z w h g H C a
abbrev bh (q:Rat)(A:Option Addr)(c:Nat)(D:Option Addr)(d:Nat):RT:=(ai q.num,.slice A (lim (ab q.num)).length c,.slice D (lim q.den).length d)
theorem Gj {L:List PLt}{d:Nat}{n:Int}{q:Rat}{s:ByteArray}:aF L (d+1) (.mk 1 n q s [])=(0,q):=by
 rw[md kD];unfold mP;rw[MM kD,MM kD,MN ⟨fun h=>MO h kD,fun h=>MO h kD⟩]
 rfl
theorem lb (k:Bool)(l:Option Addr)(i b:Nat)(a:Option Addr)(j f:Nat)(q:Rat)(w:World)(h:Hp)(g:G w h)(y:RZ h (k,.slice l i b,.slice a j f) q):Calls Tryz.prog 94 #[.agg #[.bool k,.slice l i b,.slice a j f]] w (Ret w h (fun v h1=>RQ h1 v q)):=by
 obtain ⟨has,⟨A,c,D,d,e,p,x,u,o⟩,hz⟩:=y;have e2:(Value.agg #[.bool k,qS l i b,qS a j f])=.agg #[.bool (ai q.num),qS A (lim (ab q.num)).length c,qS D (lim (if has then q.den else 0)).length d]:=e;rw[e2];exact CJ { CB with q:=q,has:=has } A c D d p x hz w h g u o
theorem Hx (C:Option Addr)(y:Nat)(u:List RLt)(L:List PLt)(d:Nat)(n:Int)(l:Bool)(p:Option Addr)(j e:Nat)(b:Option Addr)(k i:Nat)(q:Rat)(s:ByteArray)(A:Option Addr)(c:Nat)(w:World)(h:Hp)(g:G w h)(S:RZ h (l,.slice p j e,.slice b k i) q)(O:SlO 4 qu dz h C u)(B:RLs h u L):CR 58 #[.agg #[iV 1,iV n,.bool l,.slice p j e,.slice b k i,.string s,.slice A 0 c],.slice C u.length y] w h (fun v h1=>∃ x,v=.tuple #[x,iV (aF L (d+1) (.mk 1 n q s [])).1]∧RQ h1 x (aF L (d+1) (.mk 1 n q s [])).2):=by
 have a:=((((sS g).add (K:=fun D=>RZ D (l,qS p j e,qS b k i) q) S).aS O).add (K:=fun D=>RLs D u L) B);refine go Tryz.func58 [(0,.agg #[iV 1,iV n,.bool l,qS p j e,qS b k i,.string s,qS A 0 c]),(1,qS C u.length y)] rfl (av (lA 2 31 ([iV 1,iV n,.bool l,qS p j e,qS b k i,.string s,qS A 0 c]) a (fun H w2 V a=>lA 4 28 ec a (fun X W U a=>lL a [.v 5 (iV 0)] (ah (aa a [.v 13 (pB H),.o 14 (iV 1) 1 0 1] (a8 (aa a [.v 16 qT,.m 15 16] (ak (aa a [.v 17 (qP H 2),.o 18 (.agg #[.bool l,qS p j e,qS b k i]) 1 2 3] (lC 19 a (lb l p j e b k i q _ _ a.g a.f.r.1) ?_)))))))))));rintro _ _ _ a ⟨F,I,za,zb,rfl,z,M,Q,J⟩;replace a:=a.aP Q J;exact lP 0 0 (cW q F I za zb) a (fun _ a=>lL a [.v 5 (iV 0)] (ac a [(0,0,3)] (.tuple #[rG q F I za zb,iV 0]) (by rw[Gj];exact ⟨_,rfl,⟨_,_,_,_,rfl,z,M,a.f.2.1,a.f.1⟩⟩)))
theorem Gt (l:Option Addr)(e:Nat)(b:List RLt)(L:List PLt)(d:Nat)(hLl:L.length≤1000)(O:Nat)(hc3:3002≤O)(hcm:O≤7000)(hLq:∀ i,LQ (O-2) (L.getD i ca).q)(n:Int)(z:Bool)(B:Option Addr)(u C:Nat)(y:Option Addr)(F D:Nat)(q:Rat)(s:ByteArray)(A:Option Addr)(c:Nat)(H:List RTm)(ks:List Tm)(w:World)(h:Hp)(g:G w h)(hZ:RZ h (z,.slice B u C,.slice y F D) q)(hL:SlO 4 qu dz h l b)(Q:RLs h b L):CR 58 #[.agg #[iV 2,iV n,.bool z,.slice B u C,.slice y F D,.string s,.slice A H.length c],.slice l b.length e] w h (fun v h1=>∃ x,v=.tuple #[x,iV (aF L (d+1) (.mk 2 n q s ks)).1]∧RQ h1 x (aF L (d+1) (.mk 2 n q s ks)).2):=by
 have a:=((((sS g).add (K:=fun j=>RZ j (z,qS B u C,qS y F D) q) hZ).aS hL).add (K:=fun j=>RLs j b L) Q);have hll:=(a.f.1).len;refine go Tryz.func58 [(0,.agg #[iV 2,iV n,.bool z,qS B u C,qS y F D,.string s,qS A H.length c]),(1,qS l b.length e)] rfl (av (lA 2 31 ([iV 2,iV n,.bool z,qS B u C,qS y F D,.string s,qS A H.length c]) a (fun I w2 h3 a=>lA 4 28 ec a (fun U w5 h6 a=>lL a [.v 5 (iV 0)] (ah (aa a [.v 13 (pB I),.o 14 (iV 2) 1 0 1] (a8 (aa a [.v 16 qF,.m 15 16] (af (aa a [.v 21 qT,.m 20 21] (ak (cQ (aa a [.v 6 (iV 0)] (a8 ?_))))))))))))));refine bH _ (CG.loop (fun M Γ w_=>∃ (k:Nat) (j:Hp),M=b.length-k∧Γ=[(1,qS l b.length e),(2,pB I),(4,pB U),(6,nV k)]∧SS w h w_ j [⟨U,28,[qF,sZ,sZ]⟩,⟨I,31,[iV 2,iV n,.bool z,qS B u C,qS y F D,.string s,qS A H.length c]⟩] [] [fun j=>RLs j b L,fun j=>SlO 4 qu dz j l b,fun j=>RZ j (z,qS B u C,qS y F D) q]∧k≤b.length∧(∀ i,i<k→(b.getD i dz).s≠s)) _ ⟨0,h6,rfl,rfl,a.to _ _,K7 _,(fun i hi=>MO hi (Mk i))⟩ ?_);rintro _ _ w7 ⟨k,h8,hm9,rfl,a,hk,p⟩;refine cQ (aa a [.m 22 6,.m 23 1,.v 24 (nV b.length)] ?_);cases za:(decide ((k:Int)<(b.length:Int)))
 ·
  have zd:=oF za;refine lB 25 za (af (CG.exit ?_))
  show CG _ _ _ _ _ _ _ _
  refine av (lC 42 a (mr 0 oM oM _ _ a.g) ?_);rintro _ _ _ a ⟨Y,zg,W,Z,rfl,zp,zq,zr,zs⟩;replace a:=a.aP zr zs;refine lP 0 0 (cW ((0:Int):Rat) Y zg W Z) a (fun _ a=>lL a [.v 5 (iV 11)] (lN (kX ?_)));have J:k=L.length:=by omega
  rw[J] at p
  exact a.ret [(0,0,3)] (.tuple #[rG ((0:Int):Rat) Y zg W Z,iV 11]) (by rw[k7 rfl (pZ (fun i hi=>by rw[←((a.f.r.1).at_ i hi).1];exact p i hi))];exact ⟨_,rfl,⟨_,_,_,_,rfl,zp,zq,a.f.2.1,a.f.1⟩⟩)
 have zd:=oT za;refine lB 25 za (ak (cK (cQ (kZ (cQ (cR 8 [] mixed a ar ?_))))));refine eV 0 28 (qS l b.length e) (eV 1 29 (nV k) (eX 2 30 l b.length e 4 (k:Nat) k ((a.f.2.1).ok oM) (eV 3 31 (.pointer (some ⟨(aB l),aO l+k*4,none⟩)) (eH 4 32 (.string ((b.getD k dz).s)) a (((a.f.2.1).el k oM).part 0 1) (eV 5 33 (qP I 5) (eO 6 34 [(1,5,1)] (.string s) a ?_))))));cases zb:(kn ((b.getD k dz).s) s)
 ·
  have ze:=gL zb;refine eB 7 35 zb (ck a (fun _ zx a=>tN (cv (cK (kQ (lL a [.m 26 6] (bD 27 ((k:Nat)+1) (k+1) ?_)))))));refine lL a [.m 6 27] (lD ?_);intro a_ ka;refine ⟨_,_,?_,⟨k+1,zx,rfl,rfl,a.to _ _,oM,(fun i hi=>by rcases Mm.1 hi with j|rfl;exact p i j;assumption)⟩,ka.to _ kR⟩
  omega
 have ze:=gW zb;refine eB 7 35 zb (ck a (fun _ _ a=>tN (ce (aa a [.m 36 1,.m 37 6] (lX 38 l b.length e 4 (k:Nat) k ((a.f.2.1).ok oM) ?_)))));refine lL a [.v 39 (.pointer (some ⟨(aB l),aO l+k*4+1,none⟩))] (lH 40 (.agg #[.bool ((b.getD k dz).neg),qS ((b.getD k dz).zA) ((b.getD k dz).zn) ((b.getD k dz).zc),qS ((b.getD k dz).dA) ((b.getD k dz).dn) ((b.getD k dz).dc)]) a (((a.f.2.1).el k oM).part 1 3) ?_);refine lC 41 a (lb (b.getD k dz).neg (b.getD k dz).zA (b.getD k dz).zn (b.getD k dz).zc (b.getD k dz).dA (b.getD k dz).dn (b.getD k dz).dc (L.getD k ca).q _ _ a.g ((a.f.1).at_ k oM).2) ?_;rintro _ _ _ a ⟨X,zl,S,V,rfl,zt,zu,zv,zw⟩;replace a:=a.aP zv zw;exact lP 0 0 (cW ((L.getD k ca).q) X zl S V) a (fun _ a=>lL a [.v 5 (iV 0)] (ac a [(0,0,3)] (.tuple #[rG ((L.getD k ca).q) X zl S V,iV 0]) (by rw[l7 rfl (pV (fun i hi=>by rw[←((a.f.r.1).at_ i oM).1];exact p i hi) oM (((a.f.r.1).at_ k oM).1.symm.trans aM))];exact ⟨_,rfl,⟨_,_,_,_,rfl,zt,zu,a.f.2.1,a.f.1⟩⟩)))
theorem HB  (ok:ByteArray→Prop)(d:Nat)(O:Option Addr)(I:Nat)(M:List RLt)(L:List PLt)(hLl:L.length≤1000)(cc:Nat)(hc3:3002≤cc)(hcm:cc≤7000)(hLq:∀ i,LQ (cc-2) (L.getD i ca).q)(ih:∀ (r:RTm) (t:Tm) (w:World) (h:Hp),G w h→RmH d h r t→WfT ok d t→bp d t≤1000→SlO 4 qu dz h O M→RLs h M L→Calls Tryz.prog 58 #[bE r,.slice O M.length I] w (Ret w h (fun v h1=>∃ x,v=.tuple #[x,iV (aF L d t).1]∧RQ h1 x (aF L d t).2)))(op n:Int)(V:Bool)(W:Option Addr)(Q X:Nat)(S:Option Addr)(Z Y:Nat)(q:Rat)(s:ByteArray)(A:Option Addr)(c:Nat)(U:RTm)(e:Tm)(hw1:WfT ok d e)(hg1:bp d e≤1000)(hv1:LQ (cc*1000) (aF L d e).2)(hop:3≤op∧op≤13)(hn : -12≤n∧n≤12)(hq0:q=0)(w:World)(h:Hp)(g:G w h)(hZ:RZ h (V,.slice W Q X,.slice S Z Y) q)(hK:SlO 7 bU aN h A ([U]:List RTm))(hr1:RmH d h U e)(hL:SlO 4 qu dz h O M)(hRL:RLs h M L):CR 58 #[.agg #[iV op,iV n,.bool V,.slice W Q X,.slice S Z Y,.string s,.slice A 1 c],.slice O M.length I] w h (fun v h1=>∃ x,v=.tuple #[x,iV (aF L (d+1) (.mk op n q s ([e]:List Tm))).1]∧RQ h1 x (aF L (d+1) (.mk op n q s ([e]:List Tm))).2):=by
 have a:=((((((sS g).add (K:=fun h_=>RZ h_ (V,qS W Q X,qS S Z Y) q) hZ).aS hK).add (K:=fun h_=>RmH d h_ U e) hr1).aS hL).add (K:=fun h_=>RLs h_ M L) hRL);have hln:([U]:List RTm).length=1:=rfl;refine go Tryz.func58 [(0,.agg #[iV op,iV n,.bool V,qS W Q X,qS S Z Y,.string s,qS A 1 c]),(1,qS O M.length I)] rfl (av (lA 2 31 ([iV op,iV n,.bool V,qS W Q X,qS S Z Y,.string s,qS A 1 c]) a (fun J w2 h3 a=>lA 4 28 ec a (fun b4 w5 h6 a=>lL a [.v 5 (iV 0)] (ah (aa a [.v 13 (pB J),.o 14 (iV op) 1 0 1] (a8 (av ?_))))))));have hb7:((op:Int) == (1:Int))=false:=bJ oM;have bd:=ae hb7;refine lB 16 hb7 (lL a [.m 15 16] (af (av ?_)));have hb8:((op:Int) == (2:Int))=false:=bJ oM;have bk:=ae hb8;refine lB 21 hb8 (lL a [.m 20 21] (af (cK (av (lC 43 a (mr 0 oM oM _ _ a.g) ?_)))));rintro _ _ _ a ⟨l,u,y,p,rfl,bb,bl,zK,zL⟩;replace a:=a.aP zK zL;refine lC 44 a (mr 0 oM oM _ _ a.g) ?_;rintro _ _ _ a ⟨za,zb,j,k,rfl,zM,zN,zP,zQ⟩;replace a:=a.aP zP zQ;refine HZ 45 28 3 j6 ([(bh ((0:Int):Rat) l u y p),(bh ((0:Int):Rat) za zb j k)]:List RT) a (fun H _ _ a=>lL a [.m 7 45] ?_);have bm:(([(bh ((0:Int):Rat) l u y p),(bh ((0:Int):Rat) za zb j k)]:List RT)).length=2:=rfl;refine ah (aa a [.v 8 (iV 0)] (a8 (cU ?_)));refine cN (cQ (aa a [.m 46 8,.v 47 (qP J 6),.o 48 (qS A 1 c) 1 6 1,.v 49 (iV 1),.v 50 qT] (ak (cK (cQ (kZ (aa a [.v 54 (qP J 6),.o 55 (qS A 1 c) 1 6 1,.m 56 8] (lX 57 A 1 c 7 0 0 ((a.f.q.r.2.1).ok oM) ?_))))))));refine lH 58 (bE (([U]:List RTm).getD 0 aN)) a ((a.f.q.r.2.1).el 0 oM) (lL a [.m 59 1] (lC 60 a (ih (([U]:List RTm).getD 0 aN) e _ _ a.g a.f.q.r.1 hw1 hg1 a.f.q.2.1 a.f.q.1) ?_));rintro _ _ _ a ⟨_,rfl,D,C,F,B,rfl,zR,zS,zU,zW⟩;replace a:=a.aP zU zW;refine lL a [.m 53 60,.v 61 (rG ((aF L d e).2) D C F B),.v 62 (iV ((aF L d e).1))] (lA 9 28 ec a (fun zu _ _ a=>lP 0 0 (cW ((aF L d e).2) D C F B) a (fun _ a=>lL a [.m 10 62] (ah (aa a [.m 63 10] ?_)))));cases zt:(((aF L d e).1:Int) != (0:Int))
 ·
  have zw:=aJ zt;refine lB 64 zt (af (cK (kQ (lL a [.m 67 7,.m 68 8,.o 69 (rG ((aF L d e).2) D C F B) 0 0 3] (lX 70 (sB H) ((([(bh ((0:Int):Rat) l u y p),(bh ((0:Int):Rat) za zb j k)]:List RT)).length) ((([(bh ((0:Int):Rat) l u y p),(bh ((0:Int):Rat) za zb j k)]:List RT)).length) 3 0 0 rfl ?_)))));refine EZ (ty:=28) (c:=(([(bh ((0:Int):Rat) l u y p),(bh ((0:Int):Rat) za zb j k)]:List RT)).length) (b:=H) 0 0 0 (cW ((aF L d e).2) D C F B) ([(bh ((0:Int):Rat) l u y p),(bh ((0:Int):Rat) za zb j k)]:List RT) j6 3 sv (bh ((aF L d e).2) D C F B) a oM (fun _ a=>?_);replace a:=a.to [⟨zu,28,cW ((aF L d e).2) D C F B⟩,⟨b4,28,[qF,sZ,sZ]⟩,⟨J,31,[iV op,iV n,.bool V,qS W Q X,qS S Z Y,.string s,qS A 1 c]⟩] [⟨28,3,sB H,(([(bh ((0:Int):Rat) l u y p),(bh ((0:Int):Rat) za zb j k)]:List RT)).length,(([(bh ((0:Int):Rat) l u y p),(bh ((0:Int):Rat) za zb j k)]:List RT)).length,(([(bh ((0:Int):Rat) l u y p),(bh ((0:Int):Rat) za zb j k)]:List RT).set 0 (bh ((aF L d e).2) D C F B)).flatMap j6⟩];have bn:(([(bh ((0:Int):Rat) l u y p),(bh ((0:Int):Rat) za zb j k)]:List RT).set 0 (bh ((aF L d e).2) D C F B)).length=2:=rfl;refine lN (kQ (lL a [.m 51 8,.v 52 (iV 1),.m 8 52] (lD (CL.to [(1,qS O M.length I),(2,pB J),(4,pB b4),(5,iV 0),(7,qS (sB H) ((([(bh ((0:Int):Rat) l u y p),(bh ((0:Int):Rat) za zb j k)]:List RT)).length) ((([(bh ((0:Int):Rat) l u y p),(bh ((0:Int):Rat) za zb j k)]:List RT)).length)),(8,iV 1),(46,iV 0),(47,qP J 6),(48,qS A 1 c),(49,iV 1),(50,qT),(54,qP J 6),(55,qS A 1 c),(56,iV 0),(57,.pointer (some ⟨(aB A),aO A+0*7,none⟩)),(58,bE (([U]:List RTm).getD 0 aN)),(59,qS O M.length I),(60,.tuple #[rG ((aF L d e).2) D C F B,iV ((aF L d e).1)]),(53,.tuple #[rG ((aF L d e).2) D C F B,iV ((aF L d e).1)]),(61,rG ((aF L d e).2) D C F B),(62,iV ((aF L d e).1)),(9,pB zu),(10,iV ((aF L d e).1)),(63,iV ((aF L d e).1)),(64,qF),(67,qS (sB H) ((([(bh ((0:Int):Rat) l u y p),(bh ((0:Int):Rat) za zb j k)]:List RT)).length) ((([(bh ((0:Int):Rat) l u y p),(bh ((0:Int):Rat) za zb j k)]:List RT)).length)),(68,iV 0),(69,rG ((aF L d e).2) D C F B),(70,qP H (0+0*3)),(51,iV 0),(52,iV 1)] ?_))));replace a:=a.to [⟨zu,28,cW ((aF L d e).2) D C F B⟩,⟨b4,28,[qF,sZ,sZ]⟩,⟨J,31,[iV op,iV n,.bool V,qS W Q X,qS S Z Y,.string s,qS A 1 c]⟩] [⟨28,3,sB H,(([(bh ((0:Int):Rat) l u y p),(bh ((0:Int):Rat) za zb j k)]:List RT)).length,(([(bh ((0:Int):Rat) l u y p),(bh ((0:Int):Rat) za zb j k)]:List RT)).length,(([(bh ((0:Int):Rat) l u y p),(bh ((0:Int):Rat) za zb j k)]:List RT).set 0 (bh ((aF L d e).2) D C F B)).flatMap j6⟩];refine cN (cQ (aa a [.m 46 8,.v 47 (qP J 6),.o 48 (qS A 1 c) 2 6 1,.v 49 (iV 1),.v 50 qF] (af (CG.exit ?_))))
  show CG _ _ _ _ _ _ _ _
  refine cQ ?_;have hsr:=a;refine cR 15 [⟨14,11,.cells (Lu [qF,sZ,sZ]) 28 (0,0)⟩] mixed a (bW (fA kR (fun _ _=>by kernel_rfl)) ar) (eV 0 72 (pB J) (eO 1 73 [(2,0,1)] (iV op) a (eV 2 74 (qP J 1) (eO 3 75 [(2,1,1)] (iV n) a (eV 4 76 (qS (sB H) ((([(bh ((0:Int):Rat) l u y p),(bh ((0:Int):Rat) za zb j k)]:List RT)).length) ((([(bh ((0:Int):Rat) l u y p),(bh ((0:Int):Rat) za zb j k)]:List RT)).length)) (eX 5 77 (sB H) ((([(bh ((0:Int):Rat) l u y p),(bh ((0:Int):Rat) za zb j k)]:List RT)).length) ((([(bh ((0:Int):Rat) l u y p),(bh ((0:Int):Rat) za zb j k)]:List RT)).length) 3 0 0 rfl (FM (ty:=28) (sz:=3) (c:=(([(bh ((0:Int):Rat) l u y p),(bh ((0:Int):Rat) za zb j k)]:List RT)).length) (m:=(([(bh ((0:Int):Rat) l u y p),(bh ((0:Int):Rat) za zb j k)]:List RT)).length) (b:=H) (cs:=(([(bh ((0:Int):Rat) l u y p),(bh ((0:Int):Rat) za zb j k)]:List RT).set 0 (bh ((aF L d e).2) D C F B)).flatMap j6) 6 78 0 (rG ((aF L d e).2) D C F B) (cW ((aF L d e).2) D C F B) a (fC (f:=j6) (sz:=3) (fun _=>rfl) sv (([(bh ((0:Int):Rat) l u y p),(bh ((0:Int):Rat) za zb j k)]:List RT).set 0 (bh ((aF L d e).2) D C F B)) 0 oM) (eV 7 79 (qS (sB H) ((([(bh ((0:Int):Rat) l u y p),(bh ((0:Int):Rat) za zb j k)]:List RT)).length) ((([(bh ((0:Int):Rat) l u y p),(bh ((0:Int):Rat) za zb j k)]:List RT)).length)) (eX 8 80 (sB H) ((([(bh ((0:Int):Rat) l u y p),(bh ((0:Int):Rat) za zb j k)]:List RT)).length) ((([(bh ((0:Int):Rat) l u y p),(bh ((0:Int):Rat) za zb j k)]:List RT)).length) 3 1 1 rfl (FM (ty:=28) (sz:=3) (c:=(([(bh ((0:Int):Rat) l u y p),(bh ((0:Int):Rat) za zb j k)]:List RT)).length) (m:=(([(bh ((0:Int):Rat) l u y p),(bh ((0:Int):Rat) za zb j k)]:List RT)).length) (b:=H) (cs:=(([(bh ((0:Int):Rat) l u y p),(bh ((0:Int):Rat) za zb j k)]:List RT).set 0 (bh ((aF L d e).2) D C F B)).flatMap j6) 9 81 0 (rG ((0:Int):Rat) za zb j k) (cW ((0:Int):Rat) za zb j k) a (fC (f:=j6) (sz:=3) (fun _=>rfl) sv (([(bh ((0:Int):Rat) l u y p),(bh ((0:Int):Rat) za zb j k)]:List RT).set 0 (bh ((aF L d e).2) D C F B)) 1 oM) (eC 10 82 a (fun _ _ a=>Jk op n ((aF L d e).2) D C F B zR zS ((0:Int):Rat) za zb j k zM zN (cc*1000) oM hv1 ((LQ.lit (z:=0) kD).mono oM) oM oM _ _ a.g a.f.2.1 a.f.1 a.f.r.2.1 a.f.r.1) ?_)))))))))));rintro _ _ _ _ _ a ⟨_,rfl,zp,zq,zr,zs,rfl,zX,ya,yb,yc⟩;replace a:=a.aP yb yc;refine eV 11 71 (.tuple #[rG (gC op n 0 ((aF L d e).2) ((0:Int):Rat)) zp zq zr zs,.bool (decide (i5 op n ((aF L d e).2) ((0:Int):Rat)))]) (eV 12 83 (rG (gC op n 0 ((aF L d e).2) ((0:Int):Rat)) zp zq zr zs) (eV 13 84 (.bool (decide (i5 op n ((aF L d e).2) ((0:Int):Rat)))) (iL [] hsr a 28 [qF,sZ,sZ] (fun _ _ ym a=>tP 15 0 0 (cW (gC op n 0 ((aF L d e).2) ((0:Int):Rat)) zp zq zr zs) a (fun _ a=>tV 16 12 (.bool (decide (i5 op n ((aF L d e).2) ((0:Int):Rat)))) (tN (bH [(4,pB b4),(5,iV 0),(11,pB ym),(12,.bool (decide (i5 op n ((aF L d e).2) ((0:Int):Rat))))] ?_)))))));refine cQ (aa a [.m 85 12] ?_);cases zv:(!(decide (i5 op n ((aF L d e).2) ((0:Int):Rat))))
  ·
   exact lB 86 zv (af (cK (aa a [.o 88 (rG (gC op n 0 ((aF L d e).2) ((0:Int):Rat)) zp zq zr zs) 0 0 3] (lP 2 0 (cW (gC op n 0 ((aF L d e).2) ((0:Int):Rat)) zp zq zr zs) a (fun _ a=>lL a [.v 5 (iV 0)] (ac a [(2,0,3)] (.tuple #[rG (gC op n 0 ((aF L d e).2) ((0:Int):Rat)) zp zq zr zs,iV 0]) (by rw[fJ oM,hq0,gn oM oM (Hw aM)];exact ⟨_,rfl,⟨_,_,_,_,rfl,zX,ya,a.f.2.1,a.f.1⟩⟩)))))))
  refine lB 86 zv (ak (av (lC 87 a (mr 0 oM oM _ _ a.g) ?_)));rintro _ _ _ a ⟨zx,zB,zD,zE,rfl,yd,ye,yf,yg⟩;replace a:=a.aP yf yg;exact lP 2 0 (cW ((0:Int):Rat) zx zB zD zE) a (fun _ a=>lL a [.v 5 (iV 6)] (ac a [(2,0,3)] (.tuple #[rG ((0:Int):Rat) zx zB zD zE,iV 6]) (by rw[fJ oM,od oM oM (Hh aM)];exact ⟨_,rfl,⟨_,_,_,_,rfl,yd,ye,a.f.2.1,a.f.1⟩⟩)))
 have zw:=aW zt;refine lB 64 zt (ak (av (lC 65 a (mr 0 oM oM _ _ a.g) ?_)));rintro _ _ _ a ⟨zG,zH,zI,zJ,rfl,yi,yj,yk,yl⟩;replace a:=a.aP yk yl;exact lL a [.m 66 10] (lP 1 0 (cW ((0:Int):Rat) zG zH zI zJ) a (fun _ a=>lL a [.m 5 66] (ac a [(1,0,3)] (.tuple #[rG ((0:Int):Rat) zG zH zI zJ,iV ((aF L d e).1)]) (by rw[fJ oM,qz oM];exact ⟨_,rfl,⟨_,_,_,_,rfl,yi,yj,a.f.2.1,a.f.1⟩⟩))))
theorem GP  (ok:ByteArray→Prop)(d:Nat)(X:Option Addr)(S:Nat)(U:List RLt)(L:List PLt)(hLl:L.length≤1000)(cc:Nat)(hc3:3002≤cc)(hcm:cc≤7000)(hLq:∀ i,LQ (cc-2) (L.getD i ca).q)(ih:∀ (r:RTm) (t:Tm) (w:World) (h:Hp),G w h→RmH d h r t→WfT ok d t→bp d t≤1000→SlO 4 qu dz h X U→RLs h U L→Calls Tryz.prog 58 #[bE r,.slice X U.length S] w (Ret w h (fun v h1=>∃ x,v=.tuple #[x,iV (aF L d t).1]∧RQ h1 x (aF L d t).2)))(op n:Int)(bq:Bool)(zA:Option Addr)(Y zc:Nat)(Z:Option Addr)(dn dc:Nat)(q:Rat)(s:ByteArray)(A:Option Addr)(c:Nat)(W:RTm)(e:Tm)(hw1:WfT ok d e)(hg1:bp d e≤1000)(hv1:LQ (cc*1000) (aF L d e).2)(V:RTm)(y:Tm)(hw2:WfT ok d y)(hg2:bp d y≤1000)(hv2:LQ (cc*1000) (aF L d y).2)(hop:3≤op∧op≤13)(hn : -12≤n∧n≤12)(hq0:q=0)(w:World)(h:Hp)(g:G w h)(hZ:RZ h (bq,.slice zA Y zc,.slice Z dn dc) q)(hK:SlO 7 bU aN h A ([W,V]:List RTm))(hr1:RmH d h W e)(hr2:RmH d h V y)(hL:SlO 4 qu dz h X U)(hRL:RLs h U L):CR 58 #[.agg #[iV op,iV n,.bool bq,.slice zA Y zc,.slice Z dn dc,.string s,.slice A 2 c],.slice X U.length S] w h (fun v h1=>∃ x,v=.tuple #[x,iV (aF L (d+1) (.mk op n q s ([e,y]:List Tm))).1]∧RQ h1 x (aF L (d+1) (.mk op n q s ([e,y]:List Tm))).2):=by
 have a:=(((((((sS g).add (K:=fun h_=>RZ h_ (bq,qS zA Y zc,qS Z dn dc) q) hZ).aS hK).add (K:=fun h_=>RmH d h_ W e) hr1).add (K:=fun h_=>RmH d h_ V y) hr2).aS hL).add (K:=fun h_=>RLs h_ U L) hRL);have hln:([W,V]:List RTm).length=2:=rfl;refine go Tryz.func58 [(0,.agg #[iV op,iV n,.bool bq,qS zA Y zc,qS Z dn dc,.string s,qS A 2 c]),(1,qS X U.length S)] rfl (av (lA 2 31 ([iV op,iV n,.bool bq,qS zA Y zc,qS Z dn dc,.string s,qS A 2 c]) a (fun Q w2 h3 a=>lA 4 28 ec a (fun b4 w5 h6 a=>lL a [.v 5 (iV 0)] (ah (aa a [.v 13 (pB Q),.o 14 (iV op) 1 0 1] (a8 (av ?_))))))));have hb7:((op:Int) == (1:Int))=false:=bJ oM;have bd:=ae hb7;refine lB 16 hb7 (lL a [.m 15 16] (af (av ?_)));have hb8:((op:Int) == (2:Int))=false:=bJ oM;have bk:=ae hb8;refine lB 21 hb8 (lL a [.m 20 21] (af (cK (av (lC 43 a (mr 0 oM oM _ _ a.g) ?_)))));rintro _ _ _ a ⟨j,za,zb,p,rfl,bb,br,yf,yg⟩;replace a:=a.aP yf yg;refine lC 44 a (mr 0 oM oM _ _ a.g) ?_;rintro _ _ _ a ⟨u,l,z,k,rfl,bl,bm,yi,yj⟩;replace a:=a.aP yi yj;refine HZ 45 28 3 j6 ([(bh ((0:Int):Rat) j za zb p),(bh ((0:Int):Rat) u l z k)]:List RT) a (fun O _ _ a=>lL a [.m 7 45] ?_);have bt:(([(bh ((0:Int):Rat) j za zb p),(bh ((0:Int):Rat) u l z k)]:List RT)).length=2:=rfl;refine ah (aa a [.v 8 (iV 0)] (a8 (cU ?_)));refine cN (cQ (aa a [.m 46 8,.v 47 (qP Q 6),.o 48 (qS A 2 c) 1 6 1,.v 49 (iV 2),.v 50 qT] (ak (cK (cQ (kZ (aa a [.v 54 (qP Q 6),.o 55 (qS A 2 c) 1 6 1,.m 56 8] (lX 57 A 2 c 7 0 0 ((a.f.q.q.1).ok oM) ?_))))))));refine lH 58 (bE (([W,V]:List RTm).getD 0 aN)) a ((a.f.q.q.1).el 0 oM) (lL a [.m 59 1] (lC 60 a (ih (([W,V]:List RTm).getD 0 aN) e _ _ a.g a.f.q.r.2.1 hw1 hg1 a.f.q.2.1 a.f.q.1) ?_));rintro _ _ _ a ⟨_,rfl,D,C,F,B,rfl,yk,yl,ym,yn⟩;replace a:=a.aP ym yn;refine lL a [.m 53 60,.v 61 (rG ((aF L d e).2) D C F B),.v 62 (iV ((aF L d e).1))] (lA 9 28 ec a (fun zD _ _ a=>lP 0 0 (cW ((aF L d e).2) D C F B) a (fun _ a=>lL a [.m 10 62] (ah (aa a [.m 63 10] ?_)))));cases zx:(((aF L d e).1:Int) != (0:Int))
 ·
  have zL:=aJ zx;refine lB 64 zx (af (cK (kQ (lL a [.m 67 7,.m 68 8,.o 69 (rG ((aF L d e).2) D C F B) 0 0 3] (lX 70 (sB O) ((([(bh ((0:Int):Rat) j za zb p),(bh ((0:Int):Rat) u l z k)]:List RT)).length) ((([(bh ((0:Int):Rat) j za zb p),(bh ((0:Int):Rat) u l z k)]:List RT)).length) 3 0 0 rfl ?_)))));refine EZ (ty:=28) (c:=(([(bh ((0:Int):Rat) j za zb p),(bh ((0:Int):Rat) u l z k)]:List RT)).length) (b:=O) 0 0 0 (cW ((aF L d e).2) D C F B) ([(bh ((0:Int):Rat) j za zb p),(bh ((0:Int):Rat) u l z k)]:List RT) j6 3 sv (bh ((aF L d e).2) D C F B) a oM (fun _ a=>?_);replace a:=a.to [⟨zD,28,cW ((aF L d e).2) D C F B⟩,⟨b4,28,[qF,sZ,sZ]⟩,⟨Q,31,[iV op,iV n,.bool bq,qS zA Y zc,qS Z dn dc,.string s,qS A 2 c]⟩] [⟨28,3,sB O,(([(bh ((0:Int):Rat) j za zb p),(bh ((0:Int):Rat) u l z k)]:List RT)).length,(([(bh ((0:Int):Rat) j za zb p),(bh ((0:Int):Rat) u l z k)]:List RT)).length,(([(bh ((0:Int):Rat) j za zb p),(bh ((0:Int):Rat) u l z k)]:List RT).set 0 (bh ((aF L d e).2) D C F B)).flatMap j6⟩];have bw:(([(bh ((0:Int):Rat) j za zb p),(bh ((0:Int):Rat) u l z k)]:List RT).set 0 (bh ((aF L d e).2) D C F B)).length=2:=rfl;refine lN (kQ (lL a [.m 51 8,.v 52 (iV 1),.m 8 52] (lD (CL.to [(1,qS X U.length S),(2,pB Q),(4,pB b4),(5,iV 0),(7,qS (sB O) ((([(bh ((0:Int):Rat) j za zb p),(bh ((0:Int):Rat) u l z k)]:List RT)).length) ((([(bh ((0:Int):Rat) j za zb p),(bh ((0:Int):Rat) u l z k)]:List RT)).length)),(8,iV 1),(46,iV 0),(47,qP Q 6),(48,qS A 2 c),(49,iV 2),(50,qT),(54,qP Q 6),(55,qS A 2 c),(56,iV 0),(57,.pointer (some ⟨(aB A),aO A+0*7,none⟩)),(58,bE (([W,V]:List RTm).getD 0 aN)),(59,qS X U.length S),(60,.tuple #[rG ((aF L d e).2) D C F B,iV ((aF L d e).1)]),(53,.tuple #[rG ((aF L d e).2) D C F B,iV ((aF L d e).1)]),(61,rG ((aF L d e).2) D C F B),(62,iV ((aF L d e).1)),(9,pB zD),(10,iV ((aF L d e).1)),(63,iV ((aF L d e).1)),(64,qF),(67,qS (sB O) ((([(bh ((0:Int):Rat) j za zb p),(bh ((0:Int):Rat) u l z k)]:List RT)).length) ((([(bh ((0:Int):Rat) j za zb p),(bh ((0:Int):Rat) u l z k)]:List RT)).length)),(68,iV 0),(69,rG ((aF L d e).2) D C F B),(70,qP O (0+0*3)),(51,iV 0),(52,iV 1)] ?_))));replace a:=a.to [⟨zD,28,cW ((aF L d e).2) D C F B⟩,⟨b4,28,[qF,sZ,sZ]⟩,⟨Q,31,[iV op,iV n,.bool bq,qS zA Y zc,qS Z dn dc,.string s,qS A 2 c]⟩] [⟨28,3,sB O,(([(bh ((0:Int):Rat) j za zb p),(bh ((0:Int):Rat) u l z k)]:List RT)).length,(([(bh ((0:Int):Rat) j za zb p),(bh ((0:Int):Rat) u l z k)]:List RT)).length,(([(bh ((0:Int):Rat) j za zb p),(bh ((0:Int):Rat) u l z k)]:List RT).set 0 (bh ((aF L d e).2) D C F B)).flatMap j6⟩];refine cN (cQ (aa a [.m 46 8,.v 47 (qP Q 6),.o 48 (qS A 2 c) 2 6 1,.v 49 (iV 2),.v 50 qT] (ak (cK (cQ (kZ (aa a [.v 54 (qP Q 6),.o 55 (qS A 2 c) 2 6 1,.m 56 8] (lX 57 A 2 c 7 1 1 ((a.f.q.q.r.1).ok oM) ?_))))))));refine lH 58 (bE (([W,V]:List RTm).getD 1 aN)) a ((a.f.q.q.r.1).el 1 oM) (lL a [.m 59 1] (lC 60 a (ih (([W,V]:List RTm).getD 1 aN) y _ _ a.g a.f.q.q.1 hw2 hg2 a.f.q.r.2.1 a.f.q.r.1) ?_));rintro _ _ _ a ⟨_,rfl,H,J,M,I,rfl,yo,yp,yq,yr⟩;replace a:=a.aP yq yr;refine lL a [.m 53 60,.v 61 (rG ((aF L d y).2) H J M I),.v 62 (iV ((aF L d y).1))] (lA 9 28 ec a (fun zE _ _ a=>lP 0 0 (cW ((aF L d y).2) H J M I) a (fun _ a=>lL a [.m 10 62] (ah (aa a [.m 63 10] ?_)))));cases zB:(((aF L d y).1:Int) != (0:Int))
  ·
   have zM:=aJ zB;refine lB 64 zB (af (cK (kQ (lL a [.m 67 7,.m 68 8,.o 69 (rG ((aF L d y).2) H J M I) 0 0 3] (lX 70 (sB O) ((([(bh ((0:Int):Rat) j za zb p),(bh ((0:Int):Rat) u l z k)]:List RT)).length) ((([(bh ((0:Int):Rat) j za zb p),(bh ((0:Int):Rat) u l z k)]:List RT)).length) 3 1 1 rfl ?_)))));refine EZ (ty:=28) (c:=(([(bh ((0:Int):Rat) j za zb p),(bh ((0:Int):Rat) u l z k)]:List RT)).length) (b:=O) 0 1 0 (cW ((aF L d y).2) H J M I) (([(bh ((0:Int):Rat) j za zb p),(bh ((0:Int):Rat) u l z k)]:List RT).set 0 (bh ((aF L d e).2) D C F B)) j6 3 sv (bh ((aF L d y).2) H J M I) a oM (fun _ a=>?_);replace a:=a.to [⟨zE,28,cW ((aF L d y).2) H J M I⟩,⟨zD,28,cW ((aF L d e).2) D C F B⟩,⟨b4,28,[qF,sZ,sZ]⟩,⟨Q,31,[iV op,iV n,.bool bq,qS zA Y zc,qS Z dn dc,.string s,qS A 2 c]⟩] [⟨28,3,sB O,(([(bh ((0:Int):Rat) j za zb p),(bh ((0:Int):Rat) u l z k)]:List RT)).length,(([(bh ((0:Int):Rat) j za zb p),(bh ((0:Int):Rat) u l z k)]:List RT)).length,((([(bh ((0:Int):Rat) j za zb p),(bh ((0:Int):Rat) u l z k)]:List RT).set 0 (bh ((aF L d e).2) D C F B)).set 1 (bh ((aF L d y).2) H J M I)).flatMap j6⟩];have bn:((([(bh ((0:Int):Rat) j za zb p),(bh ((0:Int):Rat) u l z k)]:List RT).set 0 (bh ((aF L d e).2) D C F B)).set 1 (bh ((aF L d y).2) H J M I)).length=2:=rfl;refine lN (kQ (lL a [.m 51 8,.v 52 (iV 2),.m 8 52] (lD (CL.to [(1,qS X U.length S),(2,pB Q),(4,pB b4),(5,iV 0),(7,qS (sB O) ((([(bh ((0:Int):Rat) j za zb p),(bh ((0:Int):Rat) u l z k)]:List RT)).length) ((([(bh ((0:Int):Rat) j za zb p),(bh ((0:Int):Rat) u l z k)]:List RT)).length)),(8,iV 2),(46,iV 1),(47,qP Q 6),(48,qS A 2 c),(49,iV 2),(50,qT),(54,qP Q 6),(55,qS A 2 c),(56,iV 1),(57,.pointer (some ⟨(aB A),aO A+1*7,none⟩)),(58,bE (([W,V]:List RTm).getD 1 aN)),(59,qS X U.length S),(60,.tuple #[rG ((aF L d y).2) H J M I,iV ((aF L d y).1)]),(53,.tuple #[rG ((aF L d y).2) H J M I,iV ((aF L d y).1)]),(61,rG ((aF L d y).2) H J M I),(62,iV ((aF L d y).1)),(9,pB zE),(10,iV ((aF L d y).1)),(63,iV ((aF L d y).1)),(64,qF),(67,qS (sB O) ((([(bh ((0:Int):Rat) j za zb p),(bh ((0:Int):Rat) u l z k)]:List RT)).length) ((([(bh ((0:Int):Rat) j za zb p),(bh ((0:Int):Rat) u l z k)]:List RT)).length)),(68,iV 1),(69,rG ((aF L d y).2) H J M I),(70,qP O (0+1*3)),(51,iV 1),(52,iV 2)] ?_))));replace a:=a.to [⟨zE,28,cW ((aF L d y).2) H J M I⟩,⟨zD,28,cW ((aF L d e).2) D C F B⟩,⟨b4,28,[qF,sZ,sZ]⟩,⟨Q,31,[iV op,iV n,.bool bq,qS zA Y zc,qS Z dn dc,.string s,qS A 2 c]⟩] [⟨28,3,sB O,(([(bh ((0:Int):Rat) j za zb p),(bh ((0:Int):Rat) u l z k)]:List RT)).length,(([(bh ((0:Int):Rat) j za zb p),(bh ((0:Int):Rat) u l z k)]:List RT)).length,((([(bh ((0:Int):Rat) j za zb p),(bh ((0:Int):Rat) u l z k)]:List RT).set 0 (bh ((aF L d e).2) D C F B)).set 1 (bh ((aF L d y).2) H J M I)).flatMap j6⟩];refine cN (cQ (aa a [.m 46 8,.v 47 (qP Q 6),.o 48 (qS A 2 c) 3 6 1,.v 49 (iV 2),.v 50 qF] (af (CG.exit ?_))))
   show CG _ _ _ _ _ _ _ _
   refine cQ ?_;have hsr:=a;refine cR 15 [⟨14,11,.cells (Lu [qF,sZ,sZ]) 28 (0,0)⟩] mixed a (bW (fA kR (fun _ _=>by kernel_rfl)) ar) (eV 0 72 (pB Q) (eO 1 73 [(3,0,1)] (iV op) a (eV 2 74 (qP Q 1) (eO 3 75 [(3,1,1)] (iV n) a (eV 4 76 (qS (sB O) ((([(bh ((0:Int):Rat) j za zb p),(bh ((0:Int):Rat) u l z k)]:List RT)).length) ((([(bh ((0:Int):Rat) j za zb p),(bh ((0:Int):Rat) u l z k)]:List RT)).length)) (eX 5 77 (sB O) ((([(bh ((0:Int):Rat) j za zb p),(bh ((0:Int):Rat) u l z k)]:List RT)).length) ((([(bh ((0:Int):Rat) j za zb p),(bh ((0:Int):Rat) u l z k)]:List RT)).length) 3 0 0 rfl (FM (ty:=28) (sz:=3) (c:=(([(bh ((0:Int):Rat) j za zb p),(bh ((0:Int):Rat) u l z k)]:List RT)).length) (m:=(([(bh ((0:Int):Rat) j za zb p),(bh ((0:Int):Rat) u l z k)]:List RT)).length) (b:=O) (cs:=((([(bh ((0:Int):Rat) j za zb p),(bh ((0:Int):Rat) u l z k)]:List RT).set 0 (bh ((aF L d e).2) D C F B)).set 1 (bh ((aF L d y).2) H J M I)).flatMap j6) 6 78 0 (rG ((aF L d e).2) D C F B) (cW ((aF L d e).2) D C F B) a (fC (f:=j6) (sz:=3) (fun _=>rfl) sv ((([(bh ((0:Int):Rat) j za zb p),(bh ((0:Int):Rat) u l z k)]:List RT).set 0 (bh ((aF L d e).2) D C F B)).set 1 (bh ((aF L d y).2) H J M I)) 0 oM) (eV 7 79 (qS (sB O) ((([(bh ((0:Int):Rat) j za zb p),(bh ((0:Int):Rat) u l z k)]:List RT)).length) ((([(bh ((0:Int):Rat) j za zb p),(bh ((0:Int):Rat) u l z k)]:List RT)).length)) (eX 8 80 (sB O) ((([(bh ((0:Int):Rat) j za zb p),(bh ((0:Int):Rat) u l z k)]:List RT)).length) ((([(bh ((0:Int):Rat) j za zb p),(bh ((0:Int):Rat) u l z k)]:List RT)).length) 3 1 1 rfl (FM (ty:=28) (sz:=3) (c:=(([(bh ((0:Int):Rat) j za zb p),(bh ((0:Int):Rat) u l z k)]:List RT)).length) (m:=(([(bh ((0:Int):Rat) j za zb p),(bh ((0:Int):Rat) u l z k)]:List RT)).length) (b:=O) (cs:=((([(bh ((0:Int):Rat) j za zb p),(bh ((0:Int):Rat) u l z k)]:List RT).set 0 (bh ((aF L d e).2) D C F B)).set 1 (bh ((aF L d y).2) H J M I)).flatMap j6) 9 81 0 (rG ((aF L d y).2) H J M I) (cW ((aF L d y).2) H J M I) a (fC (f:=j6) (sz:=3) (fun _=>rfl) sv ((([(bh ((0:Int):Rat) j za zb p),(bh ((0:Int):Rat) u l z k)]:List RT).set 0 (bh ((aF L d e).2) D C F B)).set 1 (bh ((aF L d y).2) H J M I)) 1 oM) (eC 10 82 a (fun _ _ a=>Jk op n ((aF L d e).2) D C F B yk yl ((aF L d y).2) H J M I yo yp (cc*1000) oM hv1 hv2 oM oM _ _ a.g a.f.r.2.1 a.f.r.1 a.f.2.1 a.f.1) ?_)))))))))));rintro _ _ _ _ _ a ⟨_,rfl,zt,zu,zv,zw,rfl,ys,yt,yu,yv⟩;replace a:=a.aP yu yv;refine eV 11 71 (.tuple #[rG (gC op n 0 ((aF L d e).2) ((aF L d y).2)) zt zu zv zw,.bool (decide (i5 op n ((aF L d e).2) ((aF L d y).2)))]) (eV 12 83 (rG (gC op n 0 ((aF L d e).2) ((aF L d y).2)) zt zu zv zw) (eV 13 84 (.bool (decide (i5 op n ((aF L d e).2) ((aF L d y).2)))) (iL [] hsr a 28 [qF,sZ,sZ] (fun _ _ yF a=>tP 15 0 0 (cW (gC op n 0 ((aF L d e).2) ((aF L d y).2)) zt zu zv zw) a (fun _ a=>tV 16 12 (.bool (decide (i5 op n ((aF L d e).2) ((aF L d y).2)))) (tN (bH [(4,pB b4),(5,iV 0),(11,pB yF),(12,.bool (decide (i5 op n ((aF L d e).2) ((aF L d y).2))))] ?_)))))));refine cQ (aa a [.m 85 12] ?_);cases zG:(!(decide (i5 op n ((aF L d e).2) ((aF L d y).2))))
   ·
    exact lB 86 zG (af (cK (aa a [.o 88 (rG (gC op n 0 ((aF L d e).2) ((aF L d y).2)) zt zu zv zw) 0 0 3] (lP 3 0 (cW (gC op n 0 ((aF L d e).2) ((aF L d y).2)) zt zu zv zw) a (fun _ a=>lL a [.v 5 (iV 0)] (ac a [(3,0,3)] (.tuple #[rG (gC op n 0 ((aF L d e).2) ((aF L d y).2)) zt zu zv zw,iV 0]) (by rw[fw oM,hq0,gn oM oM (Hw aM)];exact ⟨_,rfl,⟨_,_,_,_,rfl,ys,yt,a.f.2.1,a.f.1⟩⟩)))))))
   refine lB 86 zG (ak (av (lC 87 a (mr 0 oM oM _ _ a.g) ?_)));rintro _ _ _ a ⟨zU,zW,zX,ya,rfl,yw,yx,yA,yB⟩;replace a:=a.aP yA yB;exact lP 3 0 (cW ((0:Int):Rat) zU zW zX ya) a (fun _ a=>lL a [.v 5 (iV 6)] (ac a [(3,0,3)] (.tuple #[rG ((0:Int):Rat) zU zW zX ya,iV 6]) (by rw[fw oM,od oM oM (Hh aM)];exact ⟨_,rfl,⟨_,_,_,_,rfl,yw,yx,a.f.2.1,a.f.1⟩⟩)))
  have zM:=aW zB;refine lB 64 zB (ak (av (lC 65 a (mr 0 oM oM _ _ a.g) ?_)));rintro _ _ _ a ⟨yb,yc,yd,ye,rfl,yC,yD,yE,zN⟩;replace a:=a.aP yE zN;exact lL a [.m 66 10] (lP 2 0 (cW ((0:Int):Rat) yb yc yd ye) a (fun _ a=>lL a [.m 5 66] (ac a [(2,0,3)] (.tuple #[rG ((0:Int):Rat) yb yc yd ye,iV ((aF L d y).1)]) (by rw[fw oM,Do oM oM];exact ⟨_,rfl,⟨_,_,_,_,rfl,yC,yD,a.f.2.1,a.f.1⟩⟩))))
 have zL:=aW zx;refine lB 64 zx (ak (av (lC 65 a (mr 0 oM oM _ _ a.g) ?_)));rintro _ _ _ a ⟨zH,zI,zJ,zK,rfl,zP,zQ,zR,zS⟩;replace a:=a.aP zR zS;exact lL a [.m 66 10] (lP 1 0 (cW ((0:Int):Rat) zH zI zJ zK) a (fun _ a=>lL a [.m 5 66] (ac a [(1,0,3)] (.tuple #[rG ((0:Int):Rat) zH zI zJ zK,iV ((aF L d e).1)]) (by rw[fw oM,qz oM];exact ⟨_,rfl,⟨_,_,_,_,rfl,zP,zQ,a.f.2.1,a.f.1⟩⟩))))
theorem HE (ok:ByteArray→Prop)(u:Option Addr)(f:Nat)(o:List RLt)(L:List PLt)(l:L.length≤1000)(y:Nat)(a:3002≤y)(k:y≤7000)(e:∀ i,LQ (y-2) (L.getD i ca).q):∀ (d:Nat) (r:RTm) (t:Tm) (w:World) (h:Hp),G w h→RmH d h r t→WfT ok d t→bp d t≤1000→SlO 4 qu dz h u o→RLs h o L→Calls Tryz.prog 58 #[bE r,.slice u o.length f] w (Ret w h (fun v h1=>∃ x,v=.tuple #[x,iV (aF L d t).1]∧RQ h1 x (aF L d t).2))
  | 0,_,_,_,_,_,x,_,_,_,_=>x.elim
  | d + 1,p,t,w,h,g,x,wf,hw,hL,hRL=>by
    obtain ⟨op,n,b,K,I,F,D,J,H,q,s,A,c,ps,ks,rfl,rfl,M,hc,X,j⟩:=x.open;obtain ⟨w1,w2,w3,w4,w5,w6,V,Q,C⟩:=wf;replace w1:d8 op=(ks.length:Nat):=w1;replace w2:op≠1→q=0:=w2;replace C:∀ i,i<ks.length→WfT ok d (ks.getD i bv):=C;have Y:=aE op;have U:=fun p t w h=>HE ok u f o L l y a k e d p t w h
    by_cases o2:op=2
    · subst o2;exact Gt u f o L d l y a k e n b K I F D J H q s A c ps ks w h g M hL hRL
    · rcases jj w1 with rfl|⟨t1,rfl⟩|⟨t1,t2,rfl⟩
      · have e0:ps=[]:=z1 j.len
        subst e0
        simp only[Mq] at w1
        obtain rfl:op=1:=by omega
        exact Hx u f o L d n b K I F D J H q s A c w h g M hL hRL
      · obtain ⟨O,rfl⟩:=Mt.1 (show ps.length=1 from j.len)
        simp only[un,Mq] at w1
        have z:WfT ok d t1:=C 0 (K9 _);have B:bp d t1≤1000:=kW hw;exact HB ok d u f o L l y a k e U op n b K I F D J H q s A c O t1 z B (iX a e z B) oM ⟨V,Q⟩ (w2 oM) w h g M X (j.at_ 0 (K9 _)) hL hRL
      · obtain ⟨O,Z,rfl⟩:=kJ (show ps.length=2 from j.len)
        simp only[un,Mq] at w1
        have z:WfT ok d t1:=C 0 (K9 _);have W:WfT ok d t2:=C 1 (by show 1<2;decide);obtain ⟨B,S⟩:=mh hw;exact GP ok d u f o L l y a k e U op n b K I F D J H q s A c O t1 z B (iX a e z B) Z t2 W S (iX a e W S) oM ⟨V,Q⟩ (w2 oM) w h g M X (j.at_ 0 (K9 _)) (j.at_ 1 (by show 1<2;decide)) hL hRL
end Go.Proofs.YtnflfcbfifhpaaaGreatDoor
