/- Laws and contracts that the card of this claim stands on, part 4. No condition of ours. -/
import Derived.Test.YtfkjipodndiklaaGreatDoorPv0
import Derived.Test.YtfkjipodndiklaaGreatDoorPv1
import Derived.Test.YtfkjipodndiklaaGreatDoorPv2
set_option maxRecDepth 100000
set_option maxHeartbeats 4000000
namespace Go.Proofs.YtfkjipodndiklaaGreatDoor
open Go.RowKit
open Go.RowKit Go.Shelf
theorem Wts.app {L:List Int}{k:Nat}{x:Int}(w:Wts L k)(hk:L.length=k)(h1:1≤x)(h2:x≤65536):Wts (L++[x]) (k+1):=fun j hj=>by
  by_cases e:j<k
  · rw[List.getD_eq_getElem?_getD,List.getElem?_append_left oM,←List.getD_eq_getElem?_getD];exact w j e
  · rw[List.getD_eq_getElem?_getD,List.getElem?_append_right oM]
    have:j-L.length=0:=by omega
    rw[this];exact ⟨h1,h2⟩
theorem weigh_is {inp:Int}{s:Stp}{L:List Int}{k:Nat}(w:Wts L k)(h:Formed inp k s):weightS s L=if ari s.op=0 then 1 else if ari s.op=2 then L.getD s.a.toNat 0+L.getD s.b.toNat 0 else if s.op=11 then 2*L.getD s.a.toNat 0 else if s.op=8∧s.n≠0 then L.getD s.a.toNat 0*(if s.n<0 then 0-s.n else s.n) else L.getD s.a.toNat 0:=by
  unfold weightS
  by_cases h8:s.op=8
  · have:ari s.op=1:=by rw[h8];decide
    rw[this,h8]
    by_cases hn:s.n=0
    · rw[hn,show max (max (0:Int) (0-0)) 1=1 by decide];simp
    · by_cases h0:s.n<0
      · have:max (max s.n (0-s.n)) 1=0-s.n:=by omega
        rw[this];simp[hn,h0,Int.mul_comm]
      · have:max (max s.n (0-s.n)) 1=s.n:=by omega
        rw[this];simp[hn,h0,Int.mul_comm]
  · simp[h8]
theorem weigh_o {inp:Int}{o:OSt}{L:List Int}{k:Nat}(w:Wts L k)(h:Formed inp k o.stp):weightS o.stp L=if ari o.op=0 then 1 else if ari o.op=2 then L.getD o.a.toNat 0+L.getD o.b.toNat 0 else if o.op=11 then 2*L.getD o.a.toNat 0 else if o.op=8∧o.n≠0 then L.getD o.a.toNat 0*(if o.n<0 then 0-o.n else o.n) else L.getD o.a.toNat 0:=weigh_is w h
def Opr (k:Nat)(s:Stp):Prop:=(0<ari s.op→s.a.toNat<k)∧(1<ari s.op→s.b.toNat<k)∧(0<ari s.op→s.b.toNat<k)∧(s.op≠2→0≤ari s.op)
theorem Formed.opr {inp:Int}{k:Nat}{s:Stp}(h:Formed inp k s):Opr k s:=by
  obtain ⟨f0,⟨f1,f1'⟩,⟨f2,f2'⟩,_⟩:=h;refine ⟨fun h=>by have:=f1 h;omega,fun h=>by have:=f2 h;omega,fun h=>?_,fun _=>f0⟩;have:=f1 h
  by_cases h2:1<ari s.op
  · have:=f2 h2;omega
  · have:=f2' h2;omega
section
variable {inp:Int} {i:Nat} {s:Stp} (h:Formed inp i s)
include h
theorem Formed.ix:0≤s.a∧0≤s.b∧s.a.toNat≤i∧s.b.toNat≤i:=by
  obtain ⟨f0,⟨f1,f1'⟩,⟨f2,f2'⟩,_⟩:=h
  by_cases h1:0<ari s.op
  · have:=f1 h1
    by_cases h2:1<ari s.op
    · have:=f2 h2;omega
    · have:=f2' h2;omega
  · have:=f1' h1;have:=f2' oM;omega
theorem Formed.nm (e:s.op=2):0≤s.n∧s.n<inp:=h.2.2.2.2.1 e
end
theorem getD_mem {α:Type}{l:List α}{i:Nat}{d:α}(h:i<l.length):l.getD i d∈l:=by
  rw[List.getD_eq_getElem?_getD,List.getElem?_eq_getElem h];exact List.getElem_mem h
theorem getD_over {α:Type}{l:List α}{i:Nat}{d:α}(h:l.length≤i):l.getD i d=d:=by
  rw[List.getD_eq_getElem?_getD,List.getElem?_eq_none h];rfl
def strc (s:ByteArray):List Value:=[.string s]
inductive Tm where
  | mk (op n:Int) (q:Rat) (s:ByteArray) (ks:List Tm)
def Tm.op:Tm→Int|.mk op _ _ _ _=>op
def Tm.n:Tm→Int|.mk _ n _ _ _=>n
def Tm.q:Tm→Rat|.mk _ _ q _ _=>q
def Tm.s:Tm→ByteArray|.mk _ _ _ s _=>s
def Tm.ks:Tm→List Tm|.mk _ _ _ _ ks=>ks
def tm0:Tm:=.mk 0 0 0 ⟨#[]⟩ []
structure PTm where
  op:Int
  n:Int
  q:Rat
  s:ByteArray
  A:Option Addr
  m:Nat
  c:Nat
abbrev pX (p:PTm):Value:=.agg #[iV p.op,iV p.n,.bool (ineg p.q.num),uV (lo (iabs p.q.num)),.string (hi (iabs p.q.num)),uV (lo (qd p.q)),.string (hi (qd p.q)),.string p.s,.slice p.A p.m p.c]
abbrev pC (p:PTm):List Value:=[iV p.op,iV p.n,.bool (ineg p.q.num),uV (lo (iabs p.q.num)),.string (hi (iabs p.q.num)),uV (lo (qd p.q)),.string (hi (qd p.q)),.string p.s,.slice p.A p.m p.c]
abbrev pW (o n:Int)(q:Rat)(s:ByteArray)(A:Option Addr)(m c:Nat):Value:=.agg #[iV o,iV n,.bool (ineg q.num),uV (lo (iabs q.num)),.string (hi (iabs q.num)),uV (lo (qd q)),.string (hi (qd q)),.string s,.slice A m c]
abbrev pG (o n:Int)(q:Rat)(s:ByteArray)(A:Option Addr)(m c:Nat):List Value:=[iV o,iV n,.bool (ineg q.num),uV (lo (iabs q.num)),.string (hi (iabs q.num)),uV (lo (qd q)),.string (hi (qd q)),.string s,.slice A m c]
def ptm0:PTm:=⟨0,0,0,⟨#[]⟩,none,0,0⟩
def ptc (p:PTm):List Value:=[.int .i64 p.op,.int .i64 p.n,.bool (ineg p.q.num),.int .u64 (lo (iabs p.q.num)),.string (hi (iabs p.q.num)),.int .u64 (lo (qd p.q)),.string (hi (qd p.q)),.string p.s,.slice p.A p.m p.c]
def ptv (p:PTm):Value:=.agg #[.int .i64 p.op,.int .i64 p.n,.bool (ineg p.q.num),.int .u64 (lo (iabs p.q.num)),.string (hi (iabs p.q.num)),.int .u64 (lo (qd p.q)),.string (hi (qd p.q)),.string p.s,.slice p.A p.m p.c]
def TmH:Nat→Hp→PTm→Tm→Prop
  | 0,_,_,_=>False
  | d+1,h,p,t=>p.op=t.op∧p.n=t.n∧p.q=t.q∧p.s=t.s∧p.m=t.ks.length∧p.m≤p.c∧∃ ps:List PTm,ps.length=t.ks.length∧SlO 9 ptc ptm0 h p.A ps∧∀ i,i<t.ks.length→TmH d h (ps.getD i ptm0) (t.ks.getD i tm0)
theorem TmH.gw:∀ {d:Nat} {h h':Hp} {p:PTm} {t:Tm},TmH d h p t→Gw h h'→TmH d h' p t
  | 0,_,_,_,_,x,_=>x
  | d+1,_,_,_,_,⟨h1,h2,h3,h4,h5,h6,ps,h7,h8,h9⟩,u=>⟨h1,h2,h3,h4,h5,h6,ps,h7,h8.gw u,fun i hi=>TmH.gw (h9 i hi) u⟩
theorem TmH.mono {h:Hp}:∀ {d e:Nat} {p:PTm} {t:Tm},TmH d h p t→d≤e→TmH e h p t
  | d+1,e+1,_,_,⟨h1,h2,h3,h4,h5,h6,ps,h7,h8,h9⟩,u=>⟨h1,h2,h3,h4,h5,h6,ps,h7,h8,fun i hi=>TmH.mono (h9 i hi) oM⟩
structure RTm where
  op:Int
  n:Int
  neg:Bool
  zA:Option Addr
  zn:Nat
  zc:Nat
  dA:Option Addr
  dn:Nat
  dc:Nat
  s:ByteArray
  A:Option Addr
  m:Nat
  c:Nat
def RTm.t (r:RTm):RT:=(r.neg,.slice r.zA r.zn r.zc,.slice r.dA r.dn r.dc)
def rtm0:RTm:=⟨0,0,false,none,0,0,none,0,0,⟨#[]⟩,none,0,0⟩
def rmc (r:RTm):List Value:=[.int .i64 r.op,.int .i64 r.n,.bool r.neg,.slice r.zA r.zn r.zc,.slice r.dA r.dn r.dc,.string r.s,.slice r.A r.m r.c]
def rmv (r:RTm):Value:=.agg #[.int .i64 r.op,.int .i64 r.n,.bool r.neg,.slice r.zA r.zn r.zc,.slice r.dA r.dn r.dc,.string r.s,.slice r.A r.m r.c]
def RZ (h:Hp)(t:RT)(q:Rat):Prop:=∃ has:Bool,RP h (rtv t) q.num (if has then q.den else 0)∧(has=false→q=0)
theorem RZ.gw {h h':Hp}{t:RT}{q:Rat}(x:RZ h t q)(u:Gw h h'):RZ h' t q:=by
  obtain ⟨hs,h1,h2⟩:=x;exact ⟨hs,h1.gw u,h2⟩
def RmH:Nat→Hp→RTm→Tm→Prop
  | 0,_,_,_=>False
  | d+1,h,r,t=>r.op=t.op∧r.n=t.n∧RZ h r.t t.q∧r.s=t.s∧r.m=t.ks.length∧r.m≤r.c∧∃ rs:List RTm,rs.length=t.ks.length∧SlO 7 rmc rtm0 h r.A rs∧∀ i,i<t.ks.length→RmH d h (rs.getD i rtm0) (t.ks.getD i tm0)
theorem rz_has {h:Hp}{b:Bool}{zA dA:Option Addr}{zn zc dn dc:Nat}{q:Rat}(x:RZ h (b,.slice zA zn zc,.slice dA dn dc) q)(p:0<dn):RP h (.agg #[.bool b,.slice zA zn zc,.slice dA dn dc]) q.num q.den:=by
  obtain ⟨hs,h1,h2⟩:=x;cases hs
  · obtain ⟨A,c,D,d,e,hc,hd,hA,hD⟩:=h1
    injection e with e
    have e3:=congrArg (fun a:Array Value=>a.toList) e
    simp at e3
    have:dn=(lim 0).length:=e3.2.2.2.1;have h0:(lim 0).length=0:=by have:=@lim_pos 0;omega
    omega
  · exact h1
theorem rz_no {h:Hp}{b:Bool}{zA dA:Option Addr}{zn zc dc:Nat}{q:Rat}(x:RZ h (b,.slice zA zn zc,.slice dA 0 dc) q):q=0:=by
  obtain ⟨hs,h1,h2⟩:=x;cases hs
  · exact h2 rfl
  · obtain ⟨A,c,D,d,e,hc,hd,hA,hD⟩:=h1
    injection e with e
    have e3:=congrArg (fun a:Array Value=>a.toList) e
    simp at e3
    have h3:0=(lim q.den).length:=e3.2.2.2.1;have h4:=(@lim_pos q.den).2 q.den_pos
    omega
theorem RmH.gw:∀ {d:Nat} {h h':Hp} {r:RTm} {t:Tm},RmH d h r t→Gw h h'→RmH d h' r t
  | 0,_,_,_,_,x,_=>x
  | d+1,_,_,_,_,⟨h1,h2,h3,h4,h5,h6,ps,h7,h8,h9⟩,u=>⟨h1,h2,h3.gw u,h4,h5,h6,ps,h7,h8.gw u,fun i hi=>RmH.gw (h9 i hi) u⟩
structure Tms (d:Nat) (h:Hp) (ps:List PTm) (ts:List Tm):Prop where
  len:ps.length=ts.length
  at_:∀ i,i<ts.length→TmH d h (ps.getD i ptm0) (ts.getD i tm0)
theorem Tms.gw {d:Nat}{h h':Hp}{ps:List PTm}{ts:List Tm}(x:Tms d h ps ts)(u:Gw h h'):Tms d h' ps ts:=⟨x.len,fun i hi=>(x.at_ i hi).gw u⟩
structure Rms (d:Nat) (h:Hp) (rs:List RTm) (ts:List Tm):Prop where
  len:rs.length=ts.length
  at_:∀ i,i<ts.length→RmH d h (rs.getD i rtm0) (ts.getD i tm0)
theorem Rms.gw {d:Nat}{h h':Hp}{rs:List RTm}{ts:List Tm}(x:Rms d h rs ts)(u:Gw h h'):Rms d h' rs ts:=⟨x.len,fun i hi=>(x.at_ i hi).gw u⟩
theorem Rms.nil {d:Nat}{h:Hp}:Rms d h [] []:=⟨rfl,fun i hi=>by simp at hi⟩
theorem Rms.snoc {d:Nat}{h:Hp}{rs:List RTm}{ts:List Tm}{r:RTm}{t:Tm}(x:Rms d h rs ts)(y:RmH d h r t):Rms d h (rs++[r]) (ts++[t]):=by
  refine ⟨by simp[x.len],fun i hi=>?_⟩;rw[List.length_append,List.length_singleton] at hi
  rw[getD_snoc,getD_snoc,x.len]
  by_cases e:i<ts.length
  · rw[if_pos e,if_pos e];exact x.at_ i e
  · rw[if_neg e,if_neg e,if_pos oM,if_pos oM];exact y
theorem Tms.nil {d:Nat}{h:Hp}:Tms d h [] []:=⟨rfl,fun i hi=>by simp at hi⟩
theorem Tms.snoc {d:Nat}{h:Hp}{rs:List PTm}{ts:List Tm}{r:PTm}{t:Tm}(x:Tms d h rs ts)(y:TmH d h r t):Tms d h (rs++[r]) (ts++[t]):=by
  refine ⟨by simp[x.len],fun i hi=>?_⟩;rw[List.length_append,List.length_singleton] at hi
  rw[getD_snoc,getD_snoc,x.len]
  by_cases e:i<ts.length
  · rw[if_pos e,if_pos e];exact x.at_ i e
  · rw[if_neg e,if_neg e,if_pos oM,if_pos oM];exact y
theorem TmH.mk {d:Nat}{h:Hp}{op n:Int}{q:Rat}{s:ByteArray}{A:Option Addr}{c:Nat}{ps:List PTm}{ks:List Tm}(x:Tms d h ps ks)(hc:ps.length≤c)(hA:SlO 9 ptc ptm0 h A ps):TmH (d+1) h ⟨op,n,q,s,A,ps.length,c⟩ (.mk op n q s ks) :=
  ⟨rfl,rfl,rfl,rfl,x.len,hc,ps,x.len,hA,x.at_⟩
theorem RmH.mk {d:Nat}{h:Hp}{op n:Int}{b:Bool}{zA dA:Option Addr}{zn zc dn dc:Nat}{q:Rat}{s:ByteArray}{A:Option Addr}{c:Nat}{ps:List RTm}{ks:List Tm}(z:RZ h (b,.slice zA zn zc,.slice dA dn dc) q)(x:Rms d h ps ks)(hc:ps.length≤c)(hA:SlO 7 rmc rtm0 h A ps):RmH (d+1) h ⟨op,n,b,zA,zn,zc,dA,dn,dc,s,A,ps.length,c⟩ (.mk op n q s ks) :=
  ⟨rfl,rfl,z,rfl,x.len,hc,ps,x.len,hA,x.at_⟩
theorem TmH.open {d:Nat}{h:Hp}{p:PTm}{t:Tm}(x:TmH (d+1) h p t):∃ op n q s A c,∃ ps:List PTm,∃ ks:List Tm,p=⟨op,n,q,s,A,ps.length,c⟩∧t=.mk op n q s ks∧ps.length≤c∧SlO 9 ptc ptm0 h A ps∧Tms d h ps ks:=by
  obtain ⟨op,n,q,s,A,m,c⟩:=p;cases t with
  | mk op2 n2 q2 s2 ks =>
    obtain ⟨h1,h2,h3,h4,h5,h6,ps,h7,h8,h9⟩:=x;obtain rfl:op=op2:=h1;obtain rfl:n=n2:=h2;obtain rfl:q=q2:=h3;obtain rfl:s=s2:=h4;obtain rfl:m=ps.length:=(show m=ks.length from h5).trans h7.symm;exact ⟨op,n,q,s,A,c,ps,ks,rfl,rfl,h6,h8,h7,h9⟩
theorem RmH.mono {h:Hp}{d e:Nat}{p:RTm}{t:Tm}(x:RmH d h p t)(u:d≤e):RmH e h p t:=by
  induction d generalizing e p t with
  | zero=>exact x.elim
  | succ d ih =>
    cases e with
    | zero=>omega
    | succ e =>
      obtain ⟨h1,h2,h3,h4,h5,h6,ps,h7,h8,h9⟩:=x;exact ⟨h1,h2,h3,h4,h5,h6,ps,h7,h8,fun i hi=>ih (h9 i hi) oM⟩
theorem RmH.open {d:Nat}{h:Hp}{p:RTm}{t:Tm}(x:RmH (d+1) h p t):∃ op n b zA zn zc dA dn dc q s A c,∃ ps:List RTm,∃ ks:List Tm,p=⟨op,n,b,zA,zn,zc,dA,dn,dc,s,A,ps.length,c⟩∧t=.mk op n q s ks∧RZ h (b,.slice zA zn zc,.slice dA dn dc) q∧ps.length≤c∧SlO 7 rmc rtm0 h A ps∧Rms d h ps ks:=by
  obtain ⟨op,n,b,zA,zn,zc,dA,dn,dc,s,A,m,c⟩:=p;cases t with
  | mk op2 n2 q2 s2 ks =>
    obtain ⟨h1,h2,h3,h4,h5,h6,ps,h7,h8,h9⟩:=x;obtain rfl:op=op2:=h1;obtain rfl:n=n2:=h2;obtain rfl:s=s2:=h4;obtain rfl:m=ps.length:=(show m=ks.length from h5).trans h7.symm;exact ⟨op,n,b,zA,zn,zc,dA,dn,dc,q2,s,A,c,ps,ks,rfl,rfl,h3,h6,h8,h7,h9⟩
def sumN (f:Nat→Nat):Nat→Nat
  | 0=>0
  | k+1=>sumN f k+f k
def timesN (n:Int):Nat:=if n.natAbs≤1 then 1 else n.natAbs
def wgt:Nat→Tm→Nat
  | 0,_=>0
  | d+1,t=>if t.ks.length=0 then 1 else (if t.op=11 then 2 else if t.op=8 then timesN t.n else 1)*sumN (fun i=>wgt d (t.ks.getD i tm0)) t.ks.length
def WfT (ok:ByteArray→Prop):Nat→Tm→Prop
  | 0,_=>False
  | d+1,t=>ari t.op=t.ks.length∧(t.op≠1→t.q=0)∧LQ 1 t.q∧(t.op=2→ok t.s)∧(t.op≠2→t.s=⟨#[]⟩)∧(t.op≠8→t.n=0) ∧ -12≤t.n∧t.n≤12∧∀ i,i<t.ks.length→WfT ok d (t.ks.getD i tm0)
theorem WfT.mono {ok:ByteArray→Prop}:∀ {d e:Nat} {t:Tm},WfT ok d t→d≤e→WfT ok e t
  | d+1,e+1,_,⟨h1,h2,h3,h4,h5,h6,h7,h8,h9⟩,u=>⟨h1,h2,h3,h4,h5,h6,h7,h8,fun i hi=>WfT.mono (h9 i hi) oM⟩
def SmT (sm:ByteArray→Prop):Nat→Tm→Prop
  | 0,_=>False
  | d+1,t=>t.ks.length≤3∧(-1000≤t.op∧t.op≤1000)∧(-1000≤t.n∧t.n≤1000)∧LQ 1 t.q∧sm t.s∧∀ i,i<t.ks.length→SmT sm d (t.ks.getD i tm0)
theorem SmT.mono {sm:ByteArray→Prop}:∀ {d e:Nat} {t:Tm},SmT sm d t→d≤e→SmT sm e t
  | d+1,e+1,_,⟨h1,h2,h3,h4,h5,h6⟩,u=>⟨h1,h2,h3,h4,h5,fun i hi=>SmT.mono (h6 i hi) oM⟩
theorem WfT.sm {ok sm:ByteArray→Prop}(h:∀ s,ok s→sm s)(h0:sm ⟨#[]⟩):∀ {d:Nat} {t:Tm},WfT ok d t→SmT sm d t
  | d+1,t,⟨h1,h2,h3,h4,h5,h6,h7,h8,h9⟩=>by
    have hc:=ari_cases t.op;refine ⟨by omega,⟨by omega,by omega⟩,⟨by omega,by omega⟩,h3,?_,fun i hi=>WfT.sm h h0 (h9 i hi)⟩
    by_cases e:t.op=2
    · exact h _ (h4 e)
    · rw[h5 e];exact h0
def WfH (isb:ByteArray→Bool)(op n:Int)(q:Rat)(s:ByteArray)(m:Nat):Prop:=ari op=m∧(op=1∨q.num=0)∧((op=2→isb s=true)∧(op≠2→s=⟨#[]⟩))∧((op=8∨n=0) ∧ -12≤n∧n≤12)
section
variable {isb:ByteArray→Bool} {d:Nat} {op n:Int} {q:Rat} {s:ByteArray} {ks:List Tm}
theorem wf_head (w:WfT (fun s=>isb s=true) (d+1) (.mk op n q s ks)):WfH isb op n q s ks.length:=by
  obtain ⟨h1,h2,h3,h4,h5,h6,h7,h8,h9⟩:=w;refine ⟨h1,?_,⟨h4,h5⟩,?_,h7,h8⟩
  · by_cases e:op=1
    · exact .inl e
    · exact .inr (Rat.num_eq_zero.2 (h2 e))
  · by_cases e:op=8
    · exact .inl e
    · exact .inr (h6 e)
theorem wf_ff (h:¬WfH isb op n q s ks.length):∃ bb,Value.bool false=.bool bb∧(bb=true↔WfT (fun s=>isb s=true) (d+1) (.mk op n q s ks)):=⟨false,rfl,fun h_=>(by cases h_),fun w=>absurd (wf_head w) h⟩
theorem wf_fk {k:Nat}(hk:k<ks.length){bk:Bool}(hb:bk=false)(h:bk=true↔WfT (fun s=>isb s=true) d (ks.getD k tm0)):∃ bb,Value.bool false=.bool bb∧(bb=true↔WfT (fun s=>isb s=true) (d+1) (.mk op n q s ks)):=⟨false,rfl,fun h_=>(by cases h_),fun ⟨_,_,_,_,_,_,_,_,h9⟩=>by rw[h.2 (h9 k hk)] at hb;cases hb⟩
theorem wf_tt (h:WfH isb op n q s ks.length)(hq:LQ 1 q)(hW:∀ i,i<ks.length→WfT (fun s=>isb s=true) d (ks.getD i tm0)):∃ bb,Value.bool true=.bool bb∧(bb=true↔WfT (fun s=>isb s=true) (d+1) (.mk op n q s ks)):=by
  obtain ⟨h1,h2,⟨h4,h5⟩,h6,h7,h8⟩:=h;refine ⟨true,rfl,fun _=>⟨h1,fun e=>Rat.num_eq_zero.1 (h2.resolve_left e),hq,h4,h5,fun e=>h6.resolve_left e,h7,h8,hW⟩,fun _=>rfl⟩
end
def trT (nm:Int→ByteArray)(l:List Stp):Nat→Nat→Tm
  | 0,_=>tm0
  | f+1,i =>
    if (l.getD i stp0).op=2 then .mk 2 0 0 (nm (l.getD i stp0).n) []
    else if ari (l.getD i stp0).op=1 then .mk (l.getD i stp0).op (l.getD i stp0).n 0 ⟨#[]⟩ [trT nm l f (l.getD i stp0).a.toNat]
    else if ari (l.getD i stp0).op=2 then .mk (l.getD i stp0).op 0 0 ⟨#[]⟩ [trT nm l f (l.getD i stp0).a.toNat,trT nm l f (l.getD i stp0).b.toNat]
    else .mk (l.getD i stp0).op 0 (l.getD i stp0).q ⟨#[]⟩ []
theorem trT_more {nm:Int→ByteArray}{l:List Stp}{inp:Int}(hF:∀ k,k<l.length→Formed inp k (l.getD k stp0)):∀ (f g i:Nat),i<f→i<g→i<l.length→trT nm l f i=trT nm l g i
  | f + 1,g+1,i,hf,hg,hi=>by
    obtain ⟨o1,o2,o3,_⟩:=(hF i hi).opr
    unfold trT
    split
    · rfl
    · split
      · rename_i h1
        have ha:=o1 oM;rw[trT_more hF f g _ oM oM oM]
      · split
        · rename_i h1 h2
          have ha:=o1 oM;have hb:=o2 oM;rw[trT_more hF f g _ oM oM oM,trT_more hF f g (l.getD i stp0).b.toNat oM oM oM]
        · rfl
structure LayLen (L:Lay):Prop where
  rl:L.W.length≤1000000
  rls:∀ i,i<L.W.length→(L.W.getD i []).length≤1000000
  bl:L.B.length≤1000000
structure Mat (W:List (List Rat)) (r c:Nat):Prop where
  rows:W.length=r
  rpos:0<r
  cpos:0<c
  row:∀ i,i<r→(W.getD i []).length=c
structure Net3 (ls:List Lay) (d:Nat→Nat):Prop where
  len:1≤ls.length∧ls.length≤4
  first:d 0≤20
  lay:∀ i,i<ls.length→Mat (ls.getD i lay0).W (d (i+1)) (d i)∧(ls.getD i lay0).B.length=d (i+1)∧d (i+1)≤12∧((ls.getD i lay0).k=1∨(ls.getD i lay0).k=2∨(ls.getD i lay0).k=3)
def act (k:Int)(u:Rat):Rat:=if k=2 then maxR u 0 else if k=3 then u/(((1:Int):Rat)+qabs u) else u
def layq (L:Lay)(x:List Rat):List Rat:=(List.range L.W.length).map fun i=>act L.k (dotq (L.W.getD i []) x x.length+L.B.getD i 0)
def outq (ls:List Lay)(xs:List Rat):Nat→List Rat
  | 0=>xs
  | k+1=>layq (ls.getD k lay0) (outq ls xs k)
abbrev gD (ls:List Lay)(xs:List Rat)(k r:Nat):Rat:=dotq ((ls.getD k lay0).W.getD r []) (outq ls xs k) (outq ls xs k).length
abbrev gS (ls:List Lay)(xs:List Rat)(k r:Nat):Rat:=gD ls xs k r+((ls.getD k lay0).B).getD r 0
structure NetB (ls:List Lay) (xs:List Rat):Prop where
  w:∀ k i j,LQ 1000000 (((ls.getD k lay0).W.getD i []).getD j 0)
  b:∀ k i,LQ 1000000 ((ls.getD k lay0).B.getD i 0)
  x:∀ k,k≤ls.length→∀ j,LQ 1000000 ((outq ls xs k).getD j 0)
theorem RQ.eq {h:Hp}{v:Value}{p q:Rat}(x:RQ h v p)(e:p=q):RQ h v q:=by subst e;exact x
structure LaySz (L:Lay):Prop where
  rl:L.W.length≤8
  rls:∀ i,(L.W.getD i []).length≤8
  bl:L.B.length≤8
  w:∀ i j,LQ 1 ((L.W.getD i []).getD j 0)
  b:∀ i,LQ 1 (L.B.getD i 0)
  b4:L.B.length≤4
  w4:(L.W.getD 0 []).length≤4
theorem lq0 {k:Nat}(h:1≤k):LQ k 0:=(LQ.lit (z:=0) kD).mono h
theorem cmpR_self (a:Rat):cmpR a a=0:=by unfold cmpR cmpI;rw[if_neg oM,if_neg oM]
section fut
variable {P:Program} {n:Nat} {N R:Po} {X:Nat→Po} {ops:Array Oper} {k0 K:Nat} {L:Array Bool} {Γ:Env} {w:World} {h:Hp} {w0:World} {h0:Hp} {B:List Bx} {Rs:List Rw} {F:List (Hp→Prop)}
end fut
structure LayS4 (L:Lay):Prop where
  rl:L.W.length≤4
  rls:∀ i,(L.W.getD i []).length≤4
  bl:L.B.length≤4
  w:∀ i j,LQ 1 ((L.W.getD i []).getD j 0)
  b:∀ i,LQ 1 (L.B.getD i 0)
section fla
variable {P:Program} {n:Nat} {N R:Po} {X:Nat→Po} {ops:Array Oper} {k:Nat} {Γ:Env} {w:World} {h:Hp} {w0:World} {h0:Hp} {B:List Bx} {Rs:List Rw} {F:List (Hp→Prop)}
end fla
section prt
variable {M:Ms} {P:Program} {n:Nat} {N R:Po} {X:Nat→Po} {ops:Array Oper} {k k0:Nat} {hr:Hp} {AL:List Al} {L:Array Bool} {Γ:Env} {w:World} {h:Hp}
end prt
theorem getD_outR {α:Type}{l:List α}{i:Nat}{d:α}(h:l.length≤i):l.getD i d=d:=by rw[List.getD_eq_getElem?_getD,List.getElem?_eq_none h];rfl
def okq (op n:Int)(a b:Rat):Prop:=(op=6→b≠0)∧(op=8→n<0→a≠0)
instance (op n:Int) (a b:Rat):Decidable (okq op n a b):=by unfold okq;infer_instance
def knk (op:Int)(a b:Rat):Prop:=(op=9∨op=10)∧a=0∨(op=12∨op=13)∧a=b
instance (op:Int) (a b:Rat):Decidable (knk op a b):=by unfold knk;infer_instance
theorem tArity (op:Int)(w:World)(h:Hp)(g:G w h):CV 40 #[iV op] w h (iV (ari op)):=by
 have hs:=sS g;refine go Tryz.func40 [(0,iV op)] rfl (cSLlL hs [.v 2 (iV 0)] (lNcQ (cSLlL hs [.m 3 0] (lNkZ (cQ (cSL ?_))))));cases hb1:((op:Int) == (1:Int))
 ·
  have phb1:=neOfBeq hb1;refine lB 5 hb1 (lL hs [.m 4 5] (lNIF (kQ ?_)));cases hb2:((op:Int) == (2:Int))
  ·
   have phb2:=neOfBeq hb2;refine lB 6 hb2 (lL hs [.m 4 6] (lNIF (cQ (cSL ?_))));cases hb3:((op:Int) == (7:Int))
   ·
    have phb3:=neOfBeq hb3;refine lB 8 hb3 (lL hs [.m 7 8] (lNIF (cSL ?_)));cases hb4:((op:Int) == (8:Int))
    ·
     have phb4:=neOfBeq hb4;refine lB 9 hb4 (lL hs [.m 7 9] (lNIF (cSL ?_)));cases hb5:((op:Int) == (9:Int))
     ·
      have phb5:=neOfBeq hb5;refine lB 10 hb5 (lL hs [.m 7 10] (lNIF (cSL ?_)));cases hb6:((op:Int) == (10:Int))
      ·
       have phb6:=neOfBeq hb6;refine lB 11 hb6 (lL hs [.m 7 11] (lNIF (kQ ?_)));cases hb7:((op:Int) == (11:Int))
       ·
        have phb7:=neOfBeq hb7;refine lB 12 hb7 (lL hs [.m 7 12] (lNIF (cQ (cSL ?_))));cases hb8:((op:Int) == (3:Int))
        ·
         have phb8:=neOfBeq hb8;refine lB 14 hb8 (lL hs [.m 13 14] (lNIF (cSL ?_)));cases hb9:((op:Int) == (4:Int))
         ·
          have phb9:=neOfBeq hb9;refine lB 15 hb9 (lL hs [.m 13 15] (lNIF (cSL ?_)));cases za:((op:Int) == (5:Int))
          ·
           have ze:=neOfBeq za;refine lB 16 za (lL hs [.m 13 16] (lNIF (cSL ?_)));cases zb:((op:Int) == (6:Int))
           ·
            have zf:=neOfBeq zb;refine lB 17 zb (lL hs [.m 13 17] (lNIF (cSL ?_)));cases zc:((op:Int) == (12:Int))
            ·
             have zg:=neOfBeq zc;refine lB 18 zc (lL hs [.m 13 18] (lNIF (kQ ?_)));cases zd:((op:Int) == (13:Int))
             ·
              have zi:=neOfBeq zd;exact lB 19 zd (lL hs [.m 13 19] (lNIF (cK (cSLlL hs [.v 2 (iV (-1))] (lNkXr hs [] (iV (-1)) (congrArg (Value.int .i64) (by have:=ari_cases op;omega)))))))
             have zi:=eq_of_beq zd;exact lB 19 zd (lL hs [.m 13 19] (lNIT (cSLlL hs [.v 2 (iV 2)] (lNkXr hs [] (iV 2) (congrArg (Value.int .i64) (by have:=ari_cases op;omega))))))
            have zg:=eq_of_beq zc;exact lB 18 zc (lL hs [.m 13 18] (lNIT (cK (cIT (cSLlL hs [.v 2 (iV 2)] (lNkXr hs [] (iV 2) (congrArg (Value.int .i64) (by have:=ari_cases op;omega))))))))
           have zf:=eq_of_beq zb;exact lB 17 zb (lL hs [.m 13 17] (lNIT (cK (cIT (cSLlL hs [.v 2 (iV 2)] (lNkXr hs [] (iV 2) (congrArg (Value.int .i64) (by have:=ari_cases op;omega))))))))
          have ze:=eq_of_beq za;exact lB 16 za (lL hs [.m 13 16] (lNIT (cK (cIT (cSLlL hs [.v 2 (iV 2)] (lNkXr hs [] (iV 2) (congrArg (Value.int .i64) (by have:=ari_cases op;omega))))))))
         have phb9:=eq_of_beq hb9;exact lB 15 hb9 (lL hs [.m 13 15] (lNIT (cK (cIT (cSLlL hs [.v 2 (iV 2)] (lNkXr hs [] (iV 2) (congrArg (Value.int .i64) (by have:=ari_cases op;omega))))))))
        have phb8:=eq_of_beq hb8;exact lB 14 hb8 (lL hs [.m 13 14] (lNIT (cK (cIT (cSLlL hs [.v 2 (iV 2)] (lNkXr hs [] (iV 2) (congrArg (Value.int .i64) (by have:=ari_cases op;omega))))))))
       have phb7:=eq_of_beq hb7;exact lB 12 hb7 (lL hs [.m 7 12] (lNIT (cSLlL hs [.v 2 (iV 1)] (lNkXr hs [] (iV 1) (congrArg (Value.int .i64) (by have:=ari_cases op;omega))))))
      have phb6:=eq_of_beq hb6;exact lB 11 hb6 (lL hs [.m 7 11] (lNIT (cK (cIT (cSLlL hs [.v 2 (iV 1)] (lNkXr hs [] (iV 1) (congrArg (Value.int .i64) (by have:=ari_cases op;omega))))))))
     have phb5:=eq_of_beq hb5;exact lB 10 hb5 (lL hs [.m 7 10] (lNIT (cK (cIT (cSLlL hs [.v 2 (iV 1)] (lNkXr hs [] (iV 1) (congrArg (Value.int .i64) (by have:=ari_cases op;omega))))))))
    have phb4:=eq_of_beq hb4;exact lB 9 hb4 (lL hs [.m 7 9] (lNIT (cK (cIT (cSLlL hs [.v 2 (iV 1)] (lNkXr hs [] (iV 1) (congrArg (Value.int .i64) (by have:=ari_cases op;omega))))))))
   have phb3:=eq_of_beq hb3;exact lB 8 hb3 (lL hs [.m 7 8] (lNIT (cK (cIT (cSLlL hs [.v 2 (iV 1)] (lNkXr hs [] (iV 1) (congrArg (Value.int .i64) (by have:=ari_cases op;omega))))))))
  have phb2:=eq_of_beq hb2;exact lB 6 hb2 (lL hs [.m 4 6] (lNIT (cSLlL hs [.v 2 (iV 0)] (lNkXr hs [] (iV 0) (congrArg (Value.int .i64) (by have:=ari_cases op;omega))))))
 have phb1:=eq_of_beq hb1;exact lB 5 hb1 (lL hs [.m 4 5] (lNIT (cK (cIT (cSLlL hs [.v 2 (iV 0)] (lNkXr hs [] (iV 0) (congrArg (Value.int .i64) (by have:=ari_cases op;omega))))))))
theorem tRefers_true (tt:Int)(i rb:Nat)(w:World)(h:Hp)(g:G w h)(ho:Own w rb 3 [nV i])(hj:h[rb]?=some junk):Calls Tryz.prog 99 #[iV tt,.bool true,pB rb] w (RetM rb w h fun v w' _=>v=.bool (decide (0≤(tt:Int)∧(tt:Int)<(i:Nat)))∧Own w' rb 3 [nV i]):=by
 have hmo:UpM [rb] w h w h:=UpM.refl g;obtain ⟨wz,hz,hs⟩:=SS.at_ g ho hj;refine go Tryz.func99 [(0,iV tt),(1,qT),(2,pB rb)] rfl (cSLlL hs [.v 5 qF] (lNcQ (cSLlL hs [.m 6 1] (lNIT (cSLlL hs [.m 7 0] ?_)))));cases hb1:(decide ((0:Int)≤(tt:Int)))
 ·
  have phb1:=oF hb1;refine lB 8 hb1 (lL hs [.m 9 8] (lG 10 ?_));exact lG 11 (lG 12 (lL hs [.v 13 qF,.m 5 13] (lN (kX (hs.retM hmo [] qF ⟨congrArg Value.bool (decide_eq_false oM).symm,hs.own 0⟩)))))
 have phb1:=oT hb1;refine lB 8 hb1 (lL hs [.m 9 8,.m 10 0,.o 11 (nV i) 0 0 1] ?_);cases hb2:(decide ((tt:Int)<(i:Int)))
 ·
  have phb2:=oF hb2;exact lB 12 hb2 (lL hs [.v 13 qF,.m 5 13] (lN (kX (hs.retM hmo [] qF ⟨congrArg Value.bool (decide_eq_false oM).symm,hs.own 0⟩))))
 have phb2:=oT hb2;exact lB 12 hb2 (lL hs [.v 13 qT,.m 5 13] (lN (kX (hs.retM hmo [] qT ⟨congrArg Value.bool (decide_eq_true oM).symm,hs.own 0⟩))))
theorem tRefers_false (tt:Int)(i rb:Nat)(w:World)(h:Hp)(g:G w h)(ho:Own w rb 3 [nV i])(hj:h[rb]?=some junk):Calls Tryz.prog 99 #[iV tt,.bool false,pB rb] w (RetM rb w h fun v w' _=>v=.bool (decide ((tt:Int)=0))∧Own w' rb 3 [nV i]):=by
 have hmo:UpM [rb] w h w h:=UpM.refl g;obtain ⟨wz,hz,hs⟩:=SS.at_ g ho hj;refine go Tryz.func99 [(0,iV tt),(1,qF),(2,pB rb)] rfl (cSLlL hs [.v 5 qF] (lNcQ (cSLlL hs [.m 6 1] (lNIF (cK (cSLlL hs [.m 14 0] ?_))))));cases hb1:((tt:Int) == (0:Int))
 ·
  have phb1:=neOfBeq hb1;exact lB 15 hb1 (lL hs [.m 5 15] (lN (kX (hs.retM hmo [] qF ⟨congrArg Value.bool (decide_eq_false oM).symm,hs.own 0⟩))))
 have phb1:=eq_of_beq hb1;exact lB 15 hb1 (lL hs [.m 5 15] (lN (kX (hs.retM hmo [] qT ⟨congrArg Value.bool (decide_eq_true oM).symm,hs.own 0⟩))))
theorem tFormed (inp:Int)(A:Option Addr)(c:Nat)(l:List Stp)(O:Option Addr)(d:Nat)(os:List Int)(i:Nat)(hik:i<l.length)(hl:l.length≤65536)(hq:LQ 1 (l.getD i stp0).q)(w:World)(h:Hp)(g:G w h)(hA:SlO 9 stc stp0 h A l)(hO:Si O os h):CV 61 #[.agg #[iV inp,.slice A ((l).length) c,.slice O ((os).length) d],nV i] w h (.bool (decide (Formed inp i (l.getD i stp0)))):=by
 have hs:=(((sS g).aS hA).aS hO);have hsg:(l.getD i stp0).q.num.sign=0↔(l.getD i stp0).q.num=0:=Int.sign_eq_zero_iff_zero;refine go Tryz.func61 [(0,.agg #[iV inp,qS A ((l).length) c,qS O ((os).length) d]),(1,nV i)] rfl (cSL (lA 2 40 ([iV inp,qS A ((l).length) c,qS O ((os).length) d]) hs (fun b1 w2 h3 hs=>lA 3 3 ([nV i]) hs (fun b4 w5 h6 hs=>lL hs [.v 4 qF] (lNS (lL hs [.v 8 (qP b1 1),.o 9 (qS A ((l).length) c) 1 1 1,.o 10 (nV i) 0 0 1] (lX 11 A ((l).length) c 9 (i:Nat) i ((hs.f.2.1).ok oM) ?_)))))));refine lH 12 (sX (l.getD i stp0)) hs ((hs.f.2.1).el i oM) (lA 5 99 ([iV 0,iV 0,iV 0,iV 0,qF,uV 0,eS,uV 0,eS]) hs (fun b7 w8 h9 hs=>lP 0 0 (sC (l.getD i stp0)) hs (fun _ hs=>lNS (lL hs [.v 13 (pB b7),.o 14 (iV ((l.getD i stp0).op)) 0 0 1] (lCval 15 hs (tArity (l.getD i stp0).op _ _ hs.g) (fun _ _ hs=>?_))))));have hac:=ari_cases (l.getD i stp0).op;refine lL hs [.m 6 15] (lNcQ (cSLlL hs [.m 16 6] ?_));cases za:(decide ((ari (l.getD i stp0).op:Int)<(0:Int)))
 ·
  have zA:=oF za;refine lB 17 za ?_;refine lNIF (cK (cSLlL hs [.v 18 (.func (.func 99) #[] #[pB b4]),.m 7 18] (lNcQ (CG.join (fun Γ w_=>∃ (zs:Bool) (h_:Hp),Γ=[(2,pB b1),(4,qF),(5,pB b7),(45,.bool zs)]∧SS w h w_ h_ [⟨b7,99,sC (l.getD i stp0)⟩,⟨b4,3,[nV i]⟩,⟨b1,40,[iV inp,qS A ((l).length) c,qS O ((os).length) d]⟩] [] [Si O os,fun h_=>SlO 9 stc stp0 h_ A l]∧(zs=true→¬(((0<ari (l.getD i stp0).op→0≤(l.getD i stp0).a∧(l.getD i stp0).a<i)∧(¬0<ari (l.getD i stp0).op→(l.getD i stp0).a=0))∧((1<ari (l.getD i stp0).op→0≤(l.getD i stp0).b∧(l.getD i stp0).b<i)∧(¬1<ari (l.getD i stp0).op→(l.getD i stp0).b=0))∧((l.getD i stp0).op≠1→(l.getD i stp0).q.num=0)))∧(zs=false→(((0<ari (l.getD i stp0).op→0≤(l.getD i stp0).a∧(l.getD i stp0).a<i)∧(¬0<ari (l.getD i stp0).op→(l.getD i stp0).a=0))∧((1<ari (l.getD i stp0).op→0≤(l.getD i stp0).b∧(l.getD i stp0).b<i)∧(¬1<ari (l.getD i stp0).op→(l.getD i stp0).b=0))∧((l.getD i stp0).op≠1→(l.getD i stp0).q.num=0)))) ?_ ?_))))
  ·
   refine kQ (lL hs [.m 19 7,.v 20 (qP b7 1),.o 21 (iV ((l.getD i stp0).a)) 0 1 1,.m 22 6] ?_);cases zb:(decide ((0:Int)<(ari (l.getD i stp0).op:Int)))
   ·
    have zB:=oF zb;refine lB 23 zb (lCm 24 (tRefers_false ((l.getD i stp0).a) i b4 _ _ hs.g (hs.own 1) (hs.jk 1)) ?_);rintro _ _ yl u18 ⟨rfl,hO15⟩;replace hs:=(hs.stepM 1 u18 hO15).to [⟨b7,99,sC (l.getD i stp0)⟩,⟨b4,3,[nV i]⟩,⟨b1,40,[iV inp,qS A ((l).length) c,qS O ((os).length) d]⟩] [];cases zt:(decide (((l.getD i stp0).a:Int)=0))
    ·
     have zD:=oF zt;refine lL hs [.v 25 qT,.m 26 25] (lG 27 ?_);refine lG 28 (lG 29 (lG 30 (lG 31 (lG 32 (lG 33 (lL hs [.v 34 qT,.m 35 34] (lG 36 ?_)))))));refine lG 37 (lG 38 (lG 39 (lG 40 (lG 41 (lG 42 (lG 43 (lG 44 (lL hs [.v 45 qT] (lD ?_)))))))));intro a_ ka;exact ⟨_,⟨true,yl,rfl,hs.to _ _,(fun _=>by omega),(fun h_=>absurd h_ kD)⟩,ka.to _ kR⟩
    have zD:=oT zt;refine lL hs [.v 25 qF,.m 26 25,.m 27 7,.v 28 (qP b7 2),.o 29 (iV ((l.getD i stp0).b)) 0 2 1,.m 30 6] ?_;have ⟨yj,phb22⟩:=dF (p:=(1:Int)<(ari (l.getD i stp0).op:Int)) oM;refine lB 31 yj (lCm 32 (tRefers_false ((l.getD i stp0).b) i b4 _ _ hs.g (hs.own 1) (hs.jk 1)) ?_);rintro _ _ yc u26 ⟨rfl,hO23⟩;replace hs:=(hs.stepM 1 u26 hO23).to [⟨b7,99,sC (l.getD i stp0)⟩,⟨b4,3,[nV i]⟩,⟨b1,40,[iV inp,qS A ((l).length) c,qS O ((os).length) d]⟩] [];cases zu:(decide (((l.getD i stp0).b:Int)=0))
    ·
     have zE:=oF zu;refine lL hs [.v 33 qT,.v 34 qT,.m 35 34] (lG 36 ?_);refine lG 37 (lG 38 (lG 39 (lG 40 (lG 41 (lG 42 (lG 43 (lG 44 (lL hs [.v 45 qT] (lD ?_)))))))));intro a_ ka;exact ⟨_,⟨true,yc,rfl,hs.to _ _,(fun _=>by omega),(fun h_=>absurd h_ kD)⟩,ka.to _ kR⟩
    have zE:=oT zu;refine lL hs [.v 33 qF,.v 34 qF,.m 35 34,.v 36 (pB b7),.o 37 (iV ((l.getD i stp0).op)) 0 0 1] ?_;cases zc:(((l.getD i stp0).op:Int) != (1:Int))
    ·
     have zG:=eqOfBne zc;refine lB 38 zc (lL hs [.m 39 38] (lG 40 ?_));refine lG 41 (lG 42 (lG 43 (lL hs [.v 44 qF,.v 45 qF] (lD ?_))));intro a_ ka;exact ⟨_,⟨false,yc,rfl,hs.to _ _,(fun h_=>absurd h_ kD),(fun _=>by omega)⟩,ka.to _ kR⟩
    have zG:=neOfBne zc;refine lB 38 zc (lL hs [.m 39 38,.v 40 (qP b7 4),.o 41 (qv ((l.getD i stp0).q)) 0 4 5] (lCval 42 hs (fSign (l.getD i stp0).q (hq.mono oM) _ _ hs.g) (fun _ yd hs=>?_)));cases zd:(((l.getD i stp0).q.num.sign:Int) != (0:Int))
    ·
     have zH:=eqOfBne zd;refine lB 43 zd (lL hs [.v 44 qF,.v 45 qF] (lD ?_));intro a_ ka;exact ⟨_,⟨false,yd,rfl,hs.to _ _,(fun h_=>absurd h_ kD),(fun _=>by omega)⟩,ka.to _ kR⟩
    have zH:=neOfBne zd;refine lB 43 zd (lL hs [.v 44 qT,.v 45 qT] (lD ?_));intro a_ ka;exact ⟨_,⟨true,yd,rfl,hs.to _ _,(fun _=>by omega),(fun h_=>absurd h_ kD)⟩,ka.to _ kR⟩
   have zB:=oT zb;refine lB 23 zb (lCm 24 (tRefers_true ((l.getD i stp0).a) i b4 _ _ hs.g (hs.own 1) (hs.jk 1)) ?_);rintro _ _ ym u43 ⟨rfl,hO40⟩;replace hs:=(hs.stepM 1 u43 hO40).to [⟨b7,99,sC (l.getD i stp0)⟩,⟨b4,3,[nV i]⟩,⟨b1,40,[iV inp,qS A ((l).length) c,qS O ((os).length) d]⟩] [];cases zv:(decide (0≤((l.getD i stp0).a:Int)∧((l.getD i stp0).a:Int)<(i:Nat)))
   ·
    have zI:=oF zv;refine lL hs [.v 25 qT,.m 26 25] (lG 27 ?_);refine lG 28 (lG 29 (lG 30 (lG 31 (lG 32 (lG 33 (lL hs [.v 34 qT,.m 35 34] (lG 36 ?_)))))));refine lG 37 (lG 38 (lG 39 (lG 40 (lG 41 (lG 42 (lG 43 (lG 44 (lL hs [.v 45 qT] (lD ?_)))))))));intro a_ ka;exact ⟨_,⟨true,ym,rfl,hs.to _ _,(fun _=>by omega),(fun h_=>absurd h_ kD)⟩,ka.to _ kR⟩
   have zI:=oT zv;refine lL hs [.v 25 qF,.m 26 25,.m 27 7,.v 28 (qP b7 2),.o 29 (iV ((l.getD i stp0).b)) 0 2 1,.m 30 6] ?_;cases ze:(decide ((1:Int)<(ari (l.getD i stp0).op:Int)))
   ·
    have zJ:=oF ze;refine lB 31 ze (lCm 32 (tRefers_false ((l.getD i stp0).b) i b4 _ _ hs.g (hs.own 1) (hs.jk 1)) ?_);rintro _ _ ye u51 ⟨rfl,hO48⟩;replace hs:=(hs.stepM 1 u51 hO48).to [⟨b7,99,sC (l.getD i stp0)⟩,⟨b4,3,[nV i]⟩,⟨b1,40,[iV inp,qS A ((l).length) c,qS O ((os).length) d]⟩] [];cases zw:(decide (((l.getD i stp0).b:Int)=0))
    ·
     have zK:=oF zw;refine lL hs [.v 33 qT,.v 34 qT,.m 35 34] (lG 36 ?_);refine lG 37 (lG 38 (lG 39 (lG 40 (lG 41 (lG 42 (lG 43 (lG 44 (lL hs [.v 45 qT] (lD ?_)))))))));intro a_ ka;exact ⟨_,⟨true,ye,rfl,hs.to _ _,(fun _=>by omega),(fun h_=>absurd h_ kD)⟩,ka.to _ kR⟩
    have zK:=oT zw;refine lL hs [.v 33 qF,.v 34 qF,.m 35 34,.v 36 (pB b7),.o 37 (iV ((l.getD i stp0).op)) 0 0 1] ?_;cases zf:(((l.getD i stp0).op:Int) != (1:Int))
    ·
     have zL:=eqOfBne zf;refine lB 38 zf (lL hs [.m 39 38] (lG 40 ?_));refine lG 41 (lG 42 (lG 43 (lL hs [.v 44 qF,.v 45 qF] (lD ?_))));intro a_ ka;exact ⟨_,⟨false,ye,rfl,hs.to _ _,(fun h_=>absurd h_ kD),(fun _=>by omega)⟩,ka.to _ kR⟩
    have zL:=neOfBne zf;refine lB 38 zf (lL hs [.m 39 38,.v 40 (qP b7 4),.o 41 (qv ((l.getD i stp0).q)) 0 4 5] (lCval 42 hs (fSign (l.getD i stp0).q (hq.mono oM) _ _ hs.g) (fun _ yf hs=>?_)));cases zg:(((l.getD i stp0).q.num.sign:Int) != (0:Int))
    ·
     have zM:=eqOfBne zg;refine lB 43 zg (lL hs [.v 44 qF,.v 45 qF] (lD ?_));intro a_ ka;exact ⟨_,⟨false,yf,rfl,hs.to _ _,(fun h_=>absurd h_ kD),(fun _=>by omega)⟩,ka.to _ kR⟩
    have zM:=neOfBne zg;refine lB 43 zg (lL hs [.v 44 qT,.v 45 qT] (lD ?_));intro a_ ka;exact ⟨_,⟨true,yf,rfl,hs.to _ _,(fun _=>by omega),(fun h_=>absurd h_ kD)⟩,ka.to _ kR⟩
   have zJ:=oT ze;refine lB 31 ze (lCm 32 (tRefers_true ((l.getD i stp0).b) i b4 _ _ hs.g (hs.own 1) (hs.jk 1)) ?_);rintro _ _ yg u68 ⟨rfl,hO65⟩;replace hs:=(hs.stepM 1 u68 hO65).to [⟨b7,99,sC (l.getD i stp0)⟩,⟨b4,3,[nV i]⟩,⟨b1,40,[iV inp,qS A ((l).length) c,qS O ((os).length) d]⟩] [];cases zx:(decide (0≤((l.getD i stp0).b:Int)∧((l.getD i stp0).b:Int)<(i:Nat)))
   ·
    have zN:=oF zx;refine lL hs [.v 33 qT,.v 34 qT,.m 35 34] (lG 36 ?_);refine lG 37 (lG 38 (lG 39 (lG 40 (lG 41 (lG 42 (lG 43 (lG 44 (lL hs [.v 45 qT] (lD ?_)))))))));intro a_ ka;exact ⟨_,⟨true,yg,rfl,hs.to _ _,(fun _=>by omega),(fun h_=>absurd h_ kD)⟩,ka.to _ kR⟩
   have zN:=oT zx;refine lL hs [.v 33 qF,.v 34 qF,.m 35 34,.v 36 (pB b7),.o 37 (iV ((l.getD i stp0).op)) 0 0 1] ?_;cases zi:(((l.getD i stp0).op:Int) != (1:Int))
   ·
    have zP:=eqOfBne zi;refine lB 38 zi (lL hs [.m 39 38] (lG 40 ?_));refine lG 41 (lG 42 (lG 43 (lL hs [.v 44 qF,.v 45 qF] (lD ?_))));intro a_ ka;exact ⟨_,⟨false,yg,rfl,hs.to _ _,(fun h_=>absurd h_ kD),(fun _=>by omega)⟩,ka.to _ kR⟩
   have zP:=neOfBne zi;refine lB 38 zi (lL hs [.m 39 38,.v 40 (qP b7 4),.o 41 (qv ((l.getD i stp0).q)) 0 4 5] (lCval 42 hs (fSign (l.getD i stp0).q (hq.mono oM) _ _ hs.g) (fun _ yi hs=>?_)));cases zj:(((l.getD i stp0).q.num.sign:Int) != (0:Int))
   ·
    have zQ:=eqOfBne zj;refine lB 43 zj (lL hs [.v 44 qF,.v 45 qF] (lD ?_));intro a_ ka;exact ⟨_,⟨false,yi,rfl,hs.to _ _,(fun h_=>absurd h_ kD),(fun _=>by omega)⟩,ka.to _ kR⟩
   have zQ:=neOfBne zj;refine lB 43 zj (lL hs [.v 44 qT,.v 45 qT] (lD ?_));intro a_ ka;exact ⟨_,⟨true,yi,rfl,hs.to _ _,(fun _=>by omega),(fun h_=>absurd h_ kD)⟩,ka.to _ kR⟩
  rintro _ _ ⟨zs,_,rfl,hs,yk,hF45⟩;cases zk:(zs)
  ·
   try rw[zk] at hs
   try rw[zk]
   refine cIF (cK (cQ (cSL ?_)));have yn:=hF45 aM;refine lL hs [.v 46 (pB b7),.o 47 (iV ((l.getD i stp0).op)) 0 0 1] (lNkZ (cSL ?_));cases zl:(((l.getD i stp0).op:Int) == (2:Int))
   ·
    have zR:=neOfBeq zl;refine lB 49 zl (lL hs [.m 48 49] (lNIF (cSL ?_)));cases zm:(((l.getD i stp0).op:Int) == (8:Int))
    ·
     have zS:=neOfBeq zm;refine lB 61 zm (lL hs [.m 60 61] (lNIF (cK (cSLlL hs [.v 70 (qP b7 3),.o 71 (iV ((l.getD i stp0).n)) 0 3 1] ?_))));cases zn:(((l.getD i stp0).n:Int) == (0:Int))
     ·
      have zU:=neOfBeq zn;exact lB 72 zn (lL hs [.m 4 72] (lNkXr hs [] qF (congrArg Value.bool (decide_eq_false (by unfold Formed Refers;omega)).symm)))
     have zU:=eq_of_beq zn;exact lB 72 zn (lL hs [.m 4 72] (lNkXr hs [] qT (congrArg Value.bool (decide_eq_true (by unfold Formed Refers;omega)).symm)))
    have zS:=eq_of_beq zm;refine lB 61 zm (lL hs [.m 60 61] (lNIT (cSLlL hs [.v 62 (qP b7 3),.o 63 (iV ((l.getD i stp0).n)) 0 3 1] ?_)));cases zo:(decide ((-12:Int)≤((l.getD i stp0).n:Int)))
    ·
     have zW:=oF zo;refine lB 64 zo (lL hs [.m 65 64] (lG 66 ?_));exact lG 67 (lG 68 (lL hs [.v 69 qF,.m 4 69] (lNkXr hs [] qF (congrArg Value.bool (decide_eq_false (by unfold Formed Refers;omega)).symm))))
    have zW:=oT zo;refine lB 64 zo (lL hs [.m 65 64,.v 66 (qP b7 3),.o 67 (iV ((l.getD i stp0).n)) 0 3 1] ?_);cases zp:(decide (((l.getD i stp0).n:Int)≤(12:Int)))
    ·
     have zX:=oF zp;exact lB 68 zp (lL hs [.v 69 qF,.m 4 69] (lNkXr hs [] qF (congrArg Value.bool (decide_eq_false (by unfold Formed Refers;omega)).symm)))
    have zX:=oT zp;exact lB 68 zp (lL hs [.v 69 qT,.m 4 69] (lNkXr hs [] qT (congrArg Value.bool (decide_eq_true (by unfold Formed Refers;omega)).symm)))
   have zR:=eq_of_beq zl;refine lB 49 zl (lL hs [.m 48 49] (lNIT (cSLlL hs [.v 50 (qP b7 3),.o 51 (iV ((l.getD i stp0).n)) 0 3 1] ?_)));cases zq:(decide ((0:Int)≤((l.getD i stp0).n:Int)))
   ·
    have ya:=oF zq;refine lB 52 zq (lL hs [.m 53 52] (lG 54 ?_));exact lG 55 (lG 56 (lG 57 (lG 58 (lL hs [.v 59 qF,.m 4 59] (lNkXr hs [] qF (congrArg Value.bool (decide_eq_false (by unfold Formed Refers;omega)).symm))))))
   have ya:=oT zq;refine lB 52 zq (lL hs [.m 53 52,.v 54 (qP b7 3),.o 55 (iV ((l.getD i stp0).n)) 0 3 1,.v 56 (pB b1),.o 57 (iV inp) 2 0 1] ?_);cases zr:(decide (((l.getD i stp0).n:Int)<(inp:Int)))
   ·
    have yb:=oF zr;exact lB 58 zr (lL hs [.v 59 qF,.m 4 59] (lNkXr hs [] qF (congrArg Value.bool (decide_eq_false (by unfold Formed Refers;omega)).symm)))
   have yb:=oT zr;exact lB 58 zr (lL hs [.v 59 qT,.m 4 59] (lNkXr hs [] qT (congrArg Value.bool (decide_eq_true (by unfold Formed Refers;omega)).symm)))
  try rw[zk] at hs
  try rw[zk]
  refine cIT (cSL ?_);have yn:=yk aM;exact lL hs [.v 4 qF] (lNkXr hs [] qF (congrArg Value.bool (decide_eq_false (by unfold Formed Refers;omega)).symm))
 have zA:=oT za;exact lB 17 za (lNIT (cSLlL hs [.v 4 qF] (lNkXr hs [] qF (congrArg Value.bool (decide_eq_false (by unfold Formed Refers;omega)).symm))))
theorem tWeight (s:Stp)(V:Option Addr)(n c:Nat)(hv:List Int)(hn:hv.length=n)(k:Nat)(inp:Int)(hF:Formed inp k s)(hW:Wts hv k)(hk:k≤hv.length)(w:World)(h:Hp)(g:G w h)(hV:Si V hv h):CV 62 #[sX s,.slice V n c] w h (iV (weightS s hv)):=by
 have hs:=((sS g).aS hV);have hwb:=hW.weight hF;have hpw:=hW.pow hF;obtain ⟨f0,f1,f2,f3,f4,f5,f6⟩:=hF
 unfold Refers at f1 f2
 have hac:=ari_cases s.op;have hwa:=fun h0=>hW s.a.toNat h0
 have hwc:=fun h0=>hW s.b.toNat h0
 refine go Tryz.func62 [(0,sX s),(1,qS V n c)] rfl (cSL (lA 2 99 (sC s) hs (fun b1 w2 h3 hs=>lL hs [.v 4 (iV 0)] (lNcQ (cSLlL hs [.v 5 (pB b1),.o 6 (iV s.op) 0 0 1] (lCval 7 hs (tArity s.op _ _ hs.g) (fun w4 h5 hs=>lNkZ (cSL ?_))))))));cases hb6:((ari s.op:Int) == (0:Int))
 ·
  have phb6:=neOfBeq hb6;refine lB 9 hb6 (lL hs [.m 8 9] (lNIF (cSL ?_)));cases hb7:((ari s.op:Int) == (2:Int))
  ·
   have phb7:=neOfBeq hb7;refine lB 11 hb7 (lL hs [.m 10 11] (lNIF (cK (cQ (cSLlL hs [.v 23 (pB b1),.o 24 (iV s.op) 0 0 1] (lNkZ (cSL ?_)))))));cases hb8:((s.op:Int) == (11:Int))
   ·
    have phb8:=neOfBeq hb8;refine lB 26 hb8 (lL hs [.m 25 26] (lNIF (cSL ?_)));cases hb9:((s.op:Int) == (8:Int))
    ·
     have phb9:=neOfBeq hb9;refine lB 34 hb9 (lL hs [.m 33 34] (lNIF (cK (cSLlL hs [.m 47 1,.v 48 (qP b1 1),.o 49 (iV s.a) 0 1 1] (lX 50 V n c 1 s.a s.a.toNat ((hs.f.1).ok oM) ?_)))));exact lH 51 (iV (hv.getD s.a.toNat 0)) hs ((hs.f.1).el s.a.toNat oM) (lL hs [.m 4 51] (lNkXr hs [] (iV (hv.getD s.a.toNat 0)) (congrArg (Value.int .i64) (by unfold weightS;first|(rw[if_pos oM])|(rw[if_neg oM,if_pos oM])|(rw[if_neg oM,if_neg oM,if_pos oM])|(rw[if_neg oM,if_neg oM,if_neg oM,if_pos oM])|(rw[if_neg oM,if_neg oM,if_neg oM,if_neg oM])))))
    have phb9:=eq_of_beq hb9;refine lB 34 hb9 (lL hs [.m 33 34] (lNIT (cQ (cR 12 [] mixed hs al_nil ?_))));refine eV 0 35 (qP b1 3) (eO 1 36 [(0,3,1)] (iV s.n) hs (eV 2 37 (qP b1 3) (eO 3 38 [(0,3,1)] (iV s.n) hs (eI 4 39 (0-s.n) (eV 5 40 (iV (max (max (s.n:Int) (0-s.n:Int)) (1:Int))) ?_ (hv:=fun _=>rint (n:=(if (1:Int)>(if (0-s.n:Int)>(s.n:Int) then (0-s.n:Int) else (s.n:Int)) then (1:Int) else (if (0-s.n:Int)>(s.n:Int) then (0-s.n:Int) else (s.n:Int)))) kR (by simp only[imax2])))))));exact eV 6 41 (qS V n c) (eV 7 42 (qP b1 1) (eO 8 43 [(0,1,1)] (iV s.a) hs (eX 9 44 V n c 1 s.a s.a.toNat ((hs.f.1).ok oM) (eH 10 45 (iV (hv.getD s.a.toNat 0)) hs ((hs.f.1).el s.a.toNat oM) (eI 11 46 ((max (max (s.n:Int) (0-s.n:Int)) (1:Int))*(hv.getD s.a.toNat 0)) (eD0 hs (fun _ _ hs=>tV 12 4 (iV ((max (max (s.n:Int) (0-s.n:Int)) (1:Int))*(hv.getD s.a.toNat 0))) (tN (kX (hs.ret [] (iV ((max (max (s.n:Int) (0-s.n:Int)) (1:Int))*(hv.getD s.a.toNat 0))) (congrArg (Value.int .i64) (by unfold weightS;first|(rw[if_pos oM])|(rw[if_neg oM,if_pos oM])|(rw[if_neg oM,if_neg oM,if_pos oM])|(rw[if_neg oM,if_neg oM,if_neg oM,if_pos oM])|(rw[if_neg oM,if_neg oM,if_neg oM,if_neg oM])))))))))))))
   have phb8:=eq_of_beq hb8;refine lB 26 hb8 (lL hs [.m 25 26] (lNIT (cSLlL hs [.m 27 1,.v 28 (qP b1 1),.o 29 (iV s.a) 0 1 1] (lX 30 V n c 1 s.a s.a.toNat ((hs.f.1).ok oM) ?_))));exact lH 31 (iV (hv.getD s.a.toNat 0)) hs ((hs.f.1).el s.a.toNat oM) (lI 32 (2*(hv.getD s.a.toNat 0)) (lL hs [.m 4 32] (lNkXr hs [] (iV (2*(hv.getD s.a.toNat 0))) (congrArg (Value.int .i64) (by unfold weightS;first|(rw[if_pos oM])|(rw[if_neg oM,if_pos oM])|(rw[if_neg oM,if_neg oM,if_pos oM])|(rw[if_neg oM,if_neg oM,if_neg oM,if_pos oM])|(rw[if_neg oM,if_neg oM,if_neg oM,if_neg oM]))))))
  have phb7:=eq_of_beq hb7;refine lB 11 hb7 (lL hs [.m 10 11] (lNIT (cQ (cR 11 [] mixed hs al_nil ?_))));exact eV 0 12 (qS V n c) (eV 1 13 (qP b1 1) (eO 2 14 [(0,1,1)] (iV s.a) hs (eX 3 15 V n c 1 s.a s.a.toNat ((hs.f.1).ok oM) (eH 4 16 (iV (hv.getD s.a.toNat 0)) hs ((hs.f.1).el s.a.toNat oM) (eV 5 17 (qS V n c) (eV 6 18 (qP b1 2) (eO 7 19 [(0,2,1)] (iV s.b) hs (eX 8 20 V n c 1 s.b s.b.toNat ((hs.f.1).ok oM) (eH 9 21 (iV (hv.getD s.b.toNat 0)) hs ((hs.f.1).el s.b.toNat oM) (eI 10 22 ((hv.getD s.a.toNat 0)+(hv.getD s.b.toNat 0)) (eD0 hs (fun _ _ hs=>tV 11 4 (iV ((hv.getD s.a.toNat 0)+(hv.getD s.b.toNat 0))) (tN (kX (hs.ret [] (iV ((hv.getD s.a.toNat 0)+(hv.getD s.b.toNat 0))) (congrArg (Value.int .i64) (by unfold weightS;first|(rw[if_pos oM])|(rw[if_neg oM,if_pos oM])|(rw[if_neg oM,if_neg oM,if_pos oM])|(rw[if_neg oM,if_neg oM,if_neg oM,if_pos oM])|(rw[if_neg oM,if_neg oM,if_neg oM,if_neg oM]))))))))))))))))))
 have phb6:=eq_of_beq hb6;exact lB 9 hb6 (lL hs [.m 8 9] (lNIT (cSLlL hs [.v 4 (iV 1)] (lNkXr hs [] (iV 1) (congrArg (Value.int .i64) (by unfold weightS;first|(rw[if_pos oM])|(rw[if_neg oM,if_pos oM])|(rw[if_neg oM,if_neg oM,if_pos oM])|(rw[if_neg oM,if_neg oM,if_neg oM,if_pos oM])|(rw[if_neg oM,if_neg oM,if_neg oM,if_neg oM])))))))
theorem tCheck (inp:Int)(A:Option Addr)(c:Nat)(l:List Stp)(O:Option Addr)(d:Nat)(os:List Int)(hl:l.length≤1000000)(ho:os.length≤1000000)(hq:∀ i,i<l.length→LQ 1 (l.getD i stp0).q)(w:World)(h:Hp)(g:G w h)(hA:SlO 9 stc stp0 h A l)(hO:Si O os h):CV 26 #[.agg #[iV inp,.slice A ((l).length) c,.slice O ((os).length) d]] w h (iV (chkTp inp l os)):=by
 have hs:=(((sS g).aS hA).aS hO);refine go Tryz.func26 [(0,.agg #[iV inp,qS A ((l).length) c,qS O ((os).length) d])] rfl (cSL (lA 1 40 ([iV inp,qS A ((l).length) c,qS O ((os).length) d]) hs (fun b1 w2 h3 hs=>lL hs [.v 2 (iV 0)] (lNcQ (cSLlL hs [.v 8 (pB b1),.o 9 (iV inp) 0 0 1] ?_)))));cases hb4:(decide ((inp:Int)<(0:Int)))
 ·
  have phb4:=oF hb4;refine lB 10 hb4 (lL hs [.m 11 10,.v 12 (pB b1),.o 13 (iV inp) 0 0 1] ?_);cases hb5:(decide ((1000:Int)<(inp:Int)))
  ·
   have phb5:=oF hb5;refine lB 14 hb5 (lL hs [.v 15 qF,.m 16 15,.v 17 (qP b1 1),.o 18 (qS A ((l).length) c) 0 1 1,.v 19 (nV ((l).length))] ?_);cases hb6:(decide ((65536:Int)<(((l).length:Nat):Int)))
   ·
    have phb6:=oF hb6;refine lB 20 hb6 (lL hs [.v 21 qF,.m 22 21,.v 23 (qP b1 2),.o 24 (qS O ((os).length) d) 0 2 1,.v 25 (nV ((os).length))] ?_);cases hb7:(decide ((300:Int)<(((os).length:Nat):Int)))
    ·
     have phb7:=oF hb7;refine lB 26 hb7 (lL hs [.v 27 qF] (lNIF (cK (cSLlL hs [.v 28 (qP b1 1),.o 29 (qS A ((l).length) c) 0 1 1,.v 30 (nV ((l).length))] (lK 31 3 ((l).length) 1 8 (iV 0) i64c (0:Int) hs (fun b8 w9 zp hs=>?_))))));have zn:(List.replicate ((l).length) (0:Int)).length=((l).length):=by simp
     refine lL hs [.m 3 31] (lNcQ (cSLlL hs [.v 32 (qP b1 1),.o 33 (qS A ((l).length) c) 1 1 1,.v 34 (nV ((l).length)),.v 35 (iV 0)] (lNkZ ?_)));have hsh:0≤inp∧inp≤1000∧l.length≤65536∧os.length≤300:=by omega
     refine cTo _ (CG.loop (fun μ_ Γ w_=>∃ (k:Nat) (L:List Int) (h_:Hp),μ_=l.length-k∧Γ=[(1,pB b1),(3,qS (sB b8) ((l).length) ((l).length)),(33,qS A ((l).length) c),(34,nV ((l).length)),(35,nV k)]∧SS w h w_ h_ [⟨b8,3,(L).flatMap i64c⟩,⟨b1,40,[iV inp,qS A ((l).length) c,qS O ((os).length) d]⟩] [] [Si O os,fun h_=>SlO 9 stc stp0 h_ A l]∧k≤l.length∧L.length=l.length∧Wts L k∧goS inp l []=goS inp (l.drop k) (L.take k)) _ ⟨0,List.replicate ((l).length) (0:Int),zp,rfl,rfl,hs.to _ _,Nat.zero_le _,zn,fun j hj=>absurd hj (Nat.not_lt_zero j),rfl⟩ ?_);rintro _ _ _ ⟨k,L,zq,hm14,rfl,hs,hk,hlL,hWt,hgo⟩;refine cSL ?_;cases za:(decide ((k:Int)<(((l).length:Nat):Int)))
     ·
      have zg:=oF za;refine lB 36 za (lNcQ (cIF (CG.exit ?_)))
      show CG _ _ _ _ _ _ _ _
      refine cQ (cSLlL hs [.v 56 (qP b1 2),.o 57 (qS O ((os).length) d) 1 2 1,.v 58 (nV ((os).length)),.v 59 (iV 0)] (lNkZ ?_));refine cTo _ (CG.loop (fun μ_ Γ w_=>∃ (j:Nat) (h_:Hp),μ_=os.length-j∧Γ=[(1,pB b1),(57,qS O ((os).length) d),(58,nV ((os).length)),(59,nV j)]∧SS w h w_ h_ [⟨b8,3,(L).flatMap i64c⟩,⟨b1,40,[iV inp,qS A ((l).length) c,qS O ((os).length) d]⟩] [] [Si O os,fun h_=>SlO 9 stc stp0 h_ A l]∧j≤os.length∧(∀ i,i<j→0≤os.getD i 0∧os.getD i 0<l.length)) _ ⟨0,zq,rfl,rfl,hs.to _ _,Nat.zero_le _,fun j hj=>absurd hj (Nat.not_lt_zero j)⟩ ?_);rintro _ _ _ ⟨j,zr,hm18,rfl,hs,hj,hou⟩;refine cSL ?_;cases zb:(decide ((j:Int)<(((os).length:Nat):Int)))
      ·
       have zi:=oF zb;refine lB 60 zb (lNcQ (cIF (CG.exit ?_)))
       show CG _ _ _ _ _ _ _ _
       exact cSLlL hs [.v 2 (iV 0)] (lNkXr hs [] (iV 0) (congrArg (Value.int .i64) (chkTp_ok hsh (by rw[hgo,List.drop_eq_nil_of_le oM];rfl) (fun i hi=>hou i oM)).symm))
      have zi:=oT zb;refine lB 60 zb (lNcQ (cIT (cK (cQ (kZ (cSL (lX 61 O ((os).length) d 1 (j:Nat) j ((hs.f.1).ok oM) ?_)))))));refine lH 62 (iV (os.getD j 0)) hs ((hs.f.1).el j oM) (lL hs [.m 7 62] (lNS (lL hs [.m 63 7] ?_)));cases zc:(decide ((os.getD j 0:Int)<(0:Int)))
      ·
       have zj:=oF zc;refine lB 64 zc (lL hs [.m 65 64,.m 66 7,.v 67 (qP b1 1),.o 68 (qS A ((l).length) c) 1 1 1,.v 69 (nV ((l).length))] ?_);cases zd:(decide ((((l).length:Nat):Int)≤(os.getD j 0:Int)))
       ·
        have zk:=oF zd;refine lB 70 zd (lL hs [.v 71 qF] (lNIF (cK (kQ (lIn 72 ((j:Nat)+1) (j+1) ?_)))));refine lL hs [.m 59 72] (lD ?_);intro a_ ka;refine ⟨_,_,?_,⟨j+1,zr,rfl,rfl,hs.to _ _,oM,(fun i hi=>by by_cases e:i=j;(subst e;omega);exact hou i oM)⟩,ka.to _ kR⟩
        omega
       have zk:=oT zd;exact lB 70 zd (lL hs [.v 71 qT] (lNIT (cSLlL hs [.v 2 (iV 1)] (lNkXr hs [] (iV 1) (congrArg (Value.int .i64) (chkTp_arg hsh (by rw[hgo,List.drop_eq_nil_of_le oM];rfl) (fun h_=>by have:=h_ j oM;omega)).symm)))))
      have zj:=oT zc;refine lB 64 zc (lL hs [.m 65 64] (lG 66 ?_));exact lG 67 (lG 68 (lG 69 (lG 70 (lL hs [.v 71 qT] (lNIT (cSLlL hs [.v 2 (iV 1)] (lNkXr hs [] (iV 1) (congrArg (Value.int .i64) (chkTp_arg hsh (by rw[hgo,List.drop_eq_nil_of_le oM];rfl) (fun h_=>by have:=h_ j oM;omega)).symm))))))))
     have zg:=oT za;refine lB 36 za (lNcQ (cIT (cK (cQ (kZ (cSLlL hs [.m 37 35] (lX 38 A ((l).length) c 9 (k:Nat) k ((hs.f.2.1).ok oM) ?_)))))));refine lH 39 (sX (l.getD k stp0)) hs ((hs.f.2.1).el k oM) (lA 5 99 ([iV 0,iV 0,iV 0,iV 0,qF,uV 0,eS,uV 0,eS]) hs (fun zs _ _ hs=>lL hs [.m 4 37] (lP 0 0 (sC (l.getD k stp0)) hs (fun _ hs=>lNcQ (cSLlL hs [.o 40 (.agg #[iV inp,qS A ((l).length) c,qS O ((os).length) d]) 2 0 3,.m 41 4] (lCval 42 hs (tFormed inp A c l O d os k oM oM (hq k oM) _ _ hs.g hs.f.2.1 hs.f.1) (fun _ _ hs=>?_)))))));cases zf:(decide (Formed inp k (l.getD k stp0)))
     ·
      have zl:=oF zf;exact lL hs [.v 43 qT] (lNIT (cSLlL hs [.v 2 (iV 2)] (lNkXr hs [] (iV 2) (congrArg (Value.int .i64) ((chkTp_go hsh (by rw[hgo,goS_bad oM (by simp;omega) ‹¬Formed inp k (l.getD k stp0)›];decide)).trans (hgo.trans (goS_bad oM (by simp;omega) ‹¬Formed inp k (l.getD k stp0)›))).symm))))
     have zl:=oT zf;refine lL hs [.v 43 qF] (lNIF (cK (cSLlL hs [.m 44 3,.m 45 4,.o 46 (sX (l.getD k stp0)) 0 0 9,.m 47 3] (lCl 48 1 hs (fun _ g_ f_ sg_=>tWeight (l.getD k stp0) (sB b8) ((l).length) ((l).length) L hlL k inp ‹Formed inp k (l.getD k stp0)› hWt oM _ _ g_ (SlO.of_flat (sz:=1) (f:=i64c) (d:=0) (b:=b8) (o:=0) (l:=L) (fun _=>rfl) sg_)) ?_))));rintro _ _ zt hs rfl;have hws:=hWt.weight ‹Formed inp k (l.getD k stp0)›;have hgs:(L.set k (weightS (l.getD k stp0) L)).getD k 0=weightS (l.getD k stp0) L:=by rw[List.getD_eq_getElem?_getD,List.getElem?_set_self oM];rfl
     refine lX 49 (sB b8) ((l).length) ((l).length) 1 (k:Nat) k rfl (lW 1 L i64c 1 k (weightS (l.getD k stp0) L) hs oM (fun _ hs=>?_));have zo:((L).set k (weightS (l.getD k stp0) L)).length=((l).length):=by rw[List.length_set];exact hlL
     replace hs:=hs.to [⟨zs,99,sC (l.getD k stp0)⟩,⟨b8,3,((L).set k (weightS (l.getD k stp0) L)).flatMap i64c⟩,⟨b1,40,[iV inp,qS A ((l).length) c,qS O ((os).length) d]⟩] [];refine lNS (lL hs [.m 50 3,.m 51 4] (lX 52 (sB b8) ((l).length) ((l).length) 1 (k:Nat) k rfl ?_));refine lQ 53 1 ((L).set k (weightS (l.getD k stp0) L)) i64c 1 0 k (iV (((L).set k (weightS (l.getD k stp0) L)).getD k 0)) hs oM ?_;cases ze:(decide ((65536:Int)<(((L).set k (weightS (l.getD k stp0) L)).getD k 0:Int)))
     ·
      have zm:=oF ze;refine lB 54 ze (lNIF (cK (kQ (lIn 55 ((k:Nat)+1) (k+1) ?_))));refine lL hs [.m 35 55] (lD ?_);intro a_ ka;replace hs:=hs.drop 1 0;refine ⟨_,_,?_,⟨k+1,(L).set k (weightS (l.getD k stp0) L),zt,rfl,rfl,hs.to _ _,oM,zo,(hWt.snoc oM hws.1 oM),(hgo.trans ((goS_step oM (by simp;omega) ‹Formed inp k (l.getD k stp0)› (by rw[weight_take ‹Formed inp k (l.getD k stp0)›];omega)).trans (by rw[weight_take ‹Formed inp k (l.getD k stp0)›,take_set_snoc oM])))⟩,ka.to _ kR⟩
      omega
     have zm:=oT ze;exact lB 54 ze (lNIT (cSLlL hs [.v 2 (iV 18)] (lNkXr hs [] (iV 18) (congrArg (Value.int .i64) ((chkTp_go hsh (by rw[hgo,goS_over oM (by simp;omega) ‹Formed inp k (l.getD k stp0)› (by rw[weight_take ‹Formed inp k (l.getD k stp0)›];omega)];decide)).trans (hgo.trans (goS_over oM (by simp;omega) ‹Formed inp k (l.getD k stp0)› (by rw[weight_take ‹Formed inp k (l.getD k stp0)›];omega)))).symm))))
    have phb7:=oT hb7;exact lB 26 hb7 (lL hs [.v 27 qT] (lNIT (cSLlL hs [.v 2 (iV 5)] (lNkXr hs [] (iV 5) (congrArg (Value.int .i64) (chkTp_shape oM).symm)))))
   have phb6:=oT hb6;refine lB 20 hb6 (lL hs [.v 21 qT,.m 22 21] (lG 23 ?_));exact lG 24 (lG 25 (lG 26 (lL hs [.v 27 qT] (lNIT (cSLlL hs [.v 2 (iV 5)] (lNkXr hs [] (iV 5) (congrArg (Value.int .i64) (chkTp_shape oM).symm)))))))
  have phb5:=oT hb5;refine lB 14 hb5 (lL hs [.v 15 qT,.m 16 15] (lG 17 ?_));refine lG 18 (lG 19 (lG 20 (lL hs [.v 21 qT,.m 22 21] (lG 23 ?_))));exact lG 24 (lG 25 (lG 26 (lL hs [.v 27 qT] (lNIT (cSLlL hs [.v 2 (iV 5)] (lNkXr hs [] (iV 5) (congrArg (Value.int .i64) (chkTp_shape oM).symm)))))))
 have phb4:=oT hb4;refine lB 10 hb4 (lL hs [.m 11 10] (lG 12 ?_));refine lG 13 (lG 14 (lL hs [.v 15 qT,.m 16 15] (lG 17 ?_)));refine lG 18 (lG 19 (lG 20 (lL hs [.v 21 qT,.m 22 21] (lG 23 ?_))));exact lG 24 (lG 25 (lG 26 (lL hs [.v 27 qT] (lNIT (cSLlL hs [.v 2 (iV 5)] (lNkXr hs [] (iV 5) (congrArg (Value.int .i64) (chkTp_shape oM).symm)))))))
theorem goS_all {inp:Int}:∀ {l:List Stp} {hv:List Int},goS inp l hv=0→∀ j,j<l.length→Formed inp (hv.length+j) (l.getD j stp0)
  | [],_,_,j,hj=>by simp at hj
  | s :: r,hv,h,j,hj=>by
    unfold goS at h
    split at h
    · rename_i hf
      split at h
      · exact absurd h kD
      · cases j with
        | zero=>exact hf
        | succ j =>
          have:=goS_all h j (by simpa using hj);rw[List.length_append,List.length_singleton] at this
          rw[show hv.length+(j+1)=hv.length+1+j by omega];exact this
    · exact absurd h kD
theorem chk_formed {inp:Int}{l:List Stp}{os:List Int}(h:chkTp inp l os=0):(∀ k,k<l.length→Formed inp k (l.getD k stp0))∧OutsOk l.length os∧0≤inp∧inp≤1000∧l.length≤65536∧os.length≤300:=by
  unfold chkTp at h
  split at h
  · rename_i h1
    split at h
    · rename_i h2
      split at h
      · rename_i h3
        exact ⟨fun k hk=>by have:=goS_all h2 k hk;simpa using this,h3,h1⟩
      · exact absurd h kD
    · rename_i h2;exact absurd h h2
  · exact absurd h kD
section
variable {sm:Bool} {inp:Int} {l:List Stp} {os:List Int} {at_:List Rat}
end
structure MapJ (h0:Hp) (B:List Bx) (w:World) (h:Hp) (b:Nat) (es:List MapEntry) (clk:Nat):Prop where
  obj:w.heap[b]?=some (.map es.toArray clk)
  jk:h[b]?=some junk
  lo:h0.size≤b
  nb:∀ x∈B,x.b≠b
def MapS (h:Hp)(b:Nat)(es:List MapEntry):Prop:=∃ clk,h[b]?=some (.map es.toArray clk)
theorem MapS.gw {h h':Hp}{b:Nat}{es:List MapEntry}(x:MapS h b es)(u:Gw h h'):MapS h' b es:=by
  obtain ⟨c,e⟩:=x;refine ⟨c,?_⟩
  rcases u.blk b (lt_of_some e) with k|k
  · exact k.trans e
  · rw[e] at k;cases k
theorem MapS.w {w:World}{h:Hp}{b:Nat}{es:List MapEntry}(x:MapS h b es)(g:G w h):∃ clk,w.heap[b]?=some (.map es.toArray clk):=by
  obtain ⟨c,e⟩:=x;refine ⟨c,?_⟩
  rcases g.blk b with k|k
  · rw[←k];exact e
  · rw[e] at k;cases k
theorem run_upd {P:Program}(w:World){mty kt et:TypeId}{b clk:Nat}{es:Array MapEntry}{s:ByteArray}{val:Value}(hm:P.underlying mty=some (.map kt et))(hk:P.underlying kt=some .string)(hb:w.heap[b]?=some (.map es clk))(hf:Instr.findNow .string (.string s) es.toList 0=some none) :
    (Instr.mapUpdate mty (.map (some b)) (.string s) val).run P w=.ok () { w with heap:=w.heap.setIfInBounds b (.map (es.push { key:=.string s,val:=val,born:=clk }) (clk+1)) }:=by
  have hc:(Instr.checkKey false 10000 kt (.string s)).run P w=.ok () w:=MapKept.run_checkKey (k:=.string s) hk (by simp[MapKept.IsKey]) false 9999
  simp[Instr.mapUpdate,run_underlying hm,MapKept.run_getObj_map hb,hc,MapKept.run_findKey hk hf,MapKept.run_setObj_map _ hb,Result.andThen]
theorem run_updo {P:Program}(w:World){mty kt et:TypeId}{b clk i:Nat}{es:Array MapEntry}{s:ByteArray}{val v0:Value}(hm:P.underlying mty=some (.map kt et))(hk:P.underlying kt=some .string)(hb:w.heap[b]?=some (.map es clk))(hf:Instr.findNow .string (.string s) es.toList 0=some (some (i,v0)))(he:((es[i]?).map (·.key)).getD (.string s)=.string s) :
    (Instr.mapUpdate mty (.map (some b)) (.string s) val).run P w=.ok () { w with heap:=w.heap.setIfInBounds b (.map (es.modify i fun e=>{ e with key:=.string s,val:=val }) clk) }:=by
  have hc:(Instr.checkKey false 10000 kt (.string s)).run P w=.ok () w:=MapKept.run_checkKey (k:=.string s) hk (by simp[MapKept.IsKey]) false 9999;have hq:(s == s)=true:=by first|exact beq_self_eq_true s|(show (s.data == s.data)=true;exact beq_self_eq_true _)|(cases s;rfl)
  have hs:Instr.sameBits 10000 (.string s) (.string s)=true:=by simp[Instr.sameBits,hq]
  simp[Instr.mapUpdate,run_underlying hm,MapKept.run_getObj_map hb,hc,MapKept.run_findKey hk hf,MapKept.run_setObj_map _ hb,Result.andThen,he,Instr.keyThatStays,hs]
theorem run_look {P:Program}(w:World){mty kt et:TypeId}{b clk:Nat}{es:Array MapEntry}{s:ByteArray}(ok:Bool){v:Value}{found:Bool}(hm:P.underlying mty=some (.map kt et))(hk:P.underlying kt=some .string)(hb:w.heap[b]?=some (.map es clk))
    (hf:(∃ i,Instr.findNow .string (.string s) es.toList 0=some (some (i,v))∧found=true)∨(Instr.findNow .string (.string s) es.toList 0=some none∧found=false∧(zeroValue et).run P w=.ok v w)) :
    (Instr.lookup mty (.map (some b)) (.string s) ok).run P w=.ok (if ok then .tuple #[v,.bool found] else v) w:=by
  have hc:(Instr.checkKey es.isEmpty 10000 kt (.string s)).run P w=.ok () w:=MapKept.run_checkKey (k:=.string s) hk (by simp[MapKept.IsKey]) _ 9999
  rcases hf with ⟨i,hf,rfl⟩|⟨hf,rfl,hz⟩
  · simp[Instr.lookup,run_underlying hm,MapKept.run_getObj_map hb,hc,MapKept.run_findKey hk hf,Result.andThen]
  · simp[Instr.lookup,run_underlying hm,MapKept.run_getObj_map hb,hc,MapKept.run_findKey hk hf,hz,Result.andThen]
theorem put_map {w:World}{b:Nat}{o o':Obj}(hb:w.heap[b]?=some o):Put b w { w with heap:=w.heap.setIfInBounds b o' }∧({ w with heap:=w.heap.setIfInBounds b o' }:World).heap[b]?=some o':=by
  have hlt:b<w.heap.size:=(Array.getElem?_eq_some_iff.1 hb).1;refine ⟨⟨rfl,rfl,rfl,by simp,fun c hc=>by show (w.heap.setIfInBounds b o')[c]?=_;rw[Array.getElem?_setIfInBounds_ne (Ne.symm hc)]⟩,?_⟩
  show (w.heap.setIfInBounds b o')[b]?=_
  rw[Array.getElem?_setIfInBounds_self_of_lt hlt]
def strQ (s t:ByteArray):Bool:=s.toList == t.toList
def strQn (s t:ByteArray):Bool:=!(s.toList == t.toList)
theorem strQ_t {s t:ByteArray}(h:strQ s t=true):s=t:=by
  have e:=eq_of_beq (show (s.toList == t.toList)=true from h);rw[Lib.toList_data,Lib.toList_data] at e
  cases s;cases t;congr 1;exact Array.toList_inj.1 e
theorem strQ_f {s t:ByteArray}(h:strQ s t=false):¬s=t:=fun e=>by
  subst e;have:strQ s s=true:=beq_self_eq_true _;rw[this] at h;cases h
theorem strQn_t {s t:ByteArray}(h:strQn s t=true):¬s=t:=strQ_f (by unfold strQn at h;unfold strQ;cases e:(s.toList == t.toList)<;>rw[e] at h<;>first|rfl|cases h)
theorem strQn_f {s t:ByteArray}(h:strQn s t=false):s=t:=strQ_t (by unfold strQn at h;unfold strQ;cases e:(s.toList == t.toList)<;>rw[e] at h<;>first|rfl|cases h)
section laws
variable {P:Program} {n:Nat} {N R:Po} {X:Nat→Po} {ops:Array Oper} {k:Nat} {Γ:Env} {w:World} {h:Hp} {w0:World} {h0:Hp} {B:List Bx} {Rs:List Rw} {F:List (Hp→Prop)}
theorem wp_len {α:Type}{l:List α}{f:α→List Value}{sz e fo:Nat}{ds vs:List Value}(hf:∀ x,(f x).length=sz)(hk:e<l.length)(hle:fo+ds.length≤sz)(hB:vs=l.flatMap f):0+e*sz+fo+ds.length≤vs.length:=by
  rw[hB,len_flat hf];have:(e+1)*sz≤l.length*sz:=Nat.mul_le_mul_right _ hk;rw[Nat.add_mul,Nat.one_mul] at this
  omega
theorem wp_set {α:Type}{l:List α}{f:α→List Value}{sz e fo j:Nat}{d x:α}{ds:List Value}(hf:∀ x,(f x).length=sz)(hk:e<l.length)(hle:fo+ds.length≤sz)(hB:(bxAt B j).vs=l.flatMap f)(hx:putAt (f (l.getD e d)) fo ds=f x):setB B j (0+e*sz+fo) ds=setV B j ((l.set e x).flatMap f):=by
  unfold setB setV
  rw[hB,Nat.zero_add,putAt_part hf d l e x hk hle hx]
theorem lWp {α:Type}(j e fo:Nat)(ds:List Value)(l:List α)(f:α→List Value)(sz:Nat)(d x:α)(s:SS w0 h0 w h B Rs F)(hk:e<l.length)(H:∀ w',SS w0 h0 w' h (setV B j ((l.set e x).flatMap f)) Rs F→LG P n N R X ops (k+1) Γ w')
    (hx:putAt (f (l.getD e d)) fo ds=f x:=by rfl)(hf:∀ x,(f x).length=sz:=by intro _;rfl)(ho:Nat.ble (fo+ds.length) sz=true:=by kernel_rfl)(hj:decide (j<B.length)=true:=by kernel_rfl)(hB:(bxAt B j).vs=l.flatMap f:=by kernel_rfl)(hc:cS ops Γ k=true:=by kernel_rfl)
    (he:evalW P (execOp (ev Γ) (opAt ops k))=some (.skip,mkl (bxAt B j).b (0+e*sz+fo) ds):=by kernel_rfl):LG P n N R X ops k Γ w:=by
  have hle:=Nat.le_of_ble_eq_true ho;refine LG.put j (0+e*sz+fo) ds s.st s.g0 (cS_1 hc).1 (cS_1 hc).2 (by rw[Bool.and_eq_true];exact ⟨hj,decide_eq_true (wp_len hf hk hle hB)⟩) he (fun w' p s'=>H w' ?_);rw[←wp_set hf hk hle hB hx];exact s.put0 (oT hj) p s' (setB_b (oT hj))
theorem tWp {M:Ms}{k0:Nat}{L:Array Bool}{α:Type}(i j e fo:Nat)(ds:List Value)(l:List α)(f:α→List Value)(sz:Nat)(d x:α)(s:SS w0 h0 w h B Rs F)(hk:e<l.length)(H:∀ w',SS w0 h0 w' h (setV B j ((l.set e x).flatMap f)) Rs F→AG M P n N R X ops k0 (L.setIfInBounds i true) Γ w')
    (hx:putAt (f (l.getD e d)) fo ds=f x:=by rfl)(hf:∀ x,(f x).length=sz:=by intro _;rfl)(ho:Nat.ble (fo+ds.length) sz=true:=by kernel_rfl)(hj:decide (j<B.length)=true:=by kernel_rfl)(hB:(bxAt B j).vs=l.flatMap f:=by kernel_rfl)(hc:cTs ops k0 L Γ i=true:=by kernel_rfl)
    (he:evalW P (execOp (ev Γ) (opAt ops i))=some (.skip,mkl (bxAt B j).b (0+e*sz+fo) ds):=by kernel_rfl)(hz:∀ K bs,M.z=some (K,bs)→K≤(bxAt B j).b∨(bxAt B j).b∈bs:=by intro _ _ e;cases e):AG M P n N R X ops k0 L Γ w:=by
  have hle:=Nat.le_of_ble_eq_true ho;refine T.put i j (0+e*sz+fo) ds s.st s.g0 (cTs_1 hc).1 (cTs_1 hc).2 (by rw[Bool.and_eq_true];exact ⟨hj,decide_eq_true (wp_len hf hk hle hB)⟩) he (fun w' p s'=>H w' ?_) hz;rw[←wp_set hf hk hle hB hx];exact s.put0 (oT hj) p s' (setB_b (oT hj))
theorem SS.pokeJ (s:SS w0 h0 w h B [] F){b:Nat}{w':World}(hj:h[b]?=some junk)(hl:h0.size≤b)(hn:∀ x∈B,x.b≠b)(p:Put b w w'):SS w0 h0 w' h B [] F :=
  ⟨s.g0,⟨s.st.up.put p hj hl s.g0.size,fun x hx=>(p.blk _ (hn x hx)).trans (s.st.own x hx),s.st.jk,s.st.lo,s.st.nd⟩,fun _ hx=>(by cases hx),.nil,s.mo,s.f⟩
theorem lMk (t:Nat)(s:SS w0 h0 w h B Rs F)(H:∀ b w' h',SS w0 h0 w' h' B Rs F→MapJ h0 B w' h' b [] 0→LG P n N R X ops (k+1) ((t,.map (some b))::Γ) w')(hc:cL ops Γ k t n=true:=by kernel_rfl)
    (hr:(execOp (ev Γ) (opAt ops k)).run P w=.ok (.value (.map (some w.heap.size))) (w.alloc (.map #[] 0)):=by kernel_rfl):LG P n N R X ops k Γ w:=by
  have u:Up w h (w.alloc (.map #[] 0)) (h.push junk):=Up.allocAny s.g _ _ (.inr rfl);refine LG.val t _ _ (cL_1 hc).1 (cL_1 hc).2 hr (H _ _ _ (s.step u) ⟨?_,?_,?_,fun x hx e=>?_⟩)
  · rw[heap_alloc];exact Array.getElem?_push_size
  · rw[s.g.size];exact Array.getElem?_push_size
  · rw[s.g.size];exact s.st.sz
  · have:=lt_of_some (s.st.jk x hx)
    have:=s.g.size
    omega
theorem lMu {b clk:Nat}{es:List MapEntry}(mty kt et:TypeId)(ky:ByteArray)(val:Value)(s:SS w0 h0 w h B [] F)(m:MapJ h0 B w h b es clk)(H:∀ w',SS w0 h0 w' h B [] F→MapJ h0 B w' h b (es++[⟨.string ky,val,clk⟩]) (clk+1)→LG P n N R X ops (k+1) Γ w')
    (hc:cS ops Γ k=true:=by kernel_rfl)(hx:execOp (ev Γ) (opAt ops k)=(do Instr.mapUpdate mty (.map (some b)) (.string ky) val;pure .skip):=by kernel_rfl)(hu:P.underlying mty=some (.map kt et):=by kernel_rfl)(hk:P.underlying kt=some .string:=by kernel_rfl)(hf:Instr.findNow .string (.string ky) es 0=some none:=by kernel_rfl):LG P n N R X ops k Γ w:=by
  have hr:=run_upd w (val:=val) hu hk m.obj hf;obtain ⟨p,ho⟩:=put_map (o':=.map (es.toArray.push { key:=.string ky,val:=val,born:=clk }) (clk+1)) m.obj;refine LG.store _ (cS_1 hc).1 (cS_1 hc).2 ?_ (H _ (s.pokeJ m.jk m.lo m.nb p) ⟨?_,m.jk,m.lo,m.nb⟩)
  · rw[hx];simp[hr,Result.andThen]
  · rw[ho];simp
theorem lMo {b clk i:Nat}{es:List MapEntry}(mty kt et:TypeId)(ky:ByteArray)(val v0:Value)(es2:List MapEntry)(s:SS w0 h0 w h B [] F)(m:MapJ h0 B w h b es clk)(H:∀ w',SS w0 h0 w' h B [] F→MapJ h0 B w' h b es2 clk→LG P n N R X ops (k+1) Γ w')
    (hc:cS ops Γ k=true:=by kernel_rfl)(hx:execOp (ev Γ) (opAt ops k)=(do Instr.mapUpdate mty (.map (some b)) (.string ky) val;pure .skip):=by kernel_rfl)(hu:P.underlying mty=some (.map kt et):=by kernel_rfl)(hk:P.underlying kt=some .string:=by kernel_rfl)(hf:Instr.findNow .string (.string ky) es 0=some (some (i,v0)):=by kernel_rfl)
    (he:((es.toArray[i]?).map (·.key)).getD (.string ky)=.string ky:=by kernel_rfl)(h2:es.toArray.modify i (fun e=>{ e with key:=.string ky,val:=val })=es2.toArray:=by kernel_rfl):LG P n N R X ops k Γ w:=by
  have hr:=run_updo w (val:=val) hu hk m.obj hf he;obtain ⟨p,ho⟩:=put_map (o':=.map (es.toArray.modify i fun e=>{ e with key:=.string ky,val:=val }) clk) m.obj;refine LG.store _ (cS_1 hc).1 (cS_1 hc).2 ?_ (H _ (s.pokeJ m.jk m.lo m.nb p) ⟨?_,m.jk,m.lo,m.nb⟩)
  · rw[hx];simp[hr,Result.andThen]
  · rw[ho,h2]
theorem lMr (t:Nat){b:Nat}{es:List MapEntry}(mty kt et:TypeId)(ky:ByteArray)(ok:Bool)(v:Value)(found:Bool)(s:SS w0 h0 w h B Rs F)(m:MapS h b es)(H:LG P n N R X ops (k+1) ((t,if ok then .tuple #[v,.bool found] else v)::Γ) w)(hc:cL ops Γ k t n=true:=by kernel_rfl)
    (hx:execOp (ev Γ) (opAt ops k)=(do pure (.value (←Instr.lookup mty (.map (some b)) (.string ky) ok))):=by kernel_rfl)(hu:P.underlying mty=some (.map kt et):=by kernel_rfl)(hk:P.underlying kt=some .string:=by kernel_rfl)
    (hf:(∃ i,Instr.findNow .string (.string ky) es 0=some (some (i,v))∧found=true)∨(Instr.findNow .string (.string ky) es 0=some none∧found=false∧∀ w,(zeroValue et).run P w=.ok v w)):LG P n N R X ops k Γ w:=by
  obtain ⟨clk,hm⟩:=m.w s.g;refine LG.val t _ w (cL_1 hc).1 (cL_1 hc).2 ?_ H;rw[hx];have hr:=run_look w ok (v:=v) (found:=found) hu hk hm (hf.imp id fun h=>⟨h.1,h.2.1,h.2.2 w⟩)
  simp[hr,Result.andThen]
theorem lMl (t:Nat){b:Nat}{es:List MapEntry}(mty ty kt et:TypeId)(s:SS w0 h0 w h B Rs F)(m:MapS h b es)(H:LG P n N R X ops (k+1) ((t,.int .i64 (es.length:Nat))::Γ) w)(hc:cL ops Γ k t n=true:=by kernel_rfl)
    (hx:execOp (ev Γ) (opAt ops k)=(do pure (.value (←Builtin.len_ #[mty] ty #[.map (some b)]))):=by kernel_rfl)(hu:P.underlying mty=some (.map kt et):=by kernel_rfl):LG P n N R X ops k Γ w:=by
  obtain ⟨clk,hm⟩:=m.w s.g;refine LG.val t _ w (cL_1 hc).1 (cL_1 hc).2 ?_ H;rw[hx]
  have hr:(Builtin.len_ #[mty] ty #[.map (some b)]).run P w=.ok (goInt es.toArray.size) w:=by
    simp[Builtin.len_,run_underlying hu,MapKept.run_getObj_map hm,Result.andThen]
  simp[hr,Result.andThen,goInt]
theorem SS.pubMap {b clk:Nat}{es:List MapEntry}(s:SS w0 h0 w h B [] F)(m:MapJ h0 B w h b es clk):∃ h',SS w0 h0 w h' B [] F∧MapS h' b es:=by
  have hlt:=lt_of_some m.jk;refine ⟨h.setIfInBounds b (.map es.toArray clk),⟨s.g0,⟨⟨s.st.up.ext,⟨by simp;exact s.st.up.gr.size,fun c hc=>?_⟩,⟨by simp;exact s.st.up.g.size,fun c=>?_⟩⟩,s.st.own,fun x hx=>?_,s.st.lo,s.st.nd⟩,fun _ hx=>(by cases hx),.nil,s.mo,s.f.gw s.mo ⟨by simp,fun c _=>?_⟩⟩,clk,?_⟩
  · have:=m.lo
    rw[Array.getElem?_setIfInBounds_ne oM];exact s.st.up.gr.blk c hc
  · by_cases e:b=c
    · subst e;left;rw[Array.getElem?_setIfInBounds_self_of_lt hlt];exact m.obj.symm
    · rw[Array.getElem?_setIfInBounds_ne e];exact s.st.up.g.blk c
  · rw[Array.getElem?_setIfInBounds_ne (Ne.symm (m.nb x hx))];exact s.st.jk x hx
  · by_cases e:b=c
    · subst e;exact .inr m.jk
    · left;rw[Array.getElem?_setIfInBounds_ne e]
  · rw[Array.getElem?_setIfInBounds_self_of_lt hlt]
end laws
theorem getD_kid {α:Type}{l:List α}{d x:α}{k i:Nat}(hk:k<l.length):(l.set k x).getD i d=if i=k then x else l.getD i d:=by
  rw[List.getD_eq_getElem?_getD,List.getElem?_set]
  by_cases e:k=i
  · subst e;rw[if_pos rfl,if_pos hk,if_pos rfl];rfl
  · rw[if_neg e,if_neg (fun h=>e h.symm),←List.getD_eq_getElem?_getD]
def TmsU (d:Nat)(h:Hp)(k:Nat)(ps:List PTm)(ts:List Tm):Prop:=∀ i,i<k→TmH d h (ps.getD i ptm0) (ts.getD i tm0)
theorem TmsU.gw {d:Nat}{h h':Hp}{k:Nat}{ps:List PTm}{ts:List Tm}(x:TmsU d h k ps ts)(u:Gw h h'):TmsU d h' k ps ts:=fun i hi=>(x i hi).gw u
theorem TmsU.set {d:Nat}{h:Hp}{k:Nat}{ps:List PTm}{ts:List Tm}{p:PTm}(x:TmsU d h k ps ts)(hk:k<ps.length)(y:TmH d h p (ts.getD k tm0)):TmsU d h (k+1) (ps.set k p) ts:=fun i hi=>by
  rw[getD_kid hk]
  by_cases e:i=k
  · subst e;rw[if_pos rfl];exact y
  · rw[if_neg e];exact x i oM
theorem Tms.of_u {d:Nat}{h:Hp}{k:Nat}{ps:List PTm}{ts:List Tm}(hl:ps.length=ts.length)(hk:ts.length≤k)(x:TmsU d h k ps ts):Tms d h ps ts:=⟨hl,fun i hi=>x i oM⟩
theorem sumN_mono (f:Nat→Nat){a b:Nat}(h:a≤b):sumN f a≤sumN f b:=by
  induction h with
  | refl=>exact Nat.le_refl _
  | step _ ih=>exact Nat.le_trans ih (Nat.le_add_right _ _)
def wmul (op n:Int):Nat:=if op=11 then 2 else if op=8 then timesN n else 1
theorem wmul_pos (op n:Int):1≤wmul op n:=by
  unfold wmul timesN
  split
  · omega
  · split
    · split<;>omega
    · omega
theorem wgt_0 {d:Nat}{op n:Int}{q:Rat}{s:ByteArray}{ks:List Tm}(h:ks.length=0):wgt (d+1) (.mk op n q s ks)=1:=if_pos h
theorem wgt_s {d:Nat}{op n:Int}{q:Rat}{s:ByteArray}{ks:List Tm}(h:ks.length≠0):wgt (d+1) (.mk op n q s ks)=wmul op n*sumN (fun i=>wgt d (ks.getD i tm0)) ks.length:=if_neg h
theorem wgt_ge {d:Nat}{op n:Int}{q:Rat}{s:ByteArray}{ks:List Tm}(h:ks.length≠0):sumN (fun i=>wgt d (ks.getD i tm0)) ks.length≤wgt (d+1) (.mk op n q s ks):=by
  rw[wgt_s h];exact Nat.le_mul_of_pos_left _ (wmul_pos op n)
theorem min_mul_ {m s:Nat}(h:1≤m):min (m*min s 1001) 1001=min (m*s) 1001:=by
  rcases Nat.le_total s 1001 with e|e
  · rw[Nat.min_eq_left e]
  · rw[Nat.min_eq_right e,Nat.min_eq_right (Nat.le_trans e (Nat.le_mul_of_pos_left _ h)),Nat.min_eq_right (Nat.le_mul_of_pos_left _ h)]
theorem tArity2 (op:Int)(w:World)(h:Hp)(g:G w h):CV 94 #[iV op] w h (iV (ari op)):=by
 have hs:=sS g;refine go Tryz.func94 [(0,iV op)] rfl (cSLlL hs [.v 2 (iV 0)] (lNcQ (cSLlL hs [.m 3 0] (lNkZ (cQ (cSL ?_))))));cases hb1:((op:Int) == (1:Int))
 ·
  have phb1:=neOfBeq hb1;refine lB 5 hb1 (lL hs [.m 4 5] (lNIF (kQ ?_)));cases hb2:((op:Int) == (2:Int))
  ·
   have phb2:=neOfBeq hb2;refine lB 6 hb2 (lL hs [.m 4 6] (lNIF (cQ (cSL ?_))));cases hb3:((op:Int) == (7:Int))
   ·
    have phb3:=neOfBeq hb3;refine lB 8 hb3 (lL hs [.m 7 8] (lNIF (cSL ?_)));cases hb4:((op:Int) == (8:Int))
    ·
     have phb4:=neOfBeq hb4;refine lB 9 hb4 (lL hs [.m 7 9] (lNIF (cSL ?_)));cases hb5:((op:Int) == (9:Int))
     ·
      have phb5:=neOfBeq hb5;refine lB 10 hb5 (lL hs [.m 7 10] (lNIF (cSL ?_)));cases hb6:((op:Int) == (10:Int))
      ·
       have phb6:=neOfBeq hb6;refine lB 11 hb6 (lL hs [.m 7 11] (lNIF (kQ ?_)));cases hb7:((op:Int) == (11:Int))
       ·
        have phb7:=neOfBeq hb7;refine lB 12 hb7 (lL hs [.m 7 12] (lNIF (cQ (cSL ?_))));cases hb8:((op:Int) == (3:Int))
        ·
         have phb8:=neOfBeq hb8;refine lB 14 hb8 (lL hs [.m 13 14] (lNIF (cSL ?_)));cases hb9:((op:Int) == (4:Int))
         ·
          have phb9:=neOfBeq hb9;refine lB 15 hb9 (lL hs [.m 13 15] (lNIF (cSL ?_)));cases za:((op:Int) == (5:Int))
          ·
           have ze:=neOfBeq za;refine lB 16 za (lL hs [.m 13 16] (lNIF (cSL ?_)));cases zb:((op:Int) == (6:Int))
           ·
            have zf:=neOfBeq zb;refine lB 17 zb (lL hs [.m 13 17] (lNIF (cSL ?_)));cases zc:((op:Int) == (12:Int))
            ·
             have zg:=neOfBeq zc;refine lB 18 zc (lL hs [.m 13 18] (lNIF (kQ ?_)));cases zd:((op:Int) == (13:Int))
             ·
              have zi:=neOfBeq zd;exact lB 19 zd (lL hs [.m 13 19] (lNIF (cK (cSLlL hs [.v 2 (iV (-1))] (lNkXr hs [] (iV (-1)) (congrArg (Value.int .i64) (by have:=ari_cases op;omega)))))))
             have zi:=eq_of_beq zd;exact lB 19 zd (lL hs [.m 13 19] (lNIT (cSLlL hs [.v 2 (iV 2)] (lNkXr hs [] (iV 2) (congrArg (Value.int .i64) (by have:=ari_cases op;omega))))))
            have zg:=eq_of_beq zc;exact lB 18 zc (lL hs [.m 13 18] (lNIT (cK (cIT (cSLlL hs [.v 2 (iV 2)] (lNkXr hs [] (iV 2) (congrArg (Value.int .i64) (by have:=ari_cases op;omega))))))))
           have zf:=eq_of_beq zb;exact lB 17 zb (lL hs [.m 13 17] (lNIT (cK (cIT (cSLlL hs [.v 2 (iV 2)] (lNkXr hs [] (iV 2) (congrArg (Value.int .i64) (by have:=ari_cases op;omega))))))))
          have ze:=eq_of_beq za;exact lB 16 za (lL hs [.m 13 16] (lNIT (cK (cIT (cSLlL hs [.v 2 (iV 2)] (lNkXr hs [] (iV 2) (congrArg (Value.int .i64) (by have:=ari_cases op;omega))))))))
         have phb9:=eq_of_beq hb9;exact lB 15 hb9 (lL hs [.m 13 15] (lNIT (cK (cIT (cSLlL hs [.v 2 (iV 2)] (lNkXr hs [] (iV 2) (congrArg (Value.int .i64) (by have:=ari_cases op;omega))))))))
        have phb8:=eq_of_beq hb8;exact lB 14 hb8 (lL hs [.m 13 14] (lNIT (cK (cIT (cSLlL hs [.v 2 (iV 2)] (lNkXr hs [] (iV 2) (congrArg (Value.int .i64) (by have:=ari_cases op;omega))))))))
       have phb7:=eq_of_beq hb7;exact lB 12 hb7 (lL hs [.m 7 12] (lNIT (cSLlL hs [.v 2 (iV 1)] (lNkXr hs [] (iV 1) (congrArg (Value.int .i64) (by have:=ari_cases op;omega))))))
      have phb6:=eq_of_beq hb6;exact lB 11 hb6 (lL hs [.m 7 11] (lNIT (cK (cIT (cSLlL hs [.v 2 (iV 1)] (lNkXr hs [] (iV 1) (congrArg (Value.int .i64) (by have:=ari_cases op;omega))))))))
     have phb5:=eq_of_beq hb5;exact lB 10 hb5 (lL hs [.m 7 10] (lNIT (cK (cIT (cSLlL hs [.v 2 (iV 1)] (lNkXr hs [] (iV 1) (congrArg (Value.int .i64) (by have:=ari_cases op;omega))))))))
    have phb4:=eq_of_beq hb4;exact lB 9 hb4 (lL hs [.m 7 9] (lNIT (cK (cIT (cSLlL hs [.v 2 (iV 1)] (lNkXr hs [] (iV 1) (congrArg (Value.int .i64) (by have:=ari_cases op;omega))))))))
   have phb3:=eq_of_beq hb3;exact lB 8 hb3 (lL hs [.m 7 8] (lNIT (cK (cIT (cSLlL hs [.v 2 (iV 1)] (lNkXr hs [] (iV 1) (congrArg (Value.int .i64) (by have:=ari_cases op;omega))))))))
  have phb2:=eq_of_beq hb2;exact lB 6 hb2 (lL hs [.m 4 6] (lNIT (cSLlL hs [.v 2 (iV 0)] (lNkXr hs [] (iV 0) (congrArg (Value.int .i64) (by have:=ari_cases op;omega))))))
 have phb1:=eq_of_beq hb1;exact lB 5 hb1 (lL hs [.m 4 5] (lNIT (cK (cIT (cSLlL hs [.v 2 (iV 0)] (lNkXr hs [] (iV 0) (congrArg (Value.int .i64) (by have:=ari_cases op;omega))))))))
theorem tTimes (n:Int)(h0 : -12≤n)(h1:n≤12)(w:World)(h:Hp)(g:G w h):CV 95 #[iV n] w h (nV (timesN n)):=by
 have hs:=sS g;refine go Tryz.func95 [(0,iV n)] rfl (cSLlL hs [.v 2 (iV 0)] (lNcQ (cSLlL hs [.m 3 0] ?_)));cases hb1:(decide ((n:Int)≤(-1073741824:Int)))
 ·
  have phb1:=oF hb1;refine lB 4 hb1 (lL hs [.m 5 4,.m 6 0] ?_);cases hb2:(decide ((1073741824:Int)≤(n:Int)))
  ·
   have phb2:=oF hb2;refine lB 7 hb2 (lL hs [.v 8 qF] (lNIF (cK (cSLlL hs [.m 9 0,.m 10 0] (lI 11 (0-n) ?_)))));refine lV 12 (iV (max (max (n:Int) (0-n:Int)) (1:Int))) ?_ (hr:=rint (n:=(if (1:Int)>(if (0-n:Int)>(n:Int) then (0-n:Int) else (n:Int)) then (1:Int) else (if (0-n:Int)>(n:Int) then (0-n:Int) else (n:Int)))) kR (by simp only[imax2]));exact lL hs [.m 2 12] (lNkXr hs [] (iV (max (max (n:Int) (0-n:Int)) (1:Int))) (congrArg (Value.int .i64) (by unfold timesN;(repeat' split)<;>omega)))
  have phb2:=oT hb2;exact lB 7 hb2 (lL hs [.v 8 qT] (lNIT (cSLlL hs [.v 2 (iV 1073741824)] (lNkXr hs [] (iV 1073741824) (congrArg (Value.int .i64) (by unfold timesN;(repeat' split)<;>omega))))))
 have phb1:=oT hb1;refine lB 4 hb1 (lL hs [.m 5 4] (lG 6 ?_));exact lG 7 (lL hs [.v 8 qT] (lNIT (cSLlL hs [.v 2 (iV 1073741824)] (lNkXr hs [] (iV 1073741824) (congrArg (Value.int .i64) (by unfold timesN;(repeat' split)<;>omega))))))
theorem tDeeperS  (sm:ByteArray→Prop)(d:Nat)(ih:∀ (p:PTm) (t:Tm) (most:Int) (w:World) (h:Hp),G w h→TmH d h p t→SmT sm d t→(d:Int)≤most→most≤1000→Calls Tryz.prog 55 #[ptv p,iV most] w (Ret w h (fun v _=>v=.bool false)))(op n:Int)(q:Rat)(s:ByteArray)(A:Option Addr)(c:Nat)(ps:List PTm)(ks:List Tm)(hc:ps.length≤c)(hlp:ps.length≤3)(hk3:ks.length≤3)(hop : -1000≤op∧op≤1000)(hn : -1000≤n∧n≤1000)(hq:LQ 1 q)(hsm:sm s)(hW:∀ i,i<ks.length→SmT sm d (ks.getD i tm0))(most:Int)(hm:((d+1:Nat):Int)≤most)(hm2:most≤1000)(w:World)(h:Hp)(g:G w h)(hK:SlO 9 ptc ptm0 h A ps)(hKs:Tms d h ps ks):CV 55 #[pW op n q s A ps.length c,iV most] w h (.bool false):=by
 have hs:=(((sS g).aS hK).add (K:=fun h_=>Tms d h_ ps ks) hKs);have hln:=(hs.f.1).len;refine go Tryz.func55 [(0,pW op n q s A ps.length c),(1,iV most)] rfl (cSL (lA 2 61 (pG op n q s A ps.length c) hs (fun b1 w2 h3 hs=>lL hs [.v 4 qF] (lNcQ (cSLlL hs [.m 7 1] ?_)))));cases hb4:(decide ((most:Int)<(1:Int)))
 ·
  have phb4:=oF hb4;refine lB 8 hb4 (lNIF (cK (cQ (cSLlL hs [.v 9 (qP b1 8),.o 10 (qS A ps.length c) 0 8 1,.v 11 (nV ps.length),.v 12 (iV 0)] (lNkZ ?_)))));refine cTo _ (CG.loop (fun μ_ Γ w_=>∃ (k:Nat) (h_:Hp),μ_=ps.length-k∧Γ=[(1,iV most),(10,qS A ps.length c),(11,nV ps.length),(12,nV k)]∧SS w h w_ h_ [⟨b1,61,pG op n q s A ps.length c⟩] [] [fun h_=>Tms d h_ ps ks,fun h_=>SlO 9 ptc ptm0 h_ A ps]∧k≤ps.length) _ ⟨0,h3,rfl,rfl,hs.to _ _,Nat.zero_le _⟩ ?_);rintro _ _ w5 ⟨k,h6,hm7,rfl,hs,hk⟩;refine cSL ?_;cases hb8:(decide ((k:Int)<(ps.length:Int)))
  ·
   have phb8:=oF hb8;refine lB 13 hb8 (lNcQ (cIF (CG.exit ?_)))
   show CG _ _ _ _ _ _ _ _
   exact cSLlL hs [.v 4 qF] (lNkXr hs [] qF rfl)
  have phb8:=oT hb8;refine lB 13 hb8 (lNcQ (cIT (cK (cQ (kZ (cSL (lX 14 A ps.length c 9 (k:Nat) k ((hs.f.2.1).ok oM) ?_)))))));refine lH 15 (pX (ps.getD k ptm0)) hs ((hs.f.2.1).el k oM) (lA 6 61 ([iV 0,iV 0,qF,uV 0,eS,uV 0,eS,eS,sZ]) hs (fun b9 _ _ hs=>lP 0 0 (pC (ps.getD k ptm0)) hs (fun _ hs=>lNS (lL hs [.o 16 (pX (ps.getD k ptm0)) 0 0 9,.m 17 1] (lI 18 (most-1) ?_)))));refine lCval 19 hs (ih (ps.getD k ptm0) (ks.getD k tm0) (most-1) _ _ hs.g ((hs.f.1).at_ k oM) (hW k oM) oM oM) (fun _ za hs=>lNIF (cK (kQ (lIn 20 ((k:Nat)+1) (k+1) ?_))));refine lL hs [.m 12 20] (lD ?_);intro a_ ka;replace hs:=hs.drop 1 0;refine ⟨_,_,?_,⟨k+1,za,rfl,rfl,hs.to _ _,oM⟩,ka.to _ kR⟩
  omega
 have phb4:=oT hb4;refine lB 8 hb4 (lNIT (cSLlL hs [.v 4 qT] (lN (kX ?_))))
 exfalso;omega
theorem tDeeper (sm:ByteArray→Prop):∀ (d:Nat) (p:PTm) (t:Tm) (most:Int) (w:World) (h:Hp),G w h→TmH d h p t→SmT sm d t→(d:Int)≤most→most≤1000→Calls Tryz.prog 55 #[ptv p,iV most] w (Ret w h (fun v _=>v=.bool false))
  | 0,_,_,_,_,_,_,x,_,_,_=>x.elim
  | d+1,p,t,most,w,h,g,x,wf,hm,hm2=>by
    obtain ⟨op,n,q,s,A,c,ps,ks,rfl,rfl,hc,hK,hKs⟩:=x.open;obtain ⟨s1,s2,s3,s4,s5,s6⟩:=wf;have s1_:ks.length≤3:=s1;exact tDeeperS sm d (fun p t most w h=>tDeeper sm d p t most w h) op n q s A c ps ks hc (by have:=hKs.len;omega) s1 s2 s3 s4 s5 s6 most hm hm2 w h g hK hKs
theorem tFormedS  (isb:ByteArray→Bool)(sm:ByteArray→Prop)(hIs:∀ s,sm s→∀ (w:World) (h:Hp),G w h→Calls Tryz.prog 54 #[.string s] w (Ret w h (fun v _=>∃ b,v=.bool b∧b=isb s)))(d:Nat)(ih:∀ (p:PTm) (t:Tm) (w:World) (h:Hp),G w h→TmH d h p t→SmT sm d t →  Calls Tryz.prog 56 #[ptv p] w (Ret w h (fun v _=>∃ bb,v=.bool bb∧(bb=true↔WfT (fun s=>isb s=true) d t))))(op n:Int)(q:Rat)(s:ByteArray)(A:Option Addr)(c:Nat)(ps:List PTm)(ks:List Tm)(hc:ps.length≤c)(hlp:ps.length≤3)(hk3:ks.length≤3)(hop : -1000≤op∧op≤1000)(hn : -1000≤n∧n≤1000)(hq:LQ 1 q)(hsm:sm s)(hW:∀ i,i<ks.length→SmT sm d (ks.getD i tm0))(w:World)(h:Hp)(g:G w h)(hK:SlO 9 ptc ptm0 h A ps)(hKs:Tms d h ps ks):CR 56 #[pW op n q s A ps.length c] w h (fun v _=>∃ bb,v=.bool bb∧(bb=true↔WfT (fun s=>isb s=true) (d+1) (.mk op n q s ks))):=by
 have hs:=(((sS g).aS hK).add (K:=fun h_=>Tms d h_ ps ks) hKs);have hln:=(hs.f.1).len;have hsg:q.num.sign=0↔q.num=0:=Int.sign_eq_zero_iff_zero;refine go Tryz.func56 [(0,pW op n q s A ps.length c)] rfl (cSL (lA 1 61 (pG op n q s A ps.length c) hs (fun b1 w2 h3 hs=>lL hs [.v 2 qF] (lNcQ (cQ (cR 7 [] mixed hs al_nil ?_))))));refine eV 0 5 (pB b1) (eO 1 6 [(0,0,1)] (iV op) hs (eV 3 8 (qP b1 8) (eO 4 9 [(0,8,1)] (qS A ps.length c) hs (eV 5 10 (nV ps.length) (eCval 2 7 hs (fun _ _ hs=>tArity2 op _ _ hs.g) (fun w4 h5 hs=>?_))))));cases hb6:((ari op:Int) != (ps.length:Int))
 ·
  have phb6:=eqOfBne hb6;refine eB 6 11 hb6 (eD0 hs (fun w7 h8 hs=>?_));refine tN (cIF (cK (cQ (CG.join (fun Γ w_=>∃ (zm:Bool) (h_:Hp),Γ=[(1,pB b1),(2,qF),(20,.bool zm)]∧SS w h w_ h_ [⟨b1,61,pG op n q s A ps.length c⟩] [] [fun h_=>Tms d h_ ps ks,fun h_=>SlO 9 ptc ptm0 h_ A ps]∧(zm=true→¬(op=1∨q.num=0))∧(zm=false→(op=1∨q.num=0))) ?_ ?_))))
  ·
   refine kQ (lL hs [.v 12 (pB b1),.o 13 (iV op) 0 0 1] ?_);cases hb9:((op:Int) != (1:Int))
   ·
    have phb9:=eqOfBne hb9;refine lB 14 hb9 (lL hs [.m 15 14] (lG 16 ?_));refine lG 17 (lG 18 (lG 19 (lL hs [.v 20 qF] (lD ?_))));intro a_ ka;exact ⟨_,⟨false,h8,rfl,hs.to _ _,(fun h_=>absurd h_ kD),(fun _=>by omega)⟩,ka.to _ kR⟩
   have phb9:=neOfBne hb9;refine lB 14 hb9 (lL hs [.m 15 14,.v 16 (qP b1 2),.o 17 (qv q) 0 2 5] (lCval 18 hs (fSign q (hq.mono oM) _ _ hs.g) (fun _ zD hs=>?_)));cases za:((q.num.sign:Int) != (0:Int))
   ·
    have zs:=eqOfBne za;refine lB 19 za (lL hs [.v 20 qF] (lD ?_));intro a_ ka;exact ⟨_,⟨false,zD,rfl,hs.to _ _,(fun h_=>absurd h_ kD),(fun _=>by omega)⟩,ka.to _ kR⟩
   have zs:=neOfBne za;refine lB 19 za (lL hs [.v 20 qT] (lD ?_));intro a_ ka;exact ⟨_,⟨true,zD,rfl,hs.to _ _,(fun _=>by omega),(fun h_=>absurd h_ kD)⟩,ka.to _ kR⟩
  rintro _ _ ⟨zm,zE,rfl,hs,zH,hF20⟩;cases zb:(zm)
  ·
   try rw[zb] at hs
   try rw[zb]
   refine cIF (cK (cQ (CG.join (fun Γ w_=>∃ (zn:Bool) (h_:Hp),Γ=[(1,pB b1),(2,qF),(39,.bool zn)]∧SS w h w_ h_ [⟨b1,61,pG op n q s A ps.length c⟩] [] [fun h_=>Tms d h_ ps ks,fun h_=>SlO 9 ptc ptm0 h_ A ps]∧(zn=true→¬((op=2→isb s=true)∧(op≠2→s=⟨#[]⟩)))∧(zn=false→((op=2→isb s=true)∧(op≠2→s=⟨#[]⟩)))) ?_ ?_)))
   ·
    refine kQ (lL hs [.v 21 (pB b1),.o 22 (iV op) 0 0 1] ?_);cases zc:((op:Int) == (2:Int))
    ·
     have zt:=neOfBeq zc;refine lB 23 zc (lL hs [.m 24 23] (lG 25 ?_));refine lG 26 (lG 27 (lG 28 (lL hs [.v 29 qF,.m 30 29,.v 31 (pB b1),.o 32 (iV op) 0 0 1] ?_)));have zq:((op:Int) != (2:Int))=true:=bneT oM;have phb23:=neOfBne zq;refine lB 33 zq (lL hs [.m 34 33,.v 35 (qP b1 7),.o 36 (.string s) 0 7 1] ?_);cases zd:(strQn s (⟨#[]⟩))
     ·
      have zu:=strQn_f zd;refine lB 37 zd (lL hs [.v 38 qF,.v 39 qF] (lD ?_));intro a_ ka;exact ⟨_,⟨false,zE,rfl,hs.to _ _,(fun h_=>absurd h_ kD),(fun _=>⟨fun h_=>by first|exact hbi.symm.trans aM|exact absurd h_ oM,fun h_=>by first|assumption|exact absurd h_ oM⟩)⟩,ka.to _ kR⟩
     have zu:=strQn_t zd;refine lB 37 zd (lL hs [.v 38 qT,.v 39 qT] (lD ?_));intro a_ ka;exact ⟨_,⟨true,zE,rfl,hs.to _ _,(fun _ h_=>by first|exact Bool.noConfusion ((h_.1 oM).symm.trans (hbi.symm.trans aM))|exact absurd (h_.2 oM) aM),(fun h_=>absurd h_ kD)⟩,ka.to _ kR⟩
    have zt:=eq_of_beq zc;refine lB 23 zc (lL hs [.m 24 23,.v 25 (qP b1 7),.o 26 (.string s) 0 7 1] (lC 27 hs (hIs s hsm _ _ hs.g) ?_));rintro _ _ zG hs ⟨bi,rfl,hbi⟩;cases hb31:(bi)
    ·
     refine lL hs [.v 28 qT,.v 29 qT,.m 30 29] (lG 31 ?_);refine lG 32 (lG 33 (lG 34 (lG 35 (lG 36 (lG 37 (lG 38 (lL hs [.v 39 qT] (lD ?_))))))));intro a_ ka;exact ⟨_,⟨true,zG,rfl,hs.to _ _,(fun _ h_=>by first|exact Bool.noConfusion ((h_.1 oM).symm.trans (hbi.symm.trans aM))|exact absurd (h_.2 oM) aM),(fun h_=>absurd h_ kD)⟩,ka.to _ kR⟩
    refine lL hs [.v 28 qF,.v 29 qF,.m 30 29,.v 31 (pB b1),.o 32 (iV op) 0 0 1] ?_;have zr:((op:Int) != (2:Int))=false:=bneF oM;have phb34:=eqOfBne zr;refine lB 33 zr (lL hs [.m 34 33] (lG 35 ?_));refine lG 36 (lG 37 (lL hs [.v 38 qF,.v 39 qF] (lD ?_)));intro a_ ka;exact ⟨_,⟨false,zG,rfl,hs.to _ _,(fun h_=>absurd h_ kD),(fun _=>⟨fun h_=>by first|exact hbi.symm.trans aM|exact absurd h_ oM,fun h_=>by first|assumption|exact absurd h_ oM⟩)⟩,ka.to _ kR⟩
   rintro _ _ ⟨zn,zo,rfl,hs,zI,hF39⟩;cases ze:(zn)
   ·
    try rw[ze] at hs
    try rw[ze]
    refine cIF (cK (cQ (CG.join (fun Γ w_=>∃ (zp:Bool) (h_:Hp),Γ=[(1,pB b1),(2,qF),(57,.bool zp)]∧SS w h w_ h_ [⟨b1,61,pG op n q s A ps.length c⟩] [] [fun h_=>Tms d h_ ps ks,fun h_=>SlO 9 ptc ptm0 h_ A ps]∧(zp=true→¬((op=8∨n=0) ∧ -12≤n∧n≤12))∧(zp=false→((op=8∨n=0) ∧ -12≤n∧n≤12))) ?_ ?_)))
    ·
     refine kQ (lL hs [.v 40 (pB b1),.o 41 (iV op) 0 0 1] ?_);cases zf:((op:Int) != (8:Int))
     ·
      have zv:=eqOfBne zf;refine lB 42 zf (lL hs [.m 43 42] (lG 44 ?_));refine lG 45 (lG 46 (lL hs [.v 47 qF,.m 48 47,.v 49 (qP b1 1),.o 50 (iV n) 0 1 1] ?_));cases zg:(decide ((n:Int)<(-12:Int)))
      ·
       have zw:=oF zg;refine lB 51 zg (lL hs [.v 52 qF,.m 53 52,.v 54 (qP b1 1),.o 55 (iV n) 0 1 1] ?_);cases zi:(decide ((12:Int)<(n:Int)))
       ·
        have zx:=oF zi;refine lB 56 zi (lL hs [.v 57 qF] (lD ?_));intro a_ ka;exact ⟨_,⟨false,zo,rfl,hs.to _ _,(fun h_=>absurd h_ kD),(fun _=>by omega)⟩,ka.to _ kR⟩
       have zx:=oT zi;refine lB 56 zi (lL hs [.v 57 qT] (lD ?_));intro a_ ka;exact ⟨_,⟨true,zo,rfl,hs.to _ _,(fun _=>by omega),(fun h_=>absurd h_ kD)⟩,ka.to _ kR⟩
      have zw:=oT zg;refine lB 51 zg (lL hs [.v 52 qT,.m 53 52] (lG 54 ?_));refine lG 55 (lG 56 (lL hs [.v 57 qT] (lD ?_)));intro a_ ka;exact ⟨_,⟨true,zo,rfl,hs.to _ _,(fun _=>by omega),(fun h_=>absurd h_ kD)⟩,ka.to _ kR⟩
     have zv:=neOfBne zf;refine lB 42 zf (lL hs [.m 43 42,.v 44 (qP b1 1),.o 45 (iV n) 0 1 1] ?_);cases zj:((n:Int) != (0:Int))
     ·
      have zA:=eqOfBne zj;refine lB 46 zj (lL hs [.v 47 qF,.m 48 47,.v 49 (qP b1 1),.o 50 (iV n) 0 1 1] ?_);have ⟨zJ,phb50⟩:=dF (p:=(n:Int)<(-12:Int)) oM;refine lB 51 zJ (lL hs [.v 52 qF,.m 53 52,.v 54 (qP b1 1),.o 55 (iV n) 0 1 1] ?_);have ⟨zK,phb51⟩:=dF (p:=(12:Int)<(n:Int)) oM;refine lB 56 zK (lL hs [.v 57 qF] (lD ?_));intro a_ ka;exact ⟨_,⟨false,zo,rfl,hs.to _ _,(fun h_=>absurd h_ kD),(fun _=>by omega)⟩,ka.to _ kR⟩
     have zA:=neOfBne zj;refine lB 46 zj (lL hs [.v 47 qT,.m 48 47] (lG 49 ?_));refine lG 50 (lG 51 (lL hs [.v 52 qT,.m 53 52] (lG 54 ?_)));refine lG 55 (lG 56 (lL hs [.v 57 qT] (lD ?_)));intro a_ ka;exact ⟨_,⟨true,zo,rfl,hs.to _ _,(fun _=>by omega),(fun h_=>absurd h_ kD)⟩,ka.to _ kR⟩
    rintro _ _ ⟨zp,zM,rfl,hs,zL,hF57⟩;cases zk:(zp)
    ·
     try rw[zk] at hs
     try rw[zk]
     refine cIF (cK (cQ (cSLlL hs [.v 58 (qP b1 8),.o 59 (qS A ps.length c) 0 8 1,.v 60 (nV ps.length),.v 61 (iV 0)] (lNkZ ?_))));refine cTo _ (CG.loop (fun μ_ Γ w_=>∃ (k:Nat) (h_:Hp),μ_=ps.length-k∧Γ=[(59,qS A ps.length c),(60,nV ps.length),(61,nV k)]∧SS w h w_ h_ [⟨b1,61,pG op n q s A ps.length c⟩] [] [fun h_=>Tms d h_ ps ks,fun h_=>SlO 9 ptc ptm0 h_ A ps]∧k≤ps.length∧(∀ i,i<k→WfT (fun s=>isb s=true) d (ks.getD i tm0))) _ ⟨0,zM,rfl,rfl,hs.to _ _,Nat.zero_le _,(fun i hi=>absurd hi (Nat.not_lt_zero i))⟩ ?_);rintro _ _ _ ⟨k,_,hm61,rfl,hs,hk,hWk⟩;refine cSL ?_;cases zl:(decide ((k:Int)<(ps.length:Int)))
     ·
      have zB:=oF zl;refine lB 62 zl (lNcQ (cIF (CG.exit ?_)))
      show CG _ _ _ _ _ _ _ _
      exact cSLlL hs [.v 2 qT] (lNkXr hs [] qT (wf_tt ⟨by omega,hF20 aM,hF39 aM,hF57 aM⟩ hq (fun i hi=>hWk i oM)))
     have zB:=oT zl;refine lB 62 zl (lNcQ (cIT (cK (cQ (kZ (cSL (lX 63 A ps.length c 9 (k:Nat) k ((hs.f.2.1).ok oM) ?_)))))));refine lH 64 (pX (ps.getD k ptm0)) hs ((hs.f.2.1).el k oM) (lA 4 61 ([iV 0,iV 0,qF,uV 0,eS,uV 0,eS,eS,sZ]) hs (fun b63 _ _ hs=>lP 0 0 (pC (ps.getD k ptm0)) hs (fun _ hs=>lNS (lL hs [.o 65 (pX (ps.getD k ptm0)) 0 0 9] (lC 66 hs (ih (ps.getD k ptm0) (ks.getD k tm0) _ _ hs.g ((hs.f.1).at_ k oM) (hW k oM)) ?_)))));rintro _ _ zN hs ⟨bk,rfl,hbk⟩;cases hb69:(bk)
     ·
      exact lL hs [.v 67 qT] (lNIT (cSLlL hs [.v 2 qF] (lNkXr hs [] qF (wf_fk (k:=k) oM aM hbk))))
     refine lL hs [.v 67 qF] (lNIF (cK (kQ (lIn 68 ((k:Nat)+1) (k+1) ?_))));refine lL hs [.m 61 68] (lD ?_);intro a_ ka;replace hs:=hs.drop 1 0;refine ⟨_,_,?_,⟨k+1,zN,rfl,rfl,hs.to _ _,oM,(fun i hi=>by rcases Nat.lt_succ_iff_lt_or_eq.1 hi with h_|rfl;exact hWk i h_;exact hbk.1 aM)⟩,ka.to _ kR⟩
     omega
    try rw[zk] at hs
    try rw[zk]
    exact cIT (cSLlL hs [.v 2 qF] (lNkXr hs [] qF (wf_ff (fun h_=>zL aM h_.2.2.2))))
   try rw[ze] at hs
   try rw[ze]
   exact cIT (cSLlL hs [.v 2 qF] (lNkXr hs [] qF (wf_ff (fun h_=>zI aM h_.2.2.1))))
  try rw[zb] at hs
  try rw[zb]
  exact cIT (cSLlL hs [.v 2 qF] (lNkXr hs [] qF (wf_ff (fun h_=>zH aM h_.2.1))))
 have phb6:=neOfBne hb6;exact eB 6 11 hb6 (eD0 hs (fun _ _ hs=>tN (cIT (cSLlL hs [.v 2 qF] (lNkXr hs [] qF (wf_ff (fun h_=>absurd h_.1 oM)))))))
theorem tFormedT (isb:ByteArray→Bool)(sm:ByteArray→Prop)(hIs:∀ s,sm s→∀ (w:World) (h:Hp),G w h→Calls Tryz.prog 54 #[.string s] w (Ret w h (fun v _=>∃ b,v=.bool b∧b=isb s))):∀ (d:Nat) (p:PTm) (t:Tm) (w:World) (h:Hp),G w h→TmH d h p t→SmT sm d t →  Calls Tryz.prog 56 #[ptv p] w (Ret w h (fun v _=>∃ bb,v=.bool bb∧(bb=true↔WfT (fun s=>isb s=true) d t)))
  | 0,_,_,_,_,_,x,_=>x.elim
  | d+1,p,t,w,h,g,x,wf=>by
    obtain ⟨op,n,q,s,A,c,ps,ks,rfl,rfl,hc,hK,hKs⟩:=x.open;obtain ⟨s1,s2,s3,s4,s5,s6⟩:=wf;have s1_:ks.length≤3:=s1;exact tFormedS isb sm hIs d (fun p t w h=>tFormedT isb sm hIs d p t w h) op n q s A c ps ks hc (by have:=hKs.len;omega) s1 s2 s3 s4 s5 s6 w h g hK hKs
theorem tWeightS  (ok:ByteArray→Prop)(d:Nat)(ih:∀ (p:PTm) (t:Tm) (w:World) (h:Hp),G w h→TmH d h p t→WfT ok d t →  Calls Tryz.prog 57 #[ptv p,iV 1001] w (Ret w h (fun v _=>v=iV ((min (wgt d t) 1001:Nat):Int))))(op n:Int)(q:Rat)(s:ByteArray)(A:Option Addr)(c:Nat)(ps:List PTm)(ks:List Tm)(hc:ps.length≤c)(hlp:ps.length≤2)(hari:ari op=(ks.length:Nat))(hq0:op≠1→q=0)(hq:LQ 1 q)(hok:op=2→ok s)(hs0:op≠2→s=⟨#[]⟩)(hn0:op≠8→n=0)(hn1 : -12≤n)(hn2:n≤12)(hW:∀ i,i<ks.length→WfT ok d (ks.getD i tm0))(w:World)(h:Hp)(g:G w h)(hK:SlO 9 ptc ptm0 h A ps)(hKs:Tms d h ps ks):CV 57 #[pW op n q s A ps.length c,iV 1001] w h (iV ((min (wgt (d+1) (.mk op n q s ks)) 1001:Nat):Int)):=by
 have hs:=(((sS g).aS hK).add (K:=fun h_=>Tms d h_ ps ks) hKs);have hln:=(hs.f.1).len;refine go Tryz.func57 [(0,pW op n q s A ps.length c),(1,iV 1001)] rfl (cSL (lA 2 61 (pG op n q s A ps.length c) hs (fun b1 w2 h3 hs=>lL hs [.v 4 (iV 0)] (lNcQ (cSLlL hs [.v 8 (qP b1 8),.o 9 (qS A ps.length c) 0 8 1,.v 10 (nV ps.length)] ?_)))));cases hb4:((ps.length:Int) == (0:Int))
 ·
  have phb4:=neOfBeq hb4;refine lB 11 hb4 (lNIF (cK (cSLlL hs [.v 5 (iV 0)] (lNcQ (cSLlL hs [.v 14 (qP b1 8),.o 15 (qS A ps.length c) 0 8 1,.v 16 (nV ps.length),.v 17 (iV 0)] (lNkZ ?_))))));refine cTo _ (CG.loop (fun μ_ Γ w_=>∃ (k:Nat) (sm:Nat) (h_:Hp),μ_=ps.length-k∧Γ=[(1,iV 1001),(2,pB b1),(15,qS A ps.length c),(16,nV ps.length),(17,nV k),(5,nV sm)]∧SS w h w_ h_ [⟨b1,61,pG op n q s A ps.length c⟩] [] [fun h_=>Tms d h_ ps ks,fun h_=>SlO 9 ptc ptm0 h_ A ps]∧k≤ps.length∧sm=min (sumN (fun i=>wgt d (ks.getD i tm0)) k) 1001) _ ⟨0,0,h3,rfl,rfl,hs.to _ _,Nat.zero_le _,rfl⟩ ?_);rintro _ _ w5 ⟨k,sm,h6,hm7,rfl,hs,hk,hsm⟩;have hs1:(sumN (fun i=>wgt d (ks.getD i tm0)) (k+1))=(sumN (fun i=>wgt d (ks.getD i tm0)) k)+wgt d (ks.getD k tm0):=rfl;refine cSL ?_;cases hb8:(decide ((k:Int)<(ps.length:Int)))
  ·
   have phb8:=oF hb8;refine lB 18 hb8 (lNcQ (cIF (CG.exit ?_)))
   show CG _ _ _ _ _ _ _ _
   refine cQ (cSLlL hs [.v 33 (pB b1),.o 34 (iV op) 0 0 1] (lNkZ (cSL ?_)));cases hb9:((op:Int) == (11:Int))
   ·
    have phb9:=neOfBeq hb9;refine lB 36 hb9 (lL hs [.m 35 36] (lNIF (cSL ?_)));cases za:((op:Int) == (8:Int))
    ·
     have zc:=neOfBeq za;refine lB 40 za (lL hs [.m 39 40] (lNIF (cK (cSLlL hs [.m 46 5,.m 47 1] (lV 48 (iV (min (sm:Int) (1001:Int))) ?_ (hr:=rint (n:=(if (1001:Int)<(sm:Int) then (1001:Int) else (sm:Int))) kR (by simp only[imin2])))))));refine lL hs [.m 4 48] (lN (kX ?_));have hkn:k=ks.length:=by omega
     have hw_:=wgt_s (d:=d) (op:=op) (n:=n) (q:=q) (s:=s) (ks:=ks) oM;have hm_:=min_mul_ (s:=(sumN (fun i=>wgt d (ks.getD i tm0)) k)) (wmul_pos op n);rw[←hkn] at hw_
     rw[←hw_,←hsm] at hm_
     exact hs.ret [] (iV (min (sm:Int) (1001:Int))) (congrArg (Value.int .i64) (by rw[←hm_];unfold wmul;first|(rw[if_pos oM];(repeat' split)<;>omega)|(rw[if_neg oM,if_pos oM,Nat.mul_comm];(repeat' split)<;>omega)|(rw[if_neg oM,if_neg oM];(repeat' split)<;>omega)))
    have zc:=eq_of_beq za;refine lB 40 za (lL hs [.m 39 40] (lNIT (kQ (lL hs [.m 41 5,.v 42 (qP b1 1),.o 43 (iV n) 0 1 1] (lCval 44 hs (tTimes n oM oM _ _ hs.g) (fun _ _ hs=>?_))))));have htm:timesN n≤12∧1≤timesN n:=by unfold timesN;split<;>omega
    have hmb:sm*timesN n≤1001*12:=Nat.mul_le_mul oM oM;refine lI 45 ((sm:Nat)*(timesN n:Nat)) (lL hs [.m 5 45] (lNS (lL hs [.m 46 5,.m 47 1] (lV 48 (iV (min ((sm:Nat)*(timesN n:Nat):Int) (1001:Int))) ?_ (hr:=rint (n:=(if (1001:Int)<((sm:Nat)*(timesN n:Nat):Int) then (1001:Int) else ((sm:Nat)*(timesN n:Nat):Int))) kR (by simp only[imin2]))))));refine lL hs [.m 4 48] (lN (kX ?_));have hkn:k=ks.length:=by omega
    have hw_:=wgt_s (d:=d) (op:=op) (n:=n) (q:=q) (s:=s) (ks:=ks) oM;have hm_:=min_mul_ (s:=(sumN (fun i=>wgt d (ks.getD i tm0)) k)) (wmul_pos op n);rw[←hkn] at hw_
    rw[←hw_,←hsm] at hm_
    exact hs.ret [] (iV (min ((sm:Nat)*(timesN n:Nat):Int) (1001:Int))) (congrArg (Value.int .i64) (by rw[←hm_];unfold wmul;first|(rw[if_pos oM];(repeat' split)<;>omega)|(rw[if_neg oM,if_pos oM,Nat.mul_comm];(repeat' split)<;>omega)|(rw[if_neg oM,if_neg oM];(repeat' split)<;>omega)))
   have phb9:=eq_of_beq hb9;refine lB 36 hb9 (lL hs [.m 35 36] (lNIT (kQ (lL hs [.m 37 5] (lI 38 ((sm:Nat)*2) ?_)))));refine lL hs [.m 5 38] (lNS (lL hs [.m 46 5,.m 47 1] (lV 48 (iV (min ((sm:Nat)*2:Int) (1001:Int))) ?_ (hr:=rint (n:=(if (1001:Int)<((sm:Nat)*2:Int) then (1001:Int) else ((sm:Nat)*2:Int))) kR (by simp only[imin2])))));refine lL hs [.m 4 48] (lN (kX ?_));have hkn:k=ks.length:=by omega
   have hw_:=wgt_s (d:=d) (op:=op) (n:=n) (q:=q) (s:=s) (ks:=ks) oM;have hm_:=min_mul_ (s:=(sumN (fun i=>wgt d (ks.getD i tm0)) k)) (wmul_pos op n);rw[←hkn] at hw_
   rw[←hw_,←hsm] at hm_
   exact hs.ret [] (iV (min ((sm:Nat)*2:Int) (1001:Int))) (congrArg (Value.int .i64) (by rw[←hm_];unfold wmul;first|(rw[if_pos oM];(repeat' split)<;>omega)|(rw[if_neg oM,if_pos oM,Nat.mul_comm];(repeat' split)<;>omega)|(rw[if_neg oM,if_neg oM];(repeat' split)<;>omega)))
  have phb8:=oT hb8;refine lB 18 hb8 (lNcQ (cIT (cK (cQ (kZ (cSL (lX 19 A ps.length c 9 (k:Nat) k ((hs.f.2.1).ok oM) ?_)))))));refine lH 20 (pX (ps.getD k ptm0)) hs ((hs.f.2.1).el k oM) (lA 7 61 ([iV 0,iV 0,qF,uV 0,eS,uV 0,eS,eS,sZ]) hs (fun b13 _ _ hs=>lP 0 0 (pC (ps.getD k ptm0)) hs (fun _ hs=>lNS (lL hs [.m 21 5,.o 22 (pX (ps.getD k ptm0)) 0 0 9,.m 23 1] (lCval 24 hs (ih (ps.getD k ptm0) (ks.getD k tm0) _ _ hs.g ((hs.f.1).at_ k oM) (hW k oM)) (fun _ ze hs=>lI 25 ((sm:Nat)+((min (wgt d (ks.getD k tm0)) 1001:Nat):Int)) (lL hs [.m 26 1] (lV 27 (iV ((min (sumN (fun i=>wgt d (ks.getD i tm0)) (k+1)) 1001:Nat):Int)) ?_ (hr:=rint (n:=if (1001:Int)<((sm:Nat)+((min (wgt d (ks.getD k tm0)) 1001:Nat):Int)) then (1001:Int) else ((sm:Nat)+((min (wgt d (ks.getD k tm0)) 1001:Nat):Int))) kR (by split<;>omega))))))))));refine lL hs [.m 5 27] (lNS (lL hs [.m 28 5,.m 29 1] ?_));cases zb:((((min (sumN (fun i=>wgt d (ks.getD i tm0)) (k+1)) 1001:Nat):Int):Int) == (1001:Int))
  ·
   have zd:=neOfBeq zb;refine lB 30 zb (lNIF (cK (kQ (lIn 32 ((k:Nat)+1) (k+1) ?_))));refine lL hs [.m 17 32] (lD ?_);intro a_ ka;replace hs:=hs.drop 1 0;refine ⟨_,_,?_,⟨k+1,(min (sumN (fun i=>wgt d (ks.getD i tm0)) (k+1)) 1001),ze,rfl,rfl,hs.to _ _,oM,rfl⟩,ka.to _ kR⟩
   omega
  have zd:=eq_of_beq zb;exact lB 30 zb (lNIT (cSLlL hs [.m 31 1,.m 4 31] (lNkXr hs [] (iV 1001) (congrArg (Value.int .i64) (by have h1_:=sumN_mono (fun i=>wgt d (ks.getD i tm0)) (show k+1≤ks.length by omega);have h2_:=wgt_ge (d:=d) (op:=op) (n:=n) (q:=q) (s:=s) (ks:=ks) oM;omega)))))
 have phb4:=eq_of_beq hb4;exact lB 11 hb4 (lNIT (cSLlL hs [.m 12 1,.v 13 (iV 1),.m 4 13] (lNkXr hs [] (iV 1) (congrArg (Value.int .i64) (by rw[wgt_0 oM];first|rfl|omega)))))
theorem tWeightT (ok:ByteArray→Prop):∀ (d:Nat) (p:PTm) (t:Tm) (w:World) (h:Hp),G w h→TmH d h p t→WfT ok d t →  Calls Tryz.prog 57 #[ptv p,iV 1001] w (Ret w h (fun v _=>v=iV ((min (wgt d t) 1001:Nat):Int)))
  | 0,_,_,_,_,_,x,_=>x.elim
  | d + 1,p,t,w,h,g,x,wf=>by
    obtain ⟨op,n,q,s,A,c,ps,ks,rfl,rfl,hc,hK,hKs⟩:=x.open;obtain ⟨w1,w2,w3,w4,w5,w6,w7,w8,w9⟩:=wf
    have hl2:ps.length≤2:=by
      have e1:ari op=ks.length:=w1;have:=ari_cases op;have:=hKs.len
      omega
    exact tWeightS ok d (fun p t w h=>tWeightT ok d p t w h) op n q s A c ps ks hc hl2 w1 w2 w3 w4 w5 w6 w7 w8 w9 w h g hK hKs
theorem tCloneS  (ok:ByteArray→Prop)(d:Nat)(ih:∀ (p:PTm) (t:Tm) (w:World) (h:Hp),G w h→TmH d h p t→WfT ok d t →  Calls Tryz.prog 41 #[ptv p] w (Ret w h (fun v h1=>∃ p2,v=ptv p2∧TmH d h1 p2 t)))(op n:Int)(q:Rat)(s:ByteArray)(A:Option Addr)(c:Nat)(ps:List PTm)(ks:List Tm)(hc:ps.length≤c)(hlp:ps.length≤2)(hari:ari op=(ks.length:Nat))(hq0:op≠1→q=0)(hq:LQ 1 q)(hok:op=2→ok s)(hs0:op≠2→s=⟨#[]⟩)(hn0:op≠8→n=0)(hn1 : -12≤n)(hn2:n≤12)(hW:∀ i,i<ks.length→WfT ok d (ks.getD i tm0))(w:World)(h:Hp)(g:G w h)(hK:SlO 9 ptc ptm0 h A ps)(hKs:Tms d h ps ks):CR 41 #[pW op n q s A ps.length c] w h (fun v h1=>∃ p2,v=ptv p2∧TmH (d+1) h1 p2 (.mk op n q s ks)):=by
 have hs:=(((sS g).aS hK).add (K:=fun h_=>Tms d h_ ps ks) hKs);have hln:=(hs.f.1).len;refine go Tryz.func41 [(0,pW op n q s A ps.length c)] rfl (cSL (lA 1 61 (pG op n q s A ps.length c) hs (fun b1 w2 h3 hs=>lA 2 61 ([iV 0,iV 0,qF,uV 0,eS,uV 0,eS,eS,sZ]) hs (fun b4 w5 h6 hs=>lNS (lL hs [.v 6 (qP b1 8),.o 7 (qS A ps.length c) 1 8 1,.v 8 (nV ps.length)] (lK 9 61 ps.length 9 112 (.agg #[iV 0,iV 0,qF,uV 0,eS,uV 0,eS,eS,sZ]) ptc ptm0 hs (fun b7 w8 h9 hs=>?_)))))));have hl10:(List.replicate ps.length ptm0).length=ps.length:=by simp
 refine lL hs [.m 3 9] (lNcQ (cSLlL hs [.v 10 (qP b1 8),.o 11 (qS A ps.length c) 2 8 1,.v 12 (nV ps.length),.v 13 (iV 0)] (lNkZ ?_)));replace hs:=hs.add (K:=fun h_=>TmsU d h_ 0 (List.replicate ps.length ptm0) ks) ((fun i hi=>absurd hi (Nat.not_lt_zero i)));refine cTo _ (CG.loop (fun μ_ Γ w_=>∃ (k:Nat) (L:List PTm) (h_:Hp),μ_=ps.length-k∧Γ=[(1,pB b1),(2,pB b4),(3,qS (sB b7) ps.length ps.length),(11,qS A ps.length c),(12,nV ps.length),(13,nV k)]∧SS w h w_ h_ [⟨b7,61,(L).flatMap ptc⟩,⟨b4,61,[iV 0,iV 0,qF,uV 0,eS,uV 0,eS,eS,sZ]⟩,⟨b1,61,pG op n q s A ps.length c⟩] [] [fun h_=>TmsU d h_ k L ks,fun h_=>Tms d h_ ps ks,fun h_=>SlO 9 ptc ptm0 h_ A ps]∧k≤ps.length∧L.length=ps.length) _ ⟨0,List.replicate ps.length ptm0,h9,rfl,rfl,hs.to _ _,Nat.zero_le _,(by simp)⟩ ?_);rintro _ _ _ ⟨k,L,_,hm13,rfl,hs,hk,hLl⟩;refine cSL ?_;cases za:(decide ((k:Int)<(ps.length:Int)))
 ·
  have zb:=oF za;refine lB 14 za (lNcQ (cIF (CG.exit ?_)))
  show CG _ _ _ _ _ _ _ _
  refine cSLlL hs [.m 24 3,.v 25 (qP b1 8)] (lP 2 8 ([qS (sB b7) ps.length ps.length]) hs (fun _ hs=>lNS ?_));have hkn:k=ps.length:=by omega
  obtain ⟨_,hs,sg17,lo18,bc19⟩:=hs.pub 0;replace hs:=(hs.to [⟨b4,61,[iV 0,iV 0,qF,uV 0,eS,uV 0,eS,eS,sZ]⟩,⟨b1,61,pG op n q s (sB b7) ps.length ps.length⟩] []).aS (SlO.of_flat (sz:=9) (f:=ptc) (d:=ptm0) (b:=b7) (o:=0) (l:=L) (fun _=>rfl) sg17);replace hs:=hs.to [⟨b4,61,[iV 0,iV 0,qF,uV 0,eS,uV 0,eS,eS,sZ]⟩,⟨b1,61,pG op n q s (sB b7) ps.length ps.length⟩] [];exact lL hs [.o 26 (pW op n q s (sB b7) ps.length ps.length) 1 0 9] (lP 0 0 (pG op n q s (sB b7) ps.length ps.length) hs (fun _ hs=>lNkXr hs [(0,0,9)] (pW op n q s (sB b7) ps.length ps.length) (⟨⟨op,n,q,s,sB b7,ps.length,ps.length⟩,rfl,by have h_:=TmH.mk (op:=op) (n:=n) (q:=q) (s:=s) (c:=L.length) (Tms.of_u oM oM hs.f.2.1) (nR _) (hs.f.1);rw[hLl] at h_;exact h_⟩)))
 have zb:=oT za;refine lB 14 za (lNcQ (cIT (cK (cQ (kZ (cSLlL hs [.m 15 13] (lX 16 A ps.length c 9 (k:Nat) k ((hs.f.r.1).ok oM) ?_)))))));refine lH 17 (pX (ps.getD k ptm0)) hs ((hs.f.r.1).el k oM) (lA 5 61 ([iV 0,iV 0,qF,uV 0,eS,uV 0,eS,eS,sZ]) hs (fun zd _ _ hs=>lL hs [.m 4 15] (lP 0 0 (pC (ps.getD k ptm0)) hs (fun _ hs=>lN (kQ (lL hs [.m 18 3,.m 19 4,.o 20 (pX (ps.getD k ptm0)) 0 0 9] (lC 21 hs (ih (ps.getD k ptm0) (ks.getD k tm0) _ _ hs.g ((hs.f.2.1).at_ k oM) (hW k oM)) ?_)))))));rintro _ _ ze hs ⟨pk,rfl,hpk⟩;replace hs:=(hs.add (K:=fun h_=>TmH d h_ pk (ks.getD k tm0)) hpk);refine lX 22 (sB b7) ps.length ps.length 9 (k:Nat) k rfl (lW 1 L ptc 9 k pk hs oM (fun _ hs=>?_));have zc:((L).set k pk).length=ps.length:=by rw[List.length_set];exact hLl
 replace hs:=hs.to [⟨zd,61,pC (ps.getD k ptm0)⟩,⟨b7,61,((L).set k pk).flatMap ptc⟩,⟨b4,61,[iV 0,iV 0,qF,uV 0,eS,uV 0,eS,eS,sZ]⟩,⟨b1,61,pG op n q s A ps.length c⟩] [];refine lN (kQ (lIn 23 ((k:Nat)+1) (k+1) ?_));refine lL hs [.m 13 23] (lD ?_);intro a_ ka;replace hs:=(hs.tl.tl.add (K:=fun h_=>TmsU d h_ (k+1) ((L).set k pk) ks) ((hs.f.2.1).set oM hs.f.1));replace hs:=hs.drop 1 0;refine ⟨_,_,?_,⟨k+1,(L).set k pk,ze,rfl,rfl,hs.to _ _,oM,zc⟩,ka.to _ kR⟩
 omega
theorem tClone (ok:ByteArray→Prop):∀ (d:Nat) (p:PTm) (t:Tm) (w:World) (h:Hp),G w h→TmH d h p t→WfT ok d t →  Calls Tryz.prog 41 #[ptv p] w (Ret w h (fun v h1=>∃ p2,v=ptv p2∧TmH d h1 p2 t))
  | 0,_,_,_,_,_,x,_=>x.elim
  | d + 1,p,t,w,h,g,x,wf=>by
    obtain ⟨op,n,q,s,A,c,ps,ks,rfl,rfl,hc,hK,hKs⟩:=x.open;obtain ⟨w1,w2,w3,w4,w5,w6,w7,w8,w9⟩:=wf
    have hl2:ps.length≤2:=by
      have e1:ari op=ks.length:=w1;have:=ari_cases op;have:=hKs.len
      omega
    exact tCloneS ok d (fun p t w h=>tClone ok d p t w h) op n q s A c ps ks hc hl2 w1 w2 w3 w4 w5 w6 w7 w8 w9 w h g hK hKs
def tr (nm:Int→ByteArray)(l:List Stp)(i:Nat):Tm:=trT nm l (l.length+1) i
structure DpS (dp:Nat→Nat) (l:List Stp):Prop where
  one:∀ k,k<l.length→1≤dp k
  le:∀ k,k<l.length→dp k≤20
  a:∀ k,k<l.length→0<ari (l.getD k stp0).op→dp (l.getD k stp0).a.toNat<dp k
  b:∀ k,k<l.length→1<ari (l.getD k stp0).op→dp (l.getD k stp0).b.toNat<dp k
theorem DpS.suc {dp:Nat→Nat}{l:List Stp}(x:DpS dp l){k:Nat}(h:k<l.length):∃ e,dp k=e+1:=⟨dp k-1,by have:=x.one k h;omega⟩
section
variable {nm:Int→ByteArray} {l:List Stp} {inp:Int} {dp:Nat→Nat}
theorem tr_leaf {i:Nat}(h2:(l.getD i stp0).op=2):tr nm l i=.mk 2 0 0 (nm (l.getD i stp0).n) []:=by
  unfold tr trT;rw[if_pos h2]
theorem tr_num {i:Nat}(h2:(l.getD i stp0).op=1):tr nm l i=.mk 1 0 (l.getD i stp0).q ⟨#[]⟩ []:=by
  unfold tr trT;rw[h2,if_neg kD,if_neg kD,if_neg kD]
theorem tr_one (hF:∀ k,k<l.length→Formed inp k (l.getD k stp0)){i:Nat}(hi:i<l.length)(h1:ari (l.getD i stp0).op=1):tr nm l i=.mk (l.getD i stp0).op (l.getD i stp0).n 0 ⟨#[]⟩ [tr nm l (l.getD i stp0).a.toNat]:=by
  have ha:=(hF i hi).opr.1 oM
  unfold tr
  rw[show trT nm l (l.length+1) (l.getD i stp0).a.toNat=trT nm l l.length (l.getD i stp0).a.toNat from trT_more hF _ _ _ oM oM oM]
  conv=>lhs;unfold trT
  rw[if_neg (fun e=>by rw[e] at h1;exact absurd h1 kD),if_pos h1]
theorem tr_two (hF:∀ k,k<l.length→Formed inp k (l.getD k stp0)){i:Nat}(hi:i<l.length)(h1:ari (l.getD i stp0).op=2):tr nm l i=.mk (l.getD i stp0).op 0 0 ⟨#[]⟩ [tr nm l (l.getD i stp0).a.toNat,tr nm l (l.getD i stp0).b.toNat]:=by
  have ha:=(hF i hi).opr.1 oM;have hb:=(hF i hi).opr.2.1 oM
  unfold tr
  rw[show trT nm l (l.length+1) (l.getD i stp0).a.toNat=trT nm l l.length (l.getD i stp0).a.toNat from trT_more hF _ _ _ oM oM oM,show trT nm l (l.length+1) (l.getD i stp0).b.toNat=trT nm l l.length (l.getD i stp0).b.toNat from trT_more hF _ _ _ oM oM oM]
  conv=>lhs;unfold trT
  rw[if_neg (fun e=>by rw[e] at h1;exact absurd h1 kD),if_neg oM,if_pos h1]
theorem wf_tr {ok:ByteArray→Prop}(hdp:DpS dp l)(hF:∀ k,k<l.length→Formed inp k (l.getD k stp0))(hq:∀ i,LQ 1 (l.getD i stp0).q)(hok:∀ z:Int,0≤z→z<inp→ok (nm z)):∀ n i,i<n→i<l.length→WfT ok (dp i) (tr nm l i)
  | n + 1,i,hn,hi=>by
    obtain ⟨f0,f1,f2,f3,f4,f5,f6⟩:=hF i hi;have hop:=(hF i hi).opr;obtain ⟨e,he⟩:=hdp.suc hi;rw[he];have hc:=ari_cases (l.getD i stp0).op;have h0:LQ 1 (0:Rat):=lq0 kD
    by_cases e2:(l.getD i stp0).op=2
    · rw[tr_leaf e2]
      exact ⟨rfl,fun _=>rfl,h0,fun _=>hok _ (f4 e2).1 (f4 e2).2,fun h=>absurd rfl h,fun _=>rfl,show (-12:Int)≤0 from by decide,show (0:Int)≤12 from by decide,fun i hi=>absurd hi (Nat.not_lt_zero i)⟩
    · by_cases e1:(l.getD i stp0).op=1
      · rw[tr_num e1]
        exact ⟨rfl,fun h=>absurd rfl h,hq i,fun h=>absurd h (show ¬(1:Int)=2 from by decide),fun _=>rfl,fun _=>rfl,show (-12:Int)≤0 from by decide,show (0:Int)≤12 from by decide,fun i hi=>absurd hi (Nat.not_lt_zero i)⟩
      · by_cases a1:ari (l.getD i stp0).op=1
        · have ha:=hop.1 oM
          have hda:=hdp.a i hi oM;have ih:=(wf_tr hdp hF hq hok n (l.getD i stp0).a.toNat oM oM).mono (show dp (l.getD i stp0).a.toNat≤e by omega);rw[tr_one hF hi a1];refine ⟨a1,fun _=>rfl,h0,fun h=>absurd h e2,fun _=>rfl,fun h8=>f6 e2 h8,?_,?_,fun j hj=>?_⟩
          · show -12≤(l.getD i stp0).n
            by_cases h8:(l.getD i stp0).op=8
            · exact (f5 h8).1
            · rw[f6 e2 h8];decide
          · show (l.getD i stp0).n≤12
            by_cases h8:(l.getD i stp0).op=8
            · exact (f5 h8).2
            · rw[f6 e2 h8];decide
          · have:j=0:=by have:j<1:=hj;omega
            subst this;exact ih
        · have a2:ari (l.getD i stp0).op=2:=by omega
          have ha:=hop.1 oM;have hb:=hop.2.1 oM;have hda:=hdp.a i hi oM;have hdb:=hdp.b i hi oM;have ih1:=(wf_tr hdp hF hq hok n (l.getD i stp0).a.toNat oM oM).mono (show dp (l.getD i stp0).a.toNat≤e by omega);have ih2:=(wf_tr hdp hF hq hok n (l.getD i stp0).b.toNat oM oM).mono (show dp (l.getD i stp0).b.toNat≤e by omega);rw[tr_two hF hi a2];refine ⟨a2,fun _=>rfl,h0,fun h=>absurd h e2,fun _=>rfl,fun _=>rfl,by show (-12:Int)≤0;decide,by show (0:Int)≤12;decide,fun j hj=>?_⟩;have:j=0∨j=1:=by have:j<2:=hj;omega
          rcases this with rfl|rfl
          · exact ih1
          · exact ih2
theorem sumN_congr {f g:Nat→Nat}:∀ n,(∀ i,i<n→f i=g i)→sumN f n=sumN g n
  | 0,_=>rfl
  | n+1,h=>by show sumN f n+f n=sumN g n+g n;rw[sumN_congr n (fun i hi=>h i oM),h n (Nat.lt_succ_self n)]
theorem wgt_more {ok:ByteArray→Prop}:∀ {d e:Nat} {t:Tm},WfT ok d t→d≤e→wgt e t=wgt d t
  | d+1,e+1,t,w,h=>by
    unfold wgt
    rw[sumN_congr t.ks.length (fun i hi=>wgt_more (w.2.2.2.2.2.2.2.2 i hi) (Nat.le_of_succ_le_succ h))]
def wtsK (l:List Stp):Nat→List Int
  | 0=>[]
  | k+1=>wtsK l k++[weightS (l.getD k stp0) (wtsK l k)]
theorem weight_tr {ok:ByteArray→Prop}(hdp:DpS dp l)(hF:∀ k,k<l.length→Formed inp k (l.getD k stp0))(hW:∀ i,i<l.length→WfT ok (dp i) (tr nm l i)){k:Nat}(hk:k<l.length){hv:List Int}(hh:∀ i,i<k→hv.getD i 0=(wgt (dp i) (tr nm l i):Nat)):weightS (l.getD k stp0) hv=(wgt (dp k) (tr nm l k):Nat):=by
  obtain ⟨e,he⟩:=hdp.suc hk;rw[he];have hf0:=(hF k hk).1;have hop:=(hF k hk).opr;have hc:=ari_cases (l.getD k stp0).op;have hm:∀ a,a<k→dp a≤e→wgt e (tr nm l a)=wgt (dp a) (tr nm l a):=fun a ha hd=>wgt_more (hW a oM) hd
  unfold weightS
  by_cases a0:ari (l.getD k stp0).op=0
  · rw[if_pos a0]
    rcases (show (l.getD k stp0).op=1∨(l.getD k stp0).op=2 by omega) with e|e
    · rw[tr_num e];rfl
    · rw[tr_leaf e];rfl
  · rw[if_neg a0]
    by_cases a2:ari (l.getD k stp0).op=2
    · have ha:=hop.1 oM;have hb:=hop.2.1 oM
      have hda:=hdp.a k hk oM;have hdb:=hdp.b k hk oM;rw[if_pos a2,tr_two hF hk a2,wgt_s (ks:=[_,_]) (by simp),hh _ ha,hh _ hb,←hm _ ha oM,←hm _ hb oM];have e1:wmul (l.getD k stp0).op 0=1:=by unfold wmul;rw[if_neg oM,if_neg oM]
      rw[e1,Nat.one_mul];have e3:sumN (fun i=>wgt e ([tr nm l (l.getD k stp0).a.toNat,tr nm l (l.getD k stp0).b.toNat].getD i tm0)) [tr nm l (l.getD k stp0).a.toNat,tr nm l (l.getD k stp0).b.toNat].length=0+wgt e (tr nm l (l.getD k stp0).a.toNat)+wgt e (tr nm l (l.getD k stp0).b.toNat):=rfl;rw[e3];omega
    · have a1:ari (l.getD k stp0).op=1:=by omega
      have ha:=hop.1 oM;have hda:=hdp.a k hk oM;rw[if_neg a2,tr_one hF hk a1,wgt_s (ks:=[_]) (by simp),hh _ ha,←hm _ ha oM];have e2:sumN (fun i=>wgt e ([tr nm l (l.getD k stp0).a.toNat].getD i tm0)) [tr nm l (l.getD k stp0).a.toNat].length=wgt e (tr nm l (l.getD k stp0).a.toNat):=Nat.zero_add _;rw[e2]
      generalize wgt e (tr nm l (l.getD k stp0).a.toNat)=z
      unfold wmul timesN
      split
      · omega
      · split
        · split
          · rw[show max (max (l.getD k stp0).n (0-(l.getD k stp0).n)) 1=1 by omega];omega
          · rw[show max (max (l.getD k stp0).n (0-(l.getD k stp0).n)) 1=((l.getD k stp0).n.natAbs:Int) by omega,Int.natCast_mul]
        · omega
theorem wts_tr {os:List Int}{ok:ByteArray→Prop}(hdp:DpS dp l)(hc:chkTp inp l os=0)(hW:∀ i,i<l.length→WfT ok (dp i) (tr nm l i)):∀ k,k≤l.length→goS inp (l.drop k) (wtsK l k)=0∧(wtsK l k).length=k∧∀ i,i<k→(wtsK l k).getD i 0=(wgt (dp i) (tr nm l i):Nat)∧wgt (dp i) (tr nm l i)≤65536
  | 0,_=>by
    have hF:=(chk_formed hc).1;refine ⟨?_,rfl,fun i hi=>absurd hi (Nat.not_lt_zero i)⟩
    unfold chkTp at hc
    split at hc
    · split at hc
      · rename_i h2;exact h2
      · rename_i h2;exact absurd hc h2
    · exact absurd hc kD
  | k + 1,hk=>by
    have hF:=(chk_formed hc).1;obtain ⟨h1,h2,h3⟩:=wts_tr hdp hc hW k oM;have hw:=weight_tr hdp hF hW (show k<l.length by omega) (hv:=wtsK l k) (fun i hi=>(h3 i hi).1)
    have hn:¬65536<weightS (l.getD k stp0) (wtsK l k):=fun h=>by
      rw[goS_over oM h2 (hF k oM) h] at h1;exact absurd h1 kD
    refine ⟨(goS_step oM h2 (hF k oM) hn).symm.trans h1,by unfold wtsK;rw[List.length_append,h2];rfl,fun i hi=>?_⟩
    unfold wtsK
    rw[getD_snoc,h2]
    by_cases e:i<k
    · rw[if_pos e];exact h3 i e
    · obtain rfl:i=k:=by omega
      rw[if_neg e,if_pos rfl];exact ⟨hw,by omega⟩
end
def cntT:Nat→Tm→Nat
  | 0,_=>0
  | d+1,t=>1+sumN (fun i=>cntT d (t.ks.getD i tm0)) t.ks.length
def recK (f:List Stp→Tm→List Stp)(ks:List Tm)(l:List Stp):Nat→List Stp × Int × Int
  | 0=>(l,0,0)
  | k+1=>(f (recK f ks l k).1 (ks.getD k tm0),if k=0 then (((f (recK f ks l k).1 (ks.getD k tm0)).length:Nat):Int)-1 else (recK f ks l k).2.1,if k=0 then (recK f ks l k).2.2 else (((f (recK f ks l k).1 (ks.getD k tm0)).length:Nat):Int)-1)
def recT (pl:ByteArray→Int):Nat→List Stp→Tm→List Stp
  | 0,l,_=>l
  | d+1,l,t=>(recK (recT pl d) t.ks l t.ks.length).1++[⟨t.op,(recK (recT pl d) t.ks l t.ks.length).2.1,(recK (recT pl d) t.ks l t.ks.length).2.2,if t.op=2 then pl t.s else t.n,t.q⟩]
def HasN:Nat→Tm→ByteArray→Prop
  | 0,_,_=>False
  | d+1,t,s=>(t.op=2∧s=t.s)∨∃ i,i<t.ks.length∧HasN d (t.ks.getD i tm0) s
def HasK (d:Nat)(ks:List Tm)(k:Nat)(s:ByteArray):Prop:=∃ i,i<k∧HasN d (ks.getD i tm0) s
theorem HasK.zero {d:Nat}{ks:List Tm}{s:ByteArray}:¬HasK d ks 0 s:=fun ⟨i,h,_⟩=>absurd h (Nat.not_lt_zero i)
theorem HasK.succ {d:Nat}{ks:List Tm}{k:Nat}{s:ByteArray}:HasK d ks (k+1) s↔HasK d ks k s∨HasN d (ks.getD k tm0) s:=by
  constructor
  · rintro ⟨i,hi,h⟩
    by_cases e:i=k
    · subst e;exact .inr h
    · exact .inl ⟨i,by omega,h⟩
  · rintro (⟨i,hi,h⟩|h)
    · exact ⟨i,by omega,h⟩
    · exact ⟨k,by omega,h⟩
theorem WfT.names {ok p:ByteArray→Prop}:∀ {d:Nat} {t:Tm},WfT ok d t→(∀ s,HasN d t s→p s)→WfT (fun s=>ok s∧p s) d t
  | d+1,t,⟨h1,h2,h3,h4,h5,h6,h7,h8,h9⟩,h=>⟨h1,h2,h3,fun e=>⟨h4 e,h _ (.inl ⟨e,rfl⟩)⟩,h5,h6,h7,h8,fun i hi=>WfT.names (h9 i hi) (fun s hs=>h s (.inr ⟨i,hi,hs⟩))⟩
theorem wf_has {ok:ByteArray→Prop}:∀ {d:Nat} {t:Tm} {s:ByteArray},WfT ok d t→HasN d t s→ok s
  | d+1,t,s,w,.inl ⟨h1,h2⟩=>by rw[h2];exact w.2.2.2.1 h1
  | d+1,t,s,w,.inr ⟨i,hi,h⟩=>wf_has (w.2.2.2.2.2.2.2.2 i hi) h
theorem WfT.two {ok:ByteArray→Prop}{d:Nat}{t:Tm}(h:WfT ok (d+1) t):t.ks.length≤2:=by
  have:=h.1;have:=ari_cases t.op
  omega
theorem sumN_le {f:Nat→Nat}{b:Nat}:∀ n,(∀ i,i<n→f i≤b)→sumN f n≤n*b
  | 0,_=>by simp[sumN]
  | n+1,h=>by
    have h1:=sumN_le n (fun i hi=>h i oM);have h2:=h n (Nat.lt_succ_self n)
    show sumN f n+f n≤_
    rw[Nat.succ_mul];omega
theorem cnt_le {ok:ByteArray→Prop}:∀ {d:Nat} {t:Tm},WfT ok d t→cntT d t+1≤2^d
  | d+1,t,w=>by
    have h2:=w.two;have hs:=sumN_le (f:=fun i=>cntT d (t.ks.getD i tm0)) (b:=2^d-1) t.ks.length (fun i hi=>by have:=cnt_le (w.2.2.2.2.2.2.2.2 i hi);show cntT d _≤_;omega);have hp:0<2^d:=Nat.two_pow_pos d;have hm:t.ks.length*(2^d-1)≤2*(2^d-1):=Nat.mul_le_mul_right _ h2
    show 1+sumN _ _+1≤2^(d+1)
    rw[Nat.pow_succ];omega
theorem trT_pre {nm:Int→ByteArray}{l m:List Stp}{inp:Int}(hF:∀ k,k<l.length→Formed inp k (l.getD k stp0)):∀ (f i:Nat),i<l.length→trT nm (l++m) f i=trT nm l f i
  | 0,i,_=>rfl
  | f + 1,i,hi=>by
    have e:(l++m).getD i stp0=l.getD i stp0:=by rw[List.getD_eq_getElem?_getD,List.getElem?_append_left hi,←List.getD_eq_getElem?_getD]
    obtain ⟨o1,o2,_,_⟩:=(hF i hi).opr
    unfold trT
    rw[e]
    split
    · rfl
    · split
      · rw[trT_pre hF f _ (by have:=o1 oM;omega)]
      · split
        · rw[trT_pre hF f _ (by have:=o1 oM;omega),trT_pre hF f (l.getD i stp0).b.toNat (by have:=o2 oM;omega)]
        · rfl
theorem dps_snoc {dp:Nat→Nat}{l:List Stp}{s:Stp}{e:Nat}(h:DpS dp l)(e1:1≤e)(e2:e≤20)(ha:0<ari s.op→s.a.toNat<l.length∧dp s.a.toNat<e)(hb:1<ari s.op→s.b.toNat<l.length∧dp s.b.toNat<e)(hF:∀ k,k<l.length→(0<ari (l.getD k stp0).op→(l.getD k stp0).a.toNat<k)∧(1<ari (l.getD k stp0).op→(l.getD k stp0).b.toNat<k)):DpS (fun k=>if k<l.length then dp k else e) (l++[s]):=by
  have hl:(l++[s]).length=l.length+1:=by simp
  refine ⟨fun k hk=>?_,fun k hk=>?_,fun k hk h1=>?_,fun k hk h1=>?_⟩
  · show 1≤if k<l.length then dp k else e
    split
    · rename_i c;exact h.one k c
    · exact e1
  · show (if k<l.length then dp k else e)≤20
    split
    · rename_i c;exact h.le k c
    · exact e2
  · rw[getD_snoc] at h1 ⊢
    by_cases c:k<l.length
    · rw[if_pos c] at h1 ⊢
      have:=(hF k c).1 h1
      show (if _<l.length then dp _ else e)<if k<l.length then dp k else e
      rw[if_pos c,if_pos oM];exact h.a k c h1
    · obtain rfl:k=l.length:=by omega
      rw[if_neg c,if_pos rfl] at h1 ⊢
      show (if _<l.length then dp _ else e)<if l.length<l.length then dp _ else e
      rw[if_neg c,if_pos (ha h1).1];exact (ha h1).2
  · rw[getD_snoc] at h1 ⊢
    by_cases c:k<l.length
    · rw[if_pos c] at h1 ⊢
      have:=(hF k c).2 h1
      show (if _<l.length then dp _ else e)<if k<l.length then dp k else e
      rw[if_pos c,if_pos oM];exact h.b k c h1
    · obtain rfl:k=l.length:=by omega
      rw[if_neg c,if_pos rfl] at h1 ⊢
      show (if _<l.length then dp _ else e)<if l.length<l.length then dp _ else e
      rw[if_neg c,if_pos (hb h1).1];exact (hb h1).2
theorem formed_ab {inp:Int}{l:List Stp}(hF:∀ k,k<l.length→Formed inp k (l.getD k stp0)):∀ k,k<l.length→(0<ari (l.getD k stp0).op→(l.getD k stp0).a.toNat<k)∧(1<ari (l.getD k stp0).op→(l.getD k stp0).b.toNat<k):=fun k hk=>⟨(hF k hk).opr.1,(hF k hk).opr.2.1⟩
theorem lq_snocS {l:List Stp}{s:Stp}(h:∀ i,LQ 1 (l.getD i stp0).q)(hs:LQ 1 s.q):∀ i,LQ 1 ((l++[s]).getD i stp0).q:=fun i=>by
  rw[getD_snoc]
  by_cases c:i<l.length
  · rw[if_pos c];exact h i
  · rw[if_neg c]
    by_cases e:i=l.length
    · rw[if_pos e];exact hs
    · rw[if_neg e];exact lq0 kD
structure RecOk (nm:Int→ByteArray) (inp:Int) (d:Nat) (l:List Stp) (l2:List Stp) (n:Nat) (t:Tm):Prop where
  lq:(∀ i,LQ 1 (l.getD i stp0).q)→∀ i,LQ 1 (l2.getD i stp0).q
  dps:∀ dp,DpS dp l→∃ dp',DpS dp' l2∧(∀ k,k<l.length→dp' k=dp k)∧dp' (l2.length-1)≤d
  pre:∃ m,l2=l++m
  len:l2.length=l.length+n
  pos:0<n
  fm:∀ k,k<l2.length→Formed inp k (l2.getD k stp0)
  tr:∀ f,l2.length≤f→trT nm l2 f (l2.length-1)=t
def nmOk (nm:Int→ByteArray)(pl:ByteArray→Int)(inp:Int)(s:ByteArray):Prop:=nm (pl s)=s∧0≤pl s∧pl s<inp
theorem tm_ext {t:Tm}{op n:Int}{q:Rat}{s:ByteArray}{ks:List Tm}(h1:t.op=op)(h2:t.n=n)(h3:t.q=q)(h4:t.s=s)(h5:t.ks=ks):Tm.mk op n q s ks=t:=by
  cases t;subst h1 h2 h3 h4 h5;rfl
theorem list_one {α:Type}{l:List α}{d:α}(h:l.length=1):l=[l.getD 0 d]:=by
  match l,h with
  | [a],_=>rfl
theorem list_two {α:Type}{l:List α}{d:α}(h:l.length=2):l=[l.getD 0 d,l.getD 1 d]:=by
  match l,h with
  | [a,b],_=>rfl
theorem formed_snoc {inp:Int}{l:List Stp}{s:Stp}(hF:∀ k,k<l.length→Formed inp k (l.getD k stp0))(hs:Formed inp l.length s):∀ k,k<(l++[s]).length→Formed inp k ((l++[s]).getD k stp0):=fun k hk=>by
  rw[List.length_append,List.length_singleton] at hk
  rw[getD_snoc]
  by_cases e:k<l.length
  · rw[if_pos e];exact hF k e
  · obtain rfl:k=l.length:=by omega
    rw[if_neg e,if_pos rfl];exact hs
theorem getD_last {l:List Stp}{s:Stp}:(l++[s]).getD l.length stp0=s:=by rw[getD_snoc,if_neg (Nat.lt_irrefl _),if_pos rfl]
theorem rec_ok {ok:ByteArray→Prop}{nm:Int→ByteArray}{pl:ByteArray→Int}{inp:Int}(hok:∀ s,ok s→nmOk nm pl inp s):∀ (d:Nat) (t:Tm) (l:List Stp),d≤20→WfT ok d t→(∀ k,k<l.length→Formed inp k (l.getD k stp0))→RecOk nm inp d l (recT pl d l t) (cntT d t) t
  | d + 1,t,l,hd,w,hF=>by
    obtain ⟨w1,w2,w3,w4,w5,w6,w7,w8,w9⟩:=w;have hc:=ari_cases t.op;have hq:t.op≠1→t.q.num=0:=fun h=>by rw[w2 h];rfl
    rcases (show t.ks.length=0∨t.ks.length=1∨t.ks.length=2 by omega) with h0|h1|h2
    · have e:recT pl (d+1) l t=l++[⟨t.op,0,0,if t.op=2 then pl t.s else t.n,t.q⟩]:=by unfold recT;rw[h0];rfl
      have a0:ari t.op=0:=by rw[w1,h0];rfl
      have hf:Formed inp l.length ⟨t.op,0,0,if t.op=2 then pl t.s else t.n,t.q⟩:=by
        refine ⟨by show 0≤ari t.op;omega,⟨fun h=>absurd (show 0<ari t.op from h) oM,fun _=>rfl⟩,⟨fun h=>absurd (show 1<ari t.op from h) oM,fun _=>rfl⟩,hq,fun h=>?_,fun h=>?_,fun h _=>?_⟩
        · show 0≤(if t.op=2 then pl t.s else t.n)∧(if t.op=2 then pl t.s else t.n)<inp
          rw[if_pos h];exact (hok _ (w4 h)).2
        · exact absurd (show t.op=8 from h) oM
        · show (if t.op=2 then pl t.s else t.n)=0
          rw[if_neg h];exact w6 oM
      have ec:cntT (d+1) t=1:=by unfold cntT;rw[h0];rfl
      rw[e,ec];refine ⟨fun hl=>lq_snocS hl w3,fun dp hp=>⟨_,dps_snoc (e:=d+1) hp oM oM (fun h=>absurd (show 0<ari t.op from h) oM) (fun h=>absurd (show 1<ari t.op from h) oM) (formed_ab hF),fun k hk=>if_pos hk,by simp⟩,⟨_,rfl⟩,by simp,by omega,formed_snoc hF hf,fun f hf'=>?_⟩;obtain ⟨g,rfl⟩:∃ g,f=g+1:=⟨f-1,by simp at hf';omega⟩;rw[show (l++[(⟨t.op,0,0,if t.op=2 then pl t.s else t.n,t.q⟩:Stp)]).length-1=l.length by simp]
      unfold trT
      rw[getD_last];have hks:t.ks=[]:=List.eq_nil_of_length_eq_zero h0
      by_cases e2:t.op=2
      · rw[if_pos e2]
        exact tm_ext e2 (w6 oM) (w2 oM) (by rw[if_pos e2];exact (hok _ (w4 e2)).1.symm) hks
      · rw[if_neg e2,if_neg (show ¬ari t.op=1 by omega),if_neg (show ¬ari t.op=2 by omega)]
        exact tm_ext rfl (w6 oM) rfl (w5 e2) hks
    · have r1:=rec_ok hok d (t.ks.getD 0 tm0) l oM (w9 0 oM) hF
      have e:recT pl (d+1) l t=recT pl d l (t.ks.getD 0 tm0)++[⟨t.op,(((recT pl d l (t.ks.getD 0 tm0)).length:Nat):Int)-1,0,if t.op=2 then pl t.s else t.n,t.q⟩]:=by
        conv=>lhs;unfold recT
        rw[h1];rfl
      have a1:ari t.op=1:=by rw[w1,h1];rfl
      have hl:=r1.len;have hp:=r1.pos
      generalize recT pl d l (t.ks.getD 0 tm0)=m at r1 e hl
      have hf:Formed inp m.length ⟨t.op,((m.length:Nat):Int)-1,0,if t.op=2 then pl t.s else t.n,t.q⟩:=by
        refine ⟨by show 0≤ari t.op;omega,⟨fun _=>?_,fun h=>absurd (show 0<ari t.op by omega) h⟩,⟨fun h=>absurd (show 1<ari t.op from h) oM,fun _=>rfl⟩,hq,fun h=>absurd (show t.op=2 from h) oM,fun h=>?_,fun h h8=>?_⟩
        · show 0≤((m.length:Nat):Int)-1∧((m.length:Nat):Int)-1<(m.length:Nat)
          omega
        · show -12≤(if t.op=2 then pl t.s else t.n)∧(if t.op=2 then pl t.s else t.n)≤12
          rw[if_neg oM];exact ⟨w7,w8⟩
        · show (if t.op=2 then pl t.s else t.n)=0
          rw[if_neg h];exact w6 h8
      have ec:cntT (d+1) t=1+(0+cntT d (t.ks.getD 0 tm0)):=by
        conv=>lhs;unfold cntT
        rw[h1];rfl
      rw[e,ec];obtain ⟨pm,rfl⟩:=r1.pre;refine ⟨fun hl=>lq_snocS (r1.lq hl) w3,fun dp hp=>?_,⟨pm++[_],by rw[List.append_assoc]⟩,by rw[List.length_append,hl];simp;omega,by omega,formed_snoc r1.fm hf,fun f hf'=>?_⟩
      · obtain ⟨dp1,q1,q2,q3⟩:=r1.dps dp hp
        refine ⟨_,dps_snoc (e:=d+1) q1 oM oM (fun _=>⟨by show ((((l++pm).length:Nat):Int)-1).toNat<_;omega,by show dp1 ((((l++pm).length:Nat):Int)-1).toNat<_;rw[show ((((l++pm).length:Nat):Int)-1).toNat=(l++pm).length-1 by omega];omega⟩) (fun h=>absurd (show 1<ari t.op from h) oM) (formed_ab r1.fm),fun k hk=>?_,by simp⟩
        show (if k<(l++pm).length then dp1 k else d+1)=dp k
        rw[if_pos oM];exact q2 k hk
      obtain ⟨g,rfl⟩:∃ g,f=g+1:=⟨f-1,by simp at hf';omega⟩
      generalize l++pm=m at r1 e hl hf hf' ⊢
      rw[show (m++[(⟨t.op,((m.length:Nat):Int)-1,0,if t.op=2 then pl t.s else t.n,t.q⟩:Stp)]).length-1=m.length by simp];rw[List.length_append,List.length_singleton] at hf'
      conv=>lhs;unfold trT
      rw[getD_last]
      show (if t.op=2 then _ else if ari t.op=1 then Tm.mk t.op (if t.op=2 then pl t.s else t.n) 0 ⟨#[]⟩ [trT nm _ g (((m.length:Nat):Int)-1).toNat] else _)=t
      rw[if_neg oM,if_pos a1,if_neg oM,show (((m.length:Nat):Int)-1).toNat=m.length-1 by omega,trT_pre r1.fm _ _ oM,r1.tr g oM];exact tm_ext rfl rfl (w2 oM) (w5 oM) (list_one h1)
    · have r1:=rec_ok hok d (t.ks.getD 0 tm0) l oM (w9 0 oM) hF
      have r2:=rec_ok hok d (t.ks.getD 1 tm0) (recT pl d l (t.ks.getD 0 tm0)) oM (w9 1 oM) r1.fm
      have e:recT pl (d+1) l t=recT pl d (recT pl d l (t.ks.getD 0 tm0)) (t.ks.getD 1 tm0)++[⟨t.op,(((recT pl d l (t.ks.getD 0 tm0)).length:Nat):Int)-1,(((recT pl d (recT pl d l (t.ks.getD 0 tm0)) (t.ks.getD 1 tm0)).length:Nat):Int)-1,if t.op=2 then pl t.s else t.n,t.q⟩]:=by
        conv=>lhs;unfold recT
        rw[h2];rfl
      have a2:ari t.op=2:=by rw[w1,h2];rfl
      have hl1:=r1.len;have hp1:=r1.pos;have hl2:=r2.len;have hp2:=r2.pos
      have ec:cntT (d+1) t=1+(0+cntT d (t.ks.getD 0 tm0)+cntT d (t.ks.getD 1 tm0)):=by
        conv=>lhs;unfold cntT
        rw[h2];rfl
      rw[e,ec]
      generalize recT pl d (recT pl d l (t.ks.getD 0 tm0)) (t.ks.getD 1 tm0)=z at r2 e hl2 ⊢
      generalize recT pl d l (t.ks.getD 0 tm0)=m at r1 r2 e hl1 hl2 ⊢
      have hf:Formed inp z.length ⟨t.op,((m.length:Nat):Int)-1,((z.length:Nat):Int)-1,if t.op=2 then pl t.s else t.n,t.q⟩:=by
        refine ⟨by show 0≤ari t.op;omega,⟨fun _=>?_,fun h=>absurd (show 0<ari t.op by omega) h⟩,⟨fun _=>?_,fun h=>absurd (show 1<ari t.op by omega) h⟩,hq,fun h=>absurd (show t.op=2 from h) oM,fun h=>absurd (show t.op=8 from h) oM,fun h h8=>?_⟩
        · show 0≤((m.length:Nat):Int)-1∧((m.length:Nat):Int)-1<(z.length:Nat)
          omega
        · show 0≤((z.length:Nat):Int)-1∧((z.length:Nat):Int)-1<(z.length:Nat)
          omega
        · show (if t.op=2 then pl t.s else t.n)=0
          rw[if_neg h];exact w6 h8
      obtain ⟨pm,rfl⟩:=r1.pre;obtain ⟨pz,hz⟩:=r2.pre;refine ⟨fun hl=>lq_snocS (r2.lq (r1.lq hl)) w3,fun dp hp=>?_,⟨pm++(pz++[_]),by rw[hz,List.append_assoc,List.append_assoc]⟩,by rw[List.length_append,hl2,hl1];simp;omega,by omega,formed_snoc r2.fm hf,fun f hf'=>?_⟩
      · obtain ⟨dp1,q1,q2,q3⟩:=r1.dps dp hp
        obtain ⟨dp2,p1,p2,p3⟩:=r2.dps dp1 q1;have e1:((((l++pm).length:Nat):Int)-1).toNat=(l++pm).length-1:=by omega
        have e2:(((z.length:Nat):Int)-1).toNat=z.length-1:=by omega
        refine ⟨_,dps_snoc (e:=d+1) p1 oM oM (fun _=>⟨by show ((((l++pm).length:Nat):Int)-1).toNat<_;omega,by show dp2 ((((l++pm).length:Nat):Int)-1).toNat<_;rw[e1,p2 _ oM];omega⟩) (fun _=>⟨by show (((z.length:Nat):Int)-1).toNat<_;omega,by show dp2 (((z.length:Nat):Int)-1).toNat<_;rw[e2];omega⟩) (formed_ab r2.fm),fun k hk=>?_,by simp⟩
        show (if k<z.length then dp2 k else d+1)=dp k
        rw[if_pos oM,p2 k oM];exact q2 k hk
      obtain ⟨g,rfl⟩:∃ g,f=g+1:=⟨f-1,by simp at hf';omega⟩
      generalize l++pm=m at r1 r2 e hl1 hl2 hf hf' hz ⊢
      rw[show (z++[(⟨t.op,((m.length:Nat):Int)-1,((z.length:Nat):Int)-1,if t.op=2 then pl t.s else t.n,t.q⟩:Stp)]).length-1=z.length by simp];rw[List.length_append,List.length_singleton] at hf'
      conv=>lhs;unfold trT
      rw[getD_last]
      show (if t.op=2 then _ else if ari t.op=1 then _ else if ari t.op=2 then Tm.mk t.op 0 0 ⟨#[]⟩ [trT nm _ g (((m.length:Nat):Int)-1).toNat,trT nm _ g (((z.length:Nat):Int)-1).toNat] else _)=t
      have h1':trT nm z g (m.length-1)=t.ks.getD 0 tm0:=by rw[hz,trT_pre r1.fm _ _ oM,r1.tr g oM]
      rw[if_neg oM,if_neg oM,if_pos a2,show (((m.length:Nat):Int)-1).toNat=m.length-1 by omega,show (((z.length:Nat):Int)-1).toNat=z.length-1 by omega,trT_pre r2.fm _ _ oM,trT_pre r2.fm _ _ oM,r2.tr g oM,h1'];exact tm_ext rfl (w6 oM) (w2 oM) (w5 oM) (list_two h2)
def allS (pl:ByteArray→Int)(d:Nat)(ts:List Tm):Nat→List Stp
  | 0=>[]
  | k+1=>recT pl d (allS pl d ts k) (ts.getD k tm0)
def allO (pl:ByteArray→Int)(d:Nat)(ts:List Tm):Nat→List Int
  | 0=>[]
  | k+1=>allO pl d ts k++[(((allS pl d ts (k+1)).length:Nat):Int)-1]
theorem allO_len {pl:ByteArray→Int}{d:Nat}{ts:List Tm}:∀ k,(allO pl d ts k).length=k
  | 0=>rfl
  | k+1=>by unfold allO;rw[List.length_append,allO_len k];rfl
structure AllOk (nm:Int→ByteArray) (inp:Int) (d:Nat) (ts:List Tm) (k:Nat) (l:List Stp) (os:List Int) (c:Nat):Prop where
  len:l.length=c
  fm:∀ k,k<l.length→Formed inp k (l.getD k stp0)
  lq:∀ i,LQ 1 (l.getD i stp0).q
  dps:∃ dp,DpS dp l
  out:∀ j,j<k→0≤os.getD j 0∧os.getD j 0<(l.length:Nat)∧trT nm l (l.length+1) (os.getD j 0).toNat=ts.getD j tm0
theorem all_ok {ok:ByteArray→Prop}{nm:Int→ByteArray}{pl:ByteArray→Int}{inp:Int}(hok:∀ s,ok s→nmOk nm pl inp s){d:Nat}(hd:d≤20){ts:List Tm}:∀ k,k≤ts.length→(∀ i,i<k→WfT ok d (ts.getD i tm0))→AllOk nm inp d ts k (allS pl d ts k) (allO pl d ts k) (sumN (fun i=>cntT d (ts.getD i tm0)) k)
  | 0,_,_=>⟨rfl,fun k hk=>absurd hk (Nat.not_lt_zero k),fun i=>by show LQ 1 (([]:List Stp).getD i stp0).q;rw[List.getD_nil];exact lq0 kD,⟨fun _=>1,⟨fun k hk=>absurd hk (Nat.not_lt_zero k),fun k hk=>absurd hk (Nat.not_lt_zero k),fun k hk=>absurd hk (Nat.not_lt_zero k),fun k hk=>absurd hk (Nat.not_lt_zero k)⟩⟩,fun j hj=>absurd hj (Nat.not_lt_zero j)⟩
  | k + 1,hk,hw=>by
    have ih:=all_ok hok hd k oM (fun i hi=>hw i oM);have r:=rec_ok hok d (ts.getD k tm0) (allS pl d ts k) hd (hw k oM) ih.fm;obtain ⟨dp,hdp⟩:=ih.dps;obtain ⟨dp',h1,_,_⟩:=r.dps dp hdp;have e:allS pl d ts (k+1)=recT pl d (allS pl d ts k) (ts.getD k tm0):=rfl;have ol:=allO_len (pl:=pl) (d:=d) (ts:=ts) k;rw[e] at *
    have hl:=r.len;have hp:=r.pos;refine ⟨by rw[hl,ih.len];rfl,r.fm,r.lq ih.lq,⟨dp',h1⟩,fun j hj=>?_⟩
    show 0≤(allO pl d ts k++[(((recT pl d (allS pl d ts k) (ts.getD k tm0)).length:Nat):Int)-1]).getD j 0∧_
    rw[show (allO pl d ts (k+1)).getD j 0=(allO pl d ts k++[(((recT pl d (allS pl d ts k) (ts.getD k tm0)).length:Nat):Int)-1]).getD j 0 from rfl];rw[getD_snoc,ol]
    by_cases c:j<k
    · rw[if_pos c]
      obtain ⟨o1,o2,o3⟩:=ih.out j c;obtain ⟨m,hm⟩:=r.pre;refine ⟨o1,by omega,?_⟩;rw[hm,trT_pre ih.fm _ _ oM,trT_more ih.fm _ (allS pl d ts k).length.succ _ (by rw[List.length_append];omega) oM oM];exact o3
    · obtain rfl:j=k:=by omega
      rw[if_neg c,if_pos rfl];refine ⟨by omega,by omega,?_⟩;rw[show ((((recT pl d (allS pl d ts j) (ts.getD j tm0)).length:Nat):Int)-1).toNat=(recT pl d (allS pl d ts j) (ts.getD j tm0)).length-1 by omega];exact r.tr _ oM
def okx (s:ByteArray):Prop:=s=⟨#[120]⟩∨s=⟨#[121]⟩∨s=⟨#[122]⟩
theorem okx_at:∀ {k:Nat},k<3→okx (([⟨#[120]⟩,⟨#[121]⟩,⟨#[122]⟩]:List ByteArray).getD k ⟨#[]⟩)
  | 0,_=>.inl rfl
  | 1,_=>.inr (.inl rfl)
  | 2,_=>.inr (.inr rfl)
def GrT (d:Nat)(t:Tm):Prop:=WfT okx d t∧3*wgt d t≤3^d
theorem GrT.num {d:Nat}{q:Rat}(h:LQ 1 q):GrT (d+1) (.mk 1 0 q ⟨#[]⟩ []) :=
  ⟨⟨rfl,fun h=>absurd rfl h,h,fun h=>absurd (show (1:Int)=2 from h) kD,fun _=>rfl,fun _=>rfl,by show (-12:Int)≤0;decide,by show (0:Int)≤12;decide,fun i hi=>absurd hi (Nat.not_lt_zero i)⟩,by
    have:=Nat.two_pow_pos d;have:0<3^d:=Nat.pow_pos kD
    show 3*1≤3^(d+1)
    rw[Nat.pow_succ];omega⟩
theorem GrT.name {d:Nat}{s:ByteArray}(h:okx s):GrT (d+1) (.mk 2 0 0 s []) :=
  ⟨⟨rfl,fun _=>rfl,lq0 kD,fun _=>h,fun h=>absurd rfl h,fun _=>rfl,by show (-12:Int)≤0;decide,by show (0:Int)≤12;decide,fun i hi=>absurd hi (Nat.not_lt_zero i)⟩,by
    have:0<3^d:=Nat.pow_pos kD
    show 3*1≤3^(d+1)
    rw[Nat.pow_succ];omega⟩
theorem GrT.one {d:Nat}{op n:Int}{t:Tm}(x:GrT d t)(ha:ari op=1)(h8:op≠8→n=0)(h1 : -3≤n)(h2:n≤3):GrT (d+1) (.mk op n 0 ⟨#[]⟩ [t]):=by
  refine ⟨⟨ha,fun _=>rfl,lq0 kD,fun h=>?_,fun _=>rfl,h8,by show (-12:Int)≤n;omega,by show n≤12;omega,fun i hi=>?_⟩,?_⟩
  · have h:op=2:=h
    rw[h] at ha;exact absurd ha kD
  · have:i=0:=by have:i<1:=hi;omega
    subst this;exact x.1
  · show 3*((if op=11 then 2 else if op=8 then timesN n else 1)*(0+wgt d t))≤3^(d+1)
    have hf:(if op=11 then 2 else if op=8 then timesN n else 1)≤3:=by
      unfold timesN
      repeat' split
      all_goals omega
    have:=Nat.mul_le_mul hf x.2;rw[Nat.pow_succ,Nat.zero_add,Nat.mul_left_comm,Nat.mul_comm (3^d)];exact this
theorem GrT.two {d:Nat}{op:Int}{t u:Tm}(x:GrT d t)(y:GrT d u)(ha:ari op=2):GrT (d+1) (.mk op 0 0 ⟨#[]⟩ [t,u]):=by
  have h8:op≠8:=fun h=>by rw[h] at ha;exact absurd ha kD
  have h11:op≠11:=fun h=>by rw[h] at ha;exact absurd ha kD
  refine ⟨⟨ha,fun _=>rfl,lq0 kD,fun h=>?_,fun _=>rfl,fun _=>rfl,by show (-12:Int)≤0;decide,by show (0:Int)≤12;decide,fun i hi=>?_⟩,?_⟩
  · have h:op=2:=h
    rw[h] at ha;exact absurd ha kD
  · have:i=0∨i=1:=by have:i<2:=hi;omega
    rcases this with rfl|rfl
    · exact x.1
    · exact y.1
  · show 3*((if op=11 then 2 else if op=8 then timesN 0 else 1)*(0+wgt d t+wgt d u))≤3^(d+1)
    rw[if_neg h11,if_neg h8,Nat.pow_succ];have:=x.2;have:=y.2
    omega
section
variable {d:Nat} {h:Hp}
theorem rz_nil:RZ h (false,.slice none 0 0,.slice none 0 0) 0:=⟨false,⟨none,0,none,0,rfl,Nat.le_refl _,Nat.le_refl _,SlO.nil,SlO.nil⟩,fun _=>rfl⟩
theorem rm_num {b:Bool}{zA dA:Option Addr}{zn zc dn dc:Nat}{q:Rat}(hz:RZ h (b,.slice zA zn zc,.slice dA dn dc) q):RmH (d+1) h ⟨1,0,b,zA,zn,zc,dA,dn,dc,⟨#[]⟩,none,0,0⟩ (.mk 1 0 q ⟨#[]⟩ []) :=
  ⟨rfl,rfl,hz,rfl,rfl,Nat.le_refl _,[],rfl,SlO.nil,fun i hi=>absurd hi (Nat.not_lt_zero i)⟩
theorem rm_name {s:ByteArray}:RmH (d+1) h ⟨2,0,false,none,0,0,none,0,0,s,none,0,0⟩ (.mk 2 0 0 s []) :=
  ⟨rfl,rfl,rz_nil,rfl,rfl,Nat.le_refl _,[],rfl,SlO.nil,fun i hi=>absurd hi (Nat.not_lt_zero i)⟩
theorem rm_one {op n:Int}{p:RTm}{t:Tm}{b:Nat}(x:RmH d h p t)(hA:SlO 7 rmc rtm0 h (some ⟨b,0,none⟩) [p]):RmH (d+1) h ⟨op,n,false,none,0,0,none,0,0,⟨#[]⟩,some ⟨b,0,none⟩,1,1⟩ (.mk op n 0 ⟨#[]⟩ [t]) :=
  ⟨rfl,rfl,rz_nil,rfl,rfl,Nat.le_refl _,[p],rfl,hA,fun i hi=>by
    have:i=0:=by have:i<1:=hi;omega
    subst this;exact x⟩
theorem rm_two {op:Int}{p q:RTm}{t u:Tm}{b:Nat}(x:RmH d h p t)(y:RmH d h q u)(hA:SlO 7 rmc rtm0 h (some ⟨b,0,none⟩) [p,q]):RmH (d+1) h ⟨op,0,false,none,0,0,none,0,0,⟨#[]⟩,some ⟨b,0,none⟩,2,2⟩ (.mk op 0 0 ⟨#[]⟩ [t,u]) :=
  ⟨rfl,rfl,rz_nil,rfl,rfl,Nat.le_refl _,[p,q],rfl,hA,fun i hi=>by
    have:i=0∨i=1:=by have:i<2:=hi;omega
    rcases this with rfl|rfl
    · exact x
    · exact y⟩
end
theorem Rms.mono {d e:Nat}{h:Hp}{rs:List RTm}{ts:List Tm}(x:Rms d h rs ts)(u:d≤e):Rms e h rs ts:=⟨x.len,fun i hi=>(x.at_ i hi).mono u⟩
theorem Rms.set {d:Nat}{h:Hp}{rs:List RTm}{ts:List Tm}{r:RTm}{t:Tm}(x:Rms d h rs ts)(k:Nat)(y:RmH d h r t):Rms d h (rs.set k r) (ts.set k t):=by
  refine ⟨by simp[x.len],fun i hi=>?_⟩;rw[List.length_set] at hi
  rw[List.getD_eq_getElem?_getD,List.getD_eq_getElem?_getD,List.getElem?_set,List.getElem?_set,x.len]
  by_cases e:k=i
  · subst e
    rw[if_pos rfl,if_pos rfl,if_pos hi,if_pos hi];exact y
  · rw[if_neg e,if_neg e,←List.getD_eq_getElem?_getD,←List.getD_eq_getElem?_getD];exact x.at_ i hi
def smw (s:ByteArray):Prop:=s.size≤1000
theorem okx_smw {s:ByteArray}(h:okx s):smw s:=by
  rcases h with rfl|rfl|rfl<;>(unfold smw;decide)
theorem smw0:smw ⟨#[]⟩:=by unfold smw;decide
def SpO (d:Nat)(h:Hp)(r:RTm)(t:Tm):Prop:=RmH (d+3) h r t∧SmT smw (d+3) t
theorem SpO.gw {d:Nat}{h h':Hp}{r:RTm}{t:Tm}(x:SpO d h r t)(u:Gw h h'):SpO d h' r t:=⟨x.1.gw u,x.2⟩
theorem wf_smw {d:Nat}{t:Tm}(w:WfT okx d t):SmT smw d t:=w.sm (sm:=smw) (fun _ h=>okx_smw h) smw0
theorem getD_setE {α:Type}{l:List α}{k i:Nat}{x d:α}(p:α→Prop)(h:∀ i,i<l.length→p (l.getD i d))(hx:p x)(hi:i<(l.set k x).length):p ((l.set k x).getD i d):=by
  rw[List.length_set] at hi
  rw[List.getD_eq_getElem?_getD,List.getElem?_set]
  by_cases e:k=i
  · subst e
    rw[if_pos rfl,if_pos hi];exact hx
  · rw[if_neg e,←List.getD_eq_getElem?_getD];exact h i hi
theorem getD_snocE {α:Type}{l:List α}{i:Nat}{x d:α}(p:α→Prop)(h:∀ i,i<l.length→p (l.getD i d))(hx:p x)(hi:i<(l++[x]).length):p ((l++[x]).getD i d):=by
  rw[List.length_append,List.length_singleton] at hi
  rw[getD_snoc]
  by_cases e:i<l.length
  · rw[if_pos e];exact h i e
  · rw[if_neg e,if_pos oM];exact hx
theorem sm_mk {d:Nat}{op n:Int}{q:Rat}{s:ByteArray}{ks:List Tm}(hk:ks.length≤3)(ho : -1000≤op∧op≤1000)(hn : -1000≤n∧n≤1000)(hq:LQ 1 q)(hs:smw s)(hW:∀ i,i<ks.length→SmT smw d (ks.getD i tm0)):SmT smw (d+1) (.mk op n q s ks):=⟨hk,ho,hn,hq,hs,hW⟩
theorem sm_one {d:Nat}{n:Int}{t:Tm}(hn : -1000≤n∧n≤1000)(h:SmT smw d t):SmT smw (d+1) (.mk 8 n 0 ⟨#[]⟩ [t]) :=
  ⟨by show 1≤3;decide,by show (-1000:Int)≤8∧(8:Int)≤1000;decide,hn,lq0 kD,smw0,fun i hi=>by
    have:i=0:=by have:i<1:=hi;omega
    subst this;exact h⟩
theorem pick4 (e:Int):pick e 4=0∨pick e 4=1∨pick e 4=2∨pick e 4=3:=by have:=pick_lt e 4 oM;omega
theorem getD_seq {α:Type}{l:List α}{k:Nat}{x d:α}(h:k<l.length):(l.set k x).getD k d=x:=by rw[getD_kid h,if_pos rfl]
theorem getD_sne {α:Type}{l:List α}{k i:Nat}{x d:α}(h:i≠k):(l.set k x).getD i d=l.getD i d:=by
  rw[List.getD_eq_getElem?_getD,List.getElem?_set_ne (Ne.symm h),←List.getD_eq_getElem?_getD]
theorem op_num {inp:Int}{k:Nat}{s:Stp}(f:Formed inp k s)(h2:s.op≠2)(h1:ari s.op≠1)(h3:ari s.op≠2):s.op=1:=by
  have:=ari_cases s.op;have:=f.1
  omega
def TmsR (dp:Nat→Nat)(nm:Int→ByteArray)(l:List Stp)(h:Hp)(k:Nat)(ps:List PTm):Prop:=∀ i,i<k→TmH (dp i) h (ps.getD i ptm0) (tr nm l i)
theorem TmsR.gw {dp:Nat→Nat}{nm:Int→ByteArray}{l:List Stp}{h h':Hp}{k:Nat}{ps:List PTm}(x:TmsR dp nm l h k ps)(u:Gw h h'):TmsR dp nm l h' k ps:=fun i hi=>(x i hi).gw u
theorem TmsR.put {dp:Nat→Nat}{nm:Int→ByteArray}{l:List Stp}{h:Hp}{k:Nat}{ps qs:List PTm}(x:TmsR dp nm l h k ps)(hl:k<ps.length)(he:∀ i,i<k→qs.getD i ptm0=ps.getD i ptm0)(y:TmH (dp k) h (qs.getD k ptm0) (tr nm l k)):TmsR dp nm l h (k+1) qs:=fun i hi=>by
  by_cases e:i=k
  · subst e;exact y
  · rw[he i oM];exact x i oM
section
variable {nm:Int→ByteArray} {l:List Stp} {inp:Int} {h:Hp} {k:Nat} {dp:Nat→Nat}
theorem tr_num_h (h1:1≤dp k)(h2:(l.getD k stp0).op=1):TmH (dp k) h ⟨(l.getD k stp0).op,0,(l.getD k stp0).q,⟨#[]⟩,none,0,0⟩ (tr nm l k):=by
  obtain ⟨e,he⟩:∃ e,dp k=e+1:=⟨dp k-1,by omega⟩;rw[tr_num h2,h2,he];exact ⟨rfl,rfl,rfl,rfl,rfl,Nat.le_refl _,[],rfl,SlO.nil,fun i hi=>absurd hi (Nat.not_lt_zero i)⟩
theorem tr_leaf_h (h1:1≤dp k)(hq0:∀ k,k<l.length→(l.getD k stp0).op≠1→(l.getD k stp0).q=0){s:ByteArray}(hk:k<l.length)(h2:(l.getD k stp0).op=2)(hs:s=nm (l.getD k stp0).n):TmH (dp k) h ⟨(l.getD k stp0).op,0,(l.getD k stp0).q,s,none,0,0⟩ (tr nm l k):=by
  obtain ⟨e,he⟩:∃ e,dp k=e+1:=⟨dp k-1,by omega⟩;rw[tr_leaf h2,hq0 k hk oM,h2,hs,he];exact ⟨rfl,rfl,rfl,rfl,rfl,Nat.le_refl _,[],rfl,SlO.nil,fun i hi=>absurd hi (Nat.not_lt_zero i)⟩
variable (hdp:DpS dp l) (hF:∀ k,k<l.length→Formed inp k (l.getD k stp0)) (hq0:∀ k,k<l.length→(l.getD k stp0).op≠1→(l.getD k stp0).q=0)
include hdp hF hq0
theorem tr_one_h {p:PTm}{b:Nat}(hk:k<l.length)(h1:ari (l.getD k stp0).op=1)(x:TmH (dp (l.getD k stp0).a.toNat) h p (tr nm l (l.getD k stp0).a.toNat))(hA:SlO 9 ptc ptm0 h (some ⟨b,0,none⟩) [p]):TmH (dp k) h ⟨(l.getD k stp0).op,(l.getD k stp0).n,(l.getD k stp0).q,⟨#[]⟩,some ⟨b,0,none⟩,1,1⟩ (tr nm l k):=by
  have ha:=(hF k hk).opr.1 oM;have hc:=ari_cases (l.getD k stp0).op;have hda:=hdp.a k hk oM;obtain ⟨e,he⟩:=hdp.suc hk;rw[tr_one hF hk h1,hq0 k hk (fun e=>by rw[e] at h1;exact absurd h1 kD),he];refine ⟨rfl,rfl,rfl,rfl,rfl,Nat.le_refl _,[p],rfl,hA,fun i hi=>?_⟩;have:i=0:=by have:i<1:=hi;omega
  subst this;exact x.mono oM
theorem tr_two_h {p q:PTm}{b:Nat}(hk:k<l.length)(h1:ari (l.getD k stp0).op=2)(x:TmH (dp (l.getD k stp0).a.toNat) h p (tr nm l (l.getD k stp0).a.toNat))(y:TmH (dp (l.getD k stp0).b.toNat) h q (tr nm l (l.getD k stp0).b.toNat))(hA:SlO 9 ptc ptm0 h (some ⟨b,0,none⟩) [p,q]):TmH (dp k) h ⟨(l.getD k stp0).op,0,(l.getD k stp0).q,⟨#[]⟩,some ⟨b,0,none⟩,2,2⟩ (tr nm l k):=by
  have ha:=(hF k hk).opr.1 oM;have hb:=(hF k hk).opr.2.1 oM;have hda:=hdp.a k hk oM;have hdb:=hdp.b k hk oM;obtain ⟨e,he⟩:=hdp.suc hk;rw[tr_two hF hk h1,hq0 k hk (fun e=>by rw[e] at h1;exact absurd h1 kD),he];refine ⟨rfl,rfl,rfl,rfl,rfl,Nat.le_refl _,[p,q],rfl,hA,fun i hi=>?_⟩;have:i=0∨i=1:=by have:i<2:=hi;omega
  rcases this with rfl|rfl
  · exact x.mono oM
  · exact y.mono oM
end
def tmE (dp:Nat→Nat)(inp:Int)(l:List Stp)(os:List Int)(out:Int)(nn:Nat)(e0:Int)(nm:Int→ByteArray):Int :=
  if chkTp inp l os=0∧0≤out∧out<os.length then (if (nn:Int)=inp then (if e0=0 then (if 1000<wgt (dp (os.getD out.toNat 0).toNat) (tr nm l (os.getD out.toNat 0).toNat) then 18 else 0) else e0) else 5) else 1
section
variable {dp:Nat→Nat} {inp:Int} {l:List Stp} {os:List Int} {out:Int} {nn:Nat} {e0:Int} {nm:Int→ByteArray}
theorem tmE_1 (h:¬(chkTp inp l os=0∧0≤out∧out<os.length)):tmE dp inp l os out nn e0 nm=1:=if_neg h
theorem tmE_5 (h:chkTp inp l os=0∧0≤out∧out<os.length)(h2:(nn:Int)≠inp):tmE dp inp l os out nn e0 nm=5:=by unfold tmE;rw[if_pos h,if_neg h2]
theorem tmE_n (h:chkTp inp l os=0∧0≤out∧out<os.length)(h2:(nn:Int)=inp)(h3:e0≠0):tmE dp inp l os out nn e0 nm=e0:=by unfold tmE;rw[if_pos h,if_pos h2,if_neg h3]
end
theorem tChkG  (isb:ByteArray→Bool)(sm:ByteArray→Prop)(hIs:∀ s,sm s→∀ (w:World) (h:Hp),G w h→Calls Tryz.prog 54 #[.string s] w (Ret w h (fun v _=>∃ b,v=.bool b∧b=isb s)))(d:Nat)(p:PTm)(t:Tm)(hd:d≤24)(w:World)(h:Hp)(g:G w h)(hT:TmH d h p t)(hS:SmT sm d t):CR 22 #[pX p] w h (fun v _=>∃ e:Int,v=iV e∧((WfT (fun s=>isb s=true) d t∧e=(if 1000<wgt d t then 18 else 0))∨(¬WfT (fun s=>isb s=true) d t∧e=2))):=by
 have hs:=((sS g).add (K:=fun h_=>TmH d h_ p t) hT);refine go Tryz.func22 [(0,pX p)] rfl (cSL (lA 1 61 (pC p) hs (fun b1 w2 h3 hs=>lL hs [.v 2 (iV 0)] (lNcQ (cSLlL hs [.o 3 (pX p) 0 0 9] (lCval 4 hs (tDeeper sm d p t 24 _ _ hs.g hs.f.1 hS oM oM) (fun w4 h5 hs=>lNIF (cK (cQ (cSLlL hs [.o 5 (pX p) 0 0 9] (lC 6 hs (tFormedT isb sm hIs d p t _ _ hs.g hs.f.1 hS) ?_)))))))))));rintro _ w6 h7 hs ⟨bf,rfl,hbf⟩;cases hb8:(bf)
 ·
  exact lL hs [.v 7 qT] (lNIT (cSLlL hs [.v 2 (iV 2)] (lNkXr hs [] (iV 2) (⟨_,rfl,.inr ⟨fun h_=>Bool.noConfusion ((hbf.2 h_).symm.trans aM),rfl⟩⟩))))
 refine lL hs [.v 7 qF] (lNIF (cK (cQ (cSLlL hs [.o 8 (pX p) 0 0 9] (lCval 9 hs (tWeightT (fun s=>isb s=true) d p t _ _ hs.g hs.f.1 (hbf.1 aM)) (fun w9 _ hs=>?_))))));cases za:(decide ((1000:Int)<(((min (wgt d t) 1001:Nat):Int):Int)))
 ·
  have zb:=oF za;exact lB 10 za (lNIF (cK (cSLlL hs [.v 2 (iV 0)] (lNkXr hs [] (iV 0) (⟨_,rfl,.inl ⟨hbf.1 aM,by split<;>omega⟩⟩)))))
 have zb:=oT za;exact lB 10 za (lNIT (cSLlL hs [.v 2 (iV 18)] (lNkXr hs [] (iV 18) (⟨_,rfl,.inl ⟨hbf.1 aM,by split<;>omega⟩⟩))))
theorem tChkT (isb:ByteArray→Bool)(sm:ByteArray→Prop)(hIs:∀ s,sm s→∀ (w:World) (h:Hp),G w h→Calls Tryz.prog 54 #[.string s] w (Ret w h (fun v _=>∃ b,v=.bool b∧b=isb s)))(hsm:∀ s,isb s=true→sm s)(h0:sm ⟨#[]⟩)(d:Nat)(p:PTm)(t:Tm)(hd:d≤24)(w:World)(h:Hp)(g:G w h)(hT:TmH d h p t)(hW:WfT (fun s=>isb s=true) d t):Calls Tryz.prog 22 #[ptv p] w (Ret w h (fun v _=>v=iV (if 1000<wgt d t then 18 else 0))) :=
  (tChkG isb sm hIs d p t hd w h g hT (hW.sm hsm h0)).mono fun e w' ⟨v,h',e1,u,e2,e3,e4⟩=>⟨v,h',e1,u,by
    rcases e4 with ⟨_,e4⟩|⟨e4,_⟩
    · rw[e3,e4]
    · exact absurd hW e4⟩
theorem tTerm (inp:Int)(A:Option Addr)(c:Nat)(l:List Stp)(O:Option Addr)(d:Nat)(os:List Int)(out:Int)(ns:List ByteArray)(Nm:Option Addr)(cN:Nat)(nm:Int→ByteArray)(hnm:nm=(fun z=>ns.getD z.toNat ⟨#[]⟩))(e0:Int)(isb:ByteArray→Bool)(sm:ByteArray→Prop)(hIs:∀ s,sm s→∀ (w:World) (h:Hp),G w h→Calls Tryz.prog 54 #[.string s] w (Ret w h (fun v _=>∃ b,v=.bool b∧b=isb s)))(hsm:∀ s,isb s=true→sm s)(h0:sm ⟨#[]⟩)(hCall:∀ (w:World) (h:Hp),G w h→SlO 1 strc ⟨#[]⟩ h Nm ns→Calls Tryz.prog 20 #[.slice Nm ns.length cN] w (Ret w h (fun v _=>v=iV e0)))(hok:e0=0→∀ i,i<ns.length→isb (ns.getD i ⟨#[]⟩)=true)(dp:Nat→Nat)(hdpc:chkTp inp l os=0→DpS dp l)(hl:l.length≤1000)(ho:os.length≤10)(hnl:ns.length≤10)(hq:∀ i,LQ 1 (l.getD i stp0).q)(w:World)(h:Hp)(g:G w h)(hA:SlO 9 stc stp0 h A l)(hO:Si O os h)(hN:SlO 1 strc ⟨#[]⟩ h Nm ns):CR 13 #[.agg #[iV inp,.slice A ((l).length) c,.slice O ((os).length) d],iV out,.slice Nm ns.length cN] w h (fun v h1=>∃ p,v=.tuple #[ptv p,iV (tmE dp inp l os out ns.length e0 nm)]∧((tmE dp inp l os out ns.length e0 nm)=0→TmH (dp (os.getD out.toNat 0).toNat) h1 p (tr nm l (os.getD out.toNat 0).toNat))∧((tmE dp inp l os out ns.length e0 nm)≠0→p.op=0)):=by
 have hs:=((((sS g).aS hA).aS hO).aS hN);refine go Tryz.func13 [(0,.agg #[iV inp,qS A ((l).length) c,qS O ((os).length) d]),(1,iV out),(2,qS Nm ns.length cN)] rfl (cSL (lA 3 40 ([iV inp,qS A ((l).length) c,qS O ((os).length) d]) hs (fun b1 w2 h3 hs=>lA 6 61 ([iV 0,iV 0,qF,uV 0,eS,uV 0,eS,eS,sZ]) hs (fun b4 w5 h6 hs=>lL hs [.v 7 (iV 0)] (lNcQ (cSLlL hs [.o 14 (.agg #[iV inp,qS A ((l).length) c,qS O ((os).length) d]) 1 0 3] (lCval 15 hs (tCheck inp A c l O d os oM oM (fun i _=>hq i) _ _ hs.g hs.f.r.1 hs.f.2.1) (fun w7 h8 hs=>?_))))))));cases hb9:((chkTp inp l os:Int) != (0:Int))
 ·
  have phb9:=eqOfBne hb9;refine lB 16 hb9 (lL hs [.m 17 16,.m 18 1] ?_);cases ze:(decide ((out:Int)<(0:Int)))
  ·
   have zo:=oF ze;refine lB 19 ze (lL hs [.v 20 qF,.m 21 20,.m 22 1,.v 23 (qP b1 2),.o 24 (qS O ((os).length) d) 1 2 1,.v 25 (nV ((os).length))] ?_);cases zf:(decide ((((os).length:Nat):Int)≤(out:Int)))
   ·
    have zp:=oF zf;refine lB 26 zf (lL hs [.v 27 qF] (lNIF (cK (cQ (cSLlL hs [.m 29 2,.v 30 (nV ns.length),.v 31 (pB b1),.o 32 (iV inp) 1 0 1] ?_)))));cases zg:((ns.length:Int) != (inp:Int))
    ·
     have zq:=eqOfBne zg;refine lB 33 zg (lNIF (cK (cQ (cSLlL hs [.m 35 2] (lCval 36 hs (hCall _ _ hs.g hs.f.1) (fun _ _ hs=>lL hs [.m 8 36] (lNS (lL hs [.m 37 8] ?_))))))));cases zi:((e0:Int) != (0:Int))
     ·
      have zr:=eqOfBne zi;refine lB 38 zi (lNIF (cK (cSL ?_)));have hck:chkTp inp l os=0:=by omega
      have hF:=(chk_formed hck).1;have hdp:=hdpc hck;have hOo:=(chk_formed hck).2.1 out.toNat oM;have hin:inp=(ns.length:Nat):=by omega
      obtain ⟨at_,hat⟩:∃ a_,a_=(os.getD out.toNat 0).toNat:=⟨_,rfl⟩;have hatl:os.getD out.toNat 0=(at_:Nat):=by omega
      have hWf:=wf_tr hdp hF hq (nm:=nm) (ok:=fun s=>isb s=true) (fun z z0 z1=>by rw[hnm];exact hok oM _ oM);have hq0:∀ k,k<l.length→(l.getD k stp0).op≠1→(l.getD k stp0).q=0:=fun k hk h1=>Rat.num_eq_zero.1 ((hF k hk).2.2.2.1 h1)
      refine lL hs [.v 41 (qP b1 2),.o 42 (qS O ((os).length) d) 1 2 1,.m 43 1] (lX 44 O ((os).length) d 1 out out.toNat ((hs.f.2.1).ok oM) ?_);refine lHe 45 (iV (os.getD out.toNat 0)) hs (((hs.f.2.1).el out.toNat oM)) (by rw[hatl]) (lIn 46 ((at_:Nat)+1) (at_+1) (lK 47 61 (at_+1) 9 112 (.agg #[iV 0,iV 0,qF,uV 0,eS,uV 0,eS,eS,sZ]) ptc ptm0 hs (fun za _ zK hs=>?_)));have hl19:(List.replicate (at_+1) ptm0).length=(at_+1):=by simp
      refine lL hs [.m 9 47] (lNcQ (cSLlL hs [.m 48 9,.v 49 (nV (at_+1)),.v 50 (iV 0)] (lN (cTo [(1,iV out),(2,qS Nm ns.length cN),(3,pB b1),(6,pB b4),(7,iV 0),(9,qS (sB za) (at_+1) (at_+1)),(49,nV (at_+1)),(50,iV 0)] ?_))));refine kZ ?_;replace hs:=hs.add (K:=fun h_=>TmsR dp nm l h_ 0 (List.replicate (at_+1) ptm0)) ((fun i hi=>absurd hi (Nat.not_lt_zero i)));refine cTo _ (CG.loop (fun μ_ Γ w_=>∃ (k:Nat) (L:List PTm) (h_:Hp),μ_=at_+1-k∧Γ=[(1,iV out),(2,qS Nm ns.length cN),(3,pB b1),(6,pB b4),(7,iV 0),(9,qS (sB za) (at_+1) (at_+1)),(49,nV (at_+1)),(50,nV k)]∧SS w h w_ h_ [⟨za,61,(L).flatMap ptc⟩,⟨b4,61,[iV 0,iV 0,qF,uV 0,eS,uV 0,eS,eS,sZ]⟩,⟨b1,40,[iV inp,qS A ((l).length) c,qS O ((os).length) d]⟩] [] [fun h_=>TmsR dp nm l h_ k L,fun h_=>SlO 1 strc ⟨#[]⟩ h_ Nm ns,Si O os,fun h_=>SlO 9 stc stp0 h_ A l]∧k≤at_+1∧L.length=at_+1) _ ⟨0,List.replicate (at_+1) ptm0,zK,rfl,rfl,hs.to _ _,Nat.zero_le _,(by simp)⟩ ?_);rintro _ _ _ ⟨k,L,_,hm22,rfl,hs,hk,hLl⟩;refine cSL ?_;cases zj:(decide ((k:Int)<(((at_+1):Nat):Int)))
      ·
       have zs:=oF zj;refine lB 51 zj (lNcQ (cIF (CG.exit ?_)))
       show CG _ _ _ _ _ _ _ _
       refine cSLlL hs [.m 121 9,.v 122 (qP b1 2),.o 123 (qS O ((os).length) d) 2 2 1,.m 124 1] (lX 125 O ((os).length) d 1 out out.toNat ((hs.f.r.1).ok oM) ?_);refine lHe 126 (iV (os.getD out.toNat 0)) hs (((hs.f.r.1).el out.toNat oM)) (by rw[hatl]) (lX 127 (sB za) (at_+1) (at_+1) 9 (at_:Nat) at_ rfl (lQ 128 0 L ptc 9 ptm0 at_ (pX ((L).getD at_ ptm0)) hs oM (lA 12 61 ([iV 0,iV 0,qF,uV 0,eS,uV 0,eS,eS,sZ]) hs (fun b24 _ _ hs=>lP 0 0 (pC ((L).getD at_ ptm0)) hs (fun _ hs=>lNcQ (cSLlL hs [.o 129 (pX ((L).getD at_ ptm0)) 0 0 9] (lCval 130 hs (tChkT isb sm hIs hsm h0 (dp at_) (L.getD at_ ptm0) (tr nm l at_) (by have q_:=hdp.le at_ oM;omega) _ _ hs.g (hs.f.1 at_ oM) (hWf _ at_ (Nat.lt_succ_self _) oM)) (fun _ _ hs=>lL hs [.m 13 130] (lNS (lL hs [.m 131 13] ?_))))))))));cases zk:(((if 1000<wgt (dp at_) (tr nm l at_) then 18 else 0):Int) != (0:Int))
       ·
        have zt:=eqOfBne zk;refine lB 132 zk (lNIF (cK (cSLlL hs [.o 135 (pX ((L).getD at_ ptm0)) 0 0 9] (lC 136 hs (tClone (fun s=>isb s=true) (dp at_) (L.getD at_ ptm0) (tr nm l at_) _ _ hs.g (hs.f.1 at_ oM) (hWf _ at_ (Nat.lt_succ_self _) oM)) ?_))));rintro _ _ _ hs ⟨pc,rfl,hpc⟩;replace hs:=(hs.add (K:=fun h_=>TmH (dp at_) h_ pc (tr nm l at_)) hpc);refine lP 2 0 (pC pc) hs (fun _ hs=>lL hs [.v 7 (iV 0)] (lN (kX ?_)));have he_:(tmE dp inp l os out ns.length e0 nm)=0:=by unfold tmE;rw[if_pos oM,if_pos oM,if_pos oM,←hat,if_neg oM]
        exact hs.ret [(2,0,9)] (.tuple #[pX pc,iV 0]) (by rw[he_];exact ⟨pc,rfl,fun _=>by rw[←hat];exact hs.f.1,fun h_=>absurd rfl h_⟩)
       have zt:=neOfBne zk;refine lB 132 zk (lNIT (cSLlL hs [.v 133 (.agg #[iV 0,iV 0,qF,uV 0,eS,uV 0,eS,eS,sZ]),.m 134 13] (lP 2 0 ([iV 0,iV 0,qF,uV 0,eS,uV 0,eS,eS,sZ]) hs (fun _ hs=>lL hs [.m 7 134] (lN (kX ?_))))));have he_:(tmE dp inp l os out ns.length e0 nm)=(if 1000<wgt (dp at_) (tr nm l at_) then 18 else 0):=(by unfold tmE;rw[if_pos oM,if_pos oM,if_pos oM,←hat]);exact hs.ret [(2,0,9)] (.tuple #[.agg #[iV 0,iV 0,qF,uV 0,eS,uV 0,eS,eS,sZ],iV (if 1000<wgt (dp at_) (tr nm l at_) then 18 else 0)]) (by rw[he_];exact ⟨ptm0,rfl,fun h_=>absurd h_ oM,fun _=>rfl⟩)
      have zs:=oT zj;refine lB 51 zj (lNcQ (cIT (cK (cQ (kZ (cSLlL hs [.m 52 50,.m 10 52] (lNS (lL hs [.v 53 (qP b1 1),.o 54 (qS A ((l).length) c) 2 1 1,.m 55 10] (lX 56 A ((l).length) c 9 (k:Nat) k ((hs.f.r.2.1).ok oM) ?_)))))))));refine lH 57 (sX (l.getD k stp0)) hs ((hs.f.r.2.1).el k oM) (lA 11 99 ([iV 0,iV 0,iV 0,iV 0,qF,uV 0,eS,uV 0,eS]) hs (fun zb _ zx hs=>lP 0 0 (sC (l.getD k stp0)) hs (fun _ hs=>lNS (lL hs [.m 58 9,.m 59 10,.v 60 (pB zb),.o 61 (iV ((l.getD k stp0).op)) 0 0 1,.v 62 (qP zb 4),.o 63 (qv ((l.getD k stp0).q)) 0 4 5,.v 64 (.agg #[iV ((l.getD k stp0).op),iV 0,.bool (ineg ((l.getD k stp0).q).num),uV (lo (iabs ((l.getD k stp0).q).num)),.string (hi (iabs ((l.getD k stp0).q).num)),uV (lo (qd ((l.getD k stp0).q))),.string (hi (qd ((l.getD k stp0).q))),eS,sZ])] (lX 65 (sB za) (at_+1) (at_+1) 9 (k:Nat) k rfl ?_)))));refine lW 1 L ptc 9 k (⟨(l.getD k stp0).op,0,(l.getD k stp0).q,⟨#[]⟩,none,0,0⟩:PTm) hs oM (fun _ hs=>?_);have zE:((L).set k (⟨(l.getD k stp0).op,0,(l.getD k stp0).q,⟨#[]⟩,none,0,0⟩:PTm)).length=(at_+1):=by rw[List.length_set];exact hLl
      replace hs:=hs.to [⟨zb,99,sC (l.getD k stp0)⟩,⟨za,61,((L).set k (⟨(l.getD k stp0).op,0,(l.getD k stp0).q,⟨#[]⟩,none,0,0⟩:PTm)).flatMap ptc⟩,⟨b4,61,[iV 0,iV 0,qF,uV 0,eS,uV 0,eS,eS,sZ]⟩,⟨b1,40,[iV inp,qS A ((l).length) c,qS O ((os).length) d]⟩] [];refine lNkZ (cSL ?_);obtain ⟨L1,hL1⟩:∃ q_,q_=(L).set k (⟨(l.getD k stp0).op,0,(l.getD k stp0).q,⟨#[]⟩,none,0,0⟩:PTm):=⟨_,rfl⟩;rw[←hL1] at hs
      have hl1:L1.length=at_+1:=by rw[hL1];exact zE
      have hg1:L1.getD k ptm0=(⟨(l.getD k stp0).op,0,(l.getD k stp0).q,⟨#[]⟩,none,0,0⟩:PTm):=by rw[hL1];exact getD_seq oM
      have hg2:∀ i,i≠k→L1.getD i ptm0=L.getD i ptm0:=fun i hi=>by rw[hL1];exact getD_sne hi
      have fk:=hF k oM;have hop:=fk.opr;obtain ⟨hx1,hx2,hx3,hx4⟩:=fk.ix;replace hs:=hs.to [⟨zb,99,sC (l.getD k stp0)⟩,⟨za,61,(L1).flatMap ptc⟩,⟨b4,61,[iV 0,iV 0,qF,uV 0,eS,uV 0,eS,eS,sZ]⟩,⟨b1,40,[iV inp,qS A ((l).length) c,qS O ((os).length) d]⟩] [];refine lL hs [.v 67 (pB zb),.o 68 (iV ((l.getD k stp0).op)) 0 0 1] ?_;cases zl:(((l.getD k stp0).op:Int) == (2:Int))
      ·
       have zu:=neOfBeq zl;refine lB 69 zl (lL hs [.m 66 69] (lNIF (cSLlL hs [.v 80 (pB zb),.o 81 (iV ((l.getD k stp0).op)) 0 0 1] (lCval 82 hs (tArity (l.getD k stp0).op _ _ hs.g) (fun _ _ hs=>?_)))));cases zm:((ari (l.getD k stp0).op:Int) == (1:Int))
       ·
        have zv:=neOfBeq zm;refine lB 83 zm (lL hs [.m 79 83] (lNIF (cSLlL hs [.v 101 (pB zb),.o 102 (iV ((l.getD k stp0).op)) 0 0 1] (lCval 103 hs (tArity (l.getD k stp0).op _ _ hs.g) (fun _ zA hs=>?_)))));cases zn:((ari (l.getD k stp0).op:Int) == (2:Int))
        ·
         have zw:=neOfBeq zn;refine lB 104 zn (lL hs [.m 100 104] (lNIF (cK (kQ ?_))));have hnew:TmH (dp k) zA ⟨(l.getD k stp0).op,0,(l.getD k stp0).q,⟨#[]⟩,none,0,0⟩ (tr nm l k):=tr_num_h (hdp.one k oM) (op_num fk oM oM oM);refine lIn 120 ((k:Nat)+1) (k+1) (lL hs [.m 50 120] (lD ?_));intro a_ ka;replace hs:=(hs.tl.add (K:=fun h_=>TmsR dp nm l h_ (k+1) L1) ((hs.f.1).put oM (fun i hi=>by first|exact hg2 i oM|(rw[getD_sne oM];exact hg2 i oM)|(rw[getD_sne oM,getD_sne oM];exact hg2 i oM)) (by first|(rw[hg1];exact hnew)|(rw[getD_seq oM,hg1];exact hnew)|(rw[getD_seq (by rw[List.length_set];omega),getD_seq oM,hg1];exact hnew))));replace hs:=hs.drop 1 0;refine ⟨_,_,?_,⟨k+1,L1,zA,rfl,rfl,hs.to _ _,oM,hl1⟩,ka.to _ kR⟩
         omega
        have zw:=eq_of_beq zn;refine lB 104 zn (lL hs [.m 100 104] (lNIT (cR 13 [] mixed hs al_nil ?_)));have hak:=hop.1 oM;have hbk:=hop.2.1 oM;refine eV 0 105 (qS (sB za) (at_+1) (at_+1)) (eV 1 106 (nV k) (eV 2 107 (qS (sB za) (at_+1) (at_+1)) (eV 3 108 (qP zb 1) (eO 4 109 [(0,1,1)] (iV ((l.getD k stp0).a)) hs (eX 5 110 (sB za) (at_+1) (at_+1) 9 ((l.getD k stp0).a) ((l.getD k stp0).a.toNat) rfl (eQ 6 111 1 L1 ptc 9 ptm0 ((l.getD k stp0).a.toNat) (pX ((L1).getD ((l.getD k stp0).a.toNat) ptm0)) hs oM ?_))))));refine eV 7 112 (qS (sB za) (at_+1) (at_+1)) (eV 8 113 (qP zb 2) (eO 9 114 [(0,2,1)] (iV ((l.getD k stp0).b)) hs (eX 10 115 (sB za) (at_+1) (at_+1) 9 ((l.getD k stp0).b) ((l.getD k stp0).b.toNat) rfl (eQ 11 116 1 L1 ptc 9 ptm0 ((l.getD k stp0).b.toNat) (pX ((L1).getD ((l.getD k stp0).b.toNat) ptm0)) hs oM (eR 12 117 61 2 ([iV (((L1).getD ((l.getD k stp0).a.toNat) ptm0).op),iV (((L1).getD ((l.getD k stp0).a.toNat) ptm0).n),.bool (ineg (((L1).getD ((l.getD k stp0).a.toNat) ptm0).q).num),uV (lo (iabs (((L1).getD ((l.getD k stp0).a.toNat) ptm0).q).num)),.string (hi (iabs (((L1).getD ((l.getD k stp0).a.toNat) ptm0).q).num)),uV (lo (qd (((L1).getD ((l.getD k stp0).a.toNat) ptm0).q))),.string (hi (qd (((L1).getD ((l.getD k stp0).a.toNat) ptm0).q))),.string (((L1).getD ((l.getD k stp0).a.toNat) ptm0).s),qS (((L1).getD ((l.getD k stp0).a.toNat) ptm0).A) (((L1).getD ((l.getD k stp0).a.toNat) ptm0).m) (((L1).getD ((l.getD k stp0).a.toNat) ptm0).c),iV (((L1).getD ((l.getD k stp0).b.toNat) ptm0).op),iV (((L1).getD ((l.getD k stp0).b.toNat) ptm0).n),.bool (ineg (((L1).getD ((l.getD k stp0).b.toNat) ptm0).q).num),uV (lo (iabs (((L1).getD ((l.getD k stp0).b.toNat) ptm0).q).num)),.string (hi (iabs (((L1).getD ((l.getD k stp0).b.toNat) ptm0).q).num)),uV (lo (qd (((L1).getD ((l.getD k stp0).b.toNat) ptm0).q))),.string (hi (qd (((L1).getD ((l.getD k stp0).b.toNat) ptm0).q))),.string (((L1).getD ((l.getD k stp0).b.toNat) ptm0).s),qS (((L1).getD ((l.getD k stp0).b.toNat) ptm0).A) (((L1).getD ((l.getD k stp0).b.toNat) ptm0).m) (((L1).getD ((l.getD k stp0).b.toNat) ptm0).c)]) hs (fun zc _ _ hs=>eD0 hs (fun _ zB hs=>tX 13 118 (sB za) (at_+1) (at_+1) 9 (k:Nat) k rfl (tV 14 119 (qP za (0+k*9+8)) (tWp 15 1 k 8 ([qS (sB zc) 2 2]) L1 ptc 9 ptm0 ({ (L1.getD k ptm0) with A:=sB zc,m:=2,c:=2 }:PTm) hs oM (fun _ hs=>?_))))))))));have zG:((L1).set k ({ (L1.getD k ptm0) with A:=sB zc,m:=2,c:=2 }:PTm)).length=(at_+1):=by rw[List.length_set];exact hl1
        replace hs:=hs.to [⟨zb,99,sC (l.getD k stp0)⟩,⟨za,61,((L1).set k ({ (L1.getD k ptm0) with A:=sB zc,m:=2,c:=2 }:PTm)).flatMap ptc⟩,⟨b4,61,[iV 0,iV 0,qF,uV 0,eS,uV 0,eS,eS,sZ]⟩,⟨b1,40,[iV inp,qS A ((l).length) c,qS O ((os).length) d]⟩] [];refine tN (cTo [(1,iV out),(2,qS Nm ns.length cN),(3,pB b1),(6,pB b4),(7,iV 0),(9,qS (sB za) (at_+1) (at_+1)),(49,nV (at_+1)),(50,nV k)] ?_);refine kQ ?_;replace hs:=hs.aS (SlO.of_flat (sz:=9) (f:=ptc) (d:=ptm0) (b:=zc) (o:=0) (l:=([(L1).getD ((l.getD k stp0).a.toNat) ptm0,(L1).getD ((l.getD k stp0).b.toNat) ptm0]:List PTm)) (fun _=>rfl) hs.f.1);have hnew:TmH (dp k) zB ⟨(l.getD k stp0).op,0,(l.getD k stp0).q,⟨#[]⟩,sB zc,2,2⟩ (tr nm l k):=tr_two_h hdp hF hq0 oM oM (by rw[show (L1).getD ((l.getD k stp0).a.toNat) ptm0=L.getD (l.getD k stp0).a.toNat ptm0 from by first|exact hg2 _ oM|(rw[getD_sne oM];exact hg2 _ oM)];exact hs.f.r.1 _ oM) (by rw[show (L1).getD ((l.getD k stp0).b.toNat) ptm0=L.getD (l.getD k stp0).b.toNat ptm0 from by first|exact hg2 _ oM|(rw[getD_sne oM];exact hg2 _ oM)];exact hs.f.r.1 _ oM) hs.f.1;refine lIn 120 ((k:Nat)+1) (k+1) (lL hs [.m 50 120] (lD ?_));intro a_ ka;replace hs:=(hs.tl.tl.tl.add (K:=fun h_=>TmsR dp nm l h_ (k+1) ((L1).set k ({ (L1.getD k ptm0) with A:=sB zc,m:=2,c:=2 }:PTm))) ((hs.f.r.1).put oM (fun i hi=>by first|exact hg2 i oM|(rw[getD_sne oM];exact hg2 i oM)|(rw[getD_sne oM,getD_sne oM];exact hg2 i oM)) (by first|(rw[hg1];exact hnew)|(rw[getD_seq oM,hg1];exact hnew)|(rw[getD_seq (by rw[List.length_set];omega),getD_seq oM,hg1];exact hnew))));replace hs:=hs.drop 1 0;refine ⟨_,_,?_,⟨k+1,(L1).set k ({ (L1.getD k ptm0) with A:=sB zc,m:=2,c:=2 }:PTm),zB,rfl,rfl,hs.to _ _,oM,zG⟩,ka.to _ kR⟩
        omega
       have zv:=eq_of_beq zm;refine lB 83 zm (lL hs [.m 79 83] (lNIT (cSLlL hs [.m 84 9,.m 85 10,.v 86 (qP zb 3),.o 87 (iV ((l.getD k stp0).n)) 0 3 1] (lX 88 (sB za) (at_+1) (at_+1) 9 (k:Nat) k rfl ?_))));refine lL hs [.v 89 (qP za (0+k*9+1))] (lWp 1 k 1 ([iV ((l.getD k stp0).n)]) L1 ptc 9 ptm0 ({ (L1.getD k ptm0) with n:=(l.getD k stp0).n }:PTm) hs oM (fun _ hs=>?_));have zH:((L1).set k ({ (L1.getD k ptm0) with n:=(l.getD k stp0).n }:PTm)).length=(at_+1):=by rw[List.length_set];exact hl1
       replace hs:=hs.to [⟨zb,99,sC (l.getD k stp0)⟩,⟨za,61,((L1).set k ({ (L1.getD k ptm0) with n:=(l.getD k stp0).n }:PTm)).flatMap ptc⟩,⟨b4,61,[iV 0,iV 0,qF,uV 0,eS,uV 0,eS,eS,sZ]⟩,⟨b1,40,[iV inp,qS A ((l).length) c,qS O ((os).length) d]⟩] [];refine lN (kQ ?_);have hak:=hop.1 oM;refine lL hs [.m 90 9,.m 91 10,.m 92 9,.v 93 (qP zb 1),.o 94 (iV ((l.getD k stp0).a)) 0 1 1] (lX 95 (sB za) (at_+1) (at_+1) 9 ((l.getD k stp0).a) ((l.getD k stp0).a.toNat) rfl ?_);refine lQ 96 1 ((L1).set k ({ (L1.getD k ptm0) with n:=(l.getD k stp0).n }:PTm)) ptc 9 ptm0 ((l.getD k stp0).a.toNat) (pX (((L1).set k ({ (L1.getD k ptm0) with n:=(l.getD k stp0).n }:PTm)).getD ((l.getD k stp0).a.toNat) ptm0)) hs oM ?_;refine lR 97 61 1 (pC (((L1).set k ({ (L1.getD k ptm0) with n:=(l.getD k stp0).n }:PTm)).getD ((l.getD k stp0).a.toNat) ptm0)) hs (fun zd _ zD hs=>lX 98 (sB za) (at_+1) (at_+1) 9 (k:Nat) k rfl (lL hs [.v 99 (qP za (0+k*9+8))] (lWp 1 k 8 ([qS (sB zd) 1 1]) ((L1).set k ({ (L1.getD k ptm0) with n:=(l.getD k stp0).n }:PTm)) ptc 9 ptm0 ({ (((L1).set k ({ (L1.getD k ptm0) with n:=(l.getD k stp0).n }:PTm)).getD k ptm0) with A:=sB zd,m:=1,c:=1 }:PTm) hs oM (fun _ hs=>?_))));have zI:(((L1).set k ({ (L1.getD k ptm0) with n:=(l.getD k stp0).n }:PTm)).set k ({ (((L1).set k ({ (L1.getD k ptm0) with n:=(l.getD k stp0).n }:PTm)).getD k ptm0) with A:=sB zd,m:=1,c:=1 }:PTm)).length=(at_+1):=by rw[List.length_set];exact zH
       replace hs:=hs.to [⟨zb,99,sC (l.getD k stp0)⟩,⟨za,61,(((L1).set k ({ (L1.getD k ptm0) with n:=(l.getD k stp0).n }:PTm)).set k ({ (((L1).set k ({ (L1.getD k ptm0) with n:=(l.getD k stp0).n }:PTm)).getD k ptm0) with A:=sB zd,m:=1,c:=1 }:PTm)).flatMap ptc⟩,⟨b4,61,[iV 0,iV 0,qF,uV 0,eS,uV 0,eS,eS,sZ]⟩,⟨b1,40,[iV inp,qS A ((l).length) c,qS O ((os).length) d]⟩] [];refine lN (cTo [(1,iV out),(2,qS Nm ns.length cN),(3,pB b1),(6,pB b4),(7,iV 0),(9,qS (sB za) (at_+1) (at_+1)),(49,nV (at_+1)),(50,nV k)] ?_);refine kQ ?_;replace hs:=hs.aS (SlO.of_flat (sz:=9) (f:=ptc) (d:=ptm0) (b:=zd) (o:=0) (l:=([((L1).set k ({ (L1.getD k ptm0) with n:=(l.getD k stp0).n }:PTm)).getD ((l.getD k stp0).a.toNat) ptm0]:List PTm)) (fun _=>rfl) hs.f.1);have hnew:TmH (dp k) zD ⟨(l.getD k stp0).op,(l.getD k stp0).n,(l.getD k stp0).q,⟨#[]⟩,sB zd,1,1⟩ (tr nm l k):=tr_one_h hdp hF hq0 oM oM (by rw[show ((L1).set k ({ (L1.getD k ptm0) with n:=(l.getD k stp0).n }:PTm)).getD ((l.getD k stp0).a.toNat) ptm0=L.getD (l.getD k stp0).a.toNat ptm0 from by first|exact hg2 _ oM|(rw[getD_sne oM];exact hg2 _ oM)];exact hs.f.r.1 _ oM) hs.f.1;refine lIn 120 ((k:Nat)+1) (k+1) (lL hs [.m 50 120] (lD ?_));intro a_ ka;replace hs:=(hs.tl.tl.tl.add (K:=fun h_=>TmsR dp nm l h_ (k+1) (((L1).set k ({ (L1.getD k ptm0) with n:=(l.getD k stp0).n }:PTm)).set k ({ (((L1).set k ({ (L1.getD k ptm0) with n:=(l.getD k stp0).n }:PTm)).getD k ptm0) with A:=sB zd,m:=1,c:=1 }:PTm))) ((hs.f.r.1).put oM (fun i hi=>by first|exact hg2 i oM|(rw[getD_sne oM];exact hg2 i oM)|(rw[getD_sne oM,getD_sne oM];exact hg2 i oM)) (by first|(rw[hg1];exact hnew)|(rw[getD_seq oM,hg1];exact hnew)|(rw[getD_seq (by rw[List.length_set];omega),getD_seq oM,hg1];exact hnew))));replace hs:=hs.drop 1 0;refine ⟨_,_,?_,⟨k+1,((L1).set k ({ (L1.getD k ptm0) with n:=(l.getD k stp0).n }:PTm)).set k ({ (((L1).set k ({ (L1.getD k ptm0) with n:=(l.getD k stp0).n }:PTm)).getD k ptm0) with A:=sB zd,m:=1,c:=1 }:PTm),zD,rfl,rfl,hs.to _ _,oM,zI⟩,ka.to _ kR⟩
       omega
      have zu:=eq_of_beq zl;refine lB 69 zl (lL hs [.m 66 69] (lNIT (kQ ?_)));obtain ⟨hn1,hn2⟩:=fk.nm oM;refine lL hs [.m 70 9,.m 71 10,.m 72 2,.v 73 (qP zb 3),.o 74 (iV ((l.getD k stp0).n)) 0 3 1] (lX 75 Nm ns.length cN 1 ((l.getD k stp0).n) ((l.getD k stp0).n.toNat) ((hs.f.2.1).ok oM) ?_);refine lH 76 (.string (ns.getD ((l.getD k stp0).n.toNat) ⟨#[]⟩)) hs ((hs.f.2.1).el ((l.getD k stp0).n.toNat) oM) (lX 77 (sB za) (at_+1) (at_+1) 9 (k:Nat) k rfl (lL hs [.v 78 (qP za (0+k*9+7))] (lWp 1 k 7 ([.string (ns.getD ((l.getD k stp0).n.toNat) ⟨#[]⟩)]) L1 ptc 9 ptm0 ({ (L1.getD k ptm0) with s:=ns.getD ((l.getD k stp0).n.toNat) ⟨#[]⟩ }:PTm) hs oM (fun _ hs=>?_))));have zJ:((L1).set k ({ (L1.getD k ptm0) with s:=ns.getD ((l.getD k stp0).n.toNat) ⟨#[]⟩ }:PTm)).length=(at_+1):=by rw[List.length_set];exact hl1
      replace hs:=hs.to [⟨zb,99,sC (l.getD k stp0)⟩,⟨za,61,((L1).set k ({ (L1.getD k ptm0) with s:=ns.getD ((l.getD k stp0).n.toNat) ⟨#[]⟩ }:PTm)).flatMap ptc⟩,⟨b4,61,[iV 0,iV 0,qF,uV 0,eS,uV 0,eS,eS,sZ]⟩,⟨b1,40,[iV inp,qS A ((l).length) c,qS O ((os).length) d]⟩] [];refine lN (kQ ?_);have hnew:TmH (dp k) zx ⟨(l.getD k stp0).op,0,(l.getD k stp0).q,ns.getD (l.getD k stp0).n.toNat ⟨#[]⟩,none,0,0⟩ (tr nm l k):=tr_leaf_h (hdp.one k oM) hq0 oM oM (by rw[hnm]);refine lIn 120 ((k:Nat)+1) (k+1) (lL hs [.m 50 120] (lD ?_));intro a_ ka;replace hs:=(hs.tl.add (K:=fun h_=>TmsR dp nm l h_ (k+1) ((L1).set k ({ (L1.getD k ptm0) with s:=ns.getD ((l.getD k stp0).n.toNat) ⟨#[]⟩ }:PTm))) ((hs.f.1).put oM (fun i hi=>by first|exact hg2 i oM|(rw[getD_sne oM];exact hg2 i oM)|(rw[getD_sne oM,getD_sne oM];exact hg2 i oM)) (by first|(rw[hg1];exact hnew)|(rw[getD_seq oM,hg1];exact hnew)|(rw[getD_seq (by rw[List.length_set];omega),getD_seq oM,hg1];exact hnew))));replace hs:=hs.drop 1 0;refine ⟨_,_,?_,⟨k+1,(L1).set k ({ (L1.getD k ptm0) with s:=ns.getD ((l.getD k stp0).n.toNat) ⟨#[]⟩ }:PTm),zx,rfl,rfl,hs.to _ _,oM,zJ⟩,ka.to _ kR⟩
      omega
     have zr:=neOfBne zi;refine lB 38 zi (lNIT (cSLlL hs [.v 39 (.agg #[iV 0,iV 0,qF,uV 0,eS,uV 0,eS,eS,sZ]),.m 40 8] (lP 0 0 ([iV 0,iV 0,qF,uV 0,eS,uV 0,eS,eS,sZ]) hs (fun _ hs=>lL hs [.m 7 40] (lN (kX ?_))))));have he_:(tmE dp inp l os out ns.length e0 nm)=e0:=tmE_n oM oM oM;exact hs.ret [(0,0,9)] (.tuple #[.agg #[iV 0,iV 0,qF,uV 0,eS,uV 0,eS,eS,sZ],iV e0]) (by rw[he_];exact ⟨ptm0,rfl,fun h_=>absurd h_ oM,fun _=>rfl⟩)
    have zq:=neOfBne zg;refine lB 33 zg (lNIT (cSLlL hs [.v 34 (.agg #[iV 0,iV 0,qF,uV 0,eS,uV 0,eS,eS,sZ])] (lP 0 0 ([iV 0,iV 0,qF,uV 0,eS,uV 0,eS,eS,sZ]) hs (fun _ hs=>lL hs [.v 7 (iV 5)] (lN (kX ?_))))));have he_:(tmE dp inp l os out ns.length e0 nm)=5:=tmE_5 oM oM;exact hs.ret [(0,0,9)] (.tuple #[.agg #[iV 0,iV 0,qF,uV 0,eS,uV 0,eS,eS,sZ],iV 5]) (by rw[he_];exact ⟨ptm0,rfl,fun h_=>absurd h_ oM,fun _=>rfl⟩)
   have zp:=oT zf;refine lB 26 zf (lL hs [.v 27 qT] (lNIT (cSLlL hs [.v 28 (.agg #[iV 0,iV 0,qF,uV 0,eS,uV 0,eS,eS,sZ])] (lP 0 0 ([iV 0,iV 0,qF,uV 0,eS,uV 0,eS,eS,sZ]) hs (fun _ hs=>lL hs [.v 7 (iV 1)] (lN (kX ?_)))))));have he_:(tmE dp inp l os out ns.length e0 nm)=1:=tmE_1 oM;exact hs.ret [(0,0,9)] (.tuple #[.agg #[iV 0,iV 0,qF,uV 0,eS,uV 0,eS,eS,sZ],iV 1]) (by rw[he_];exact ⟨ptm0,rfl,fun h_=>absurd h_ oM,fun _=>rfl⟩)
  have zo:=oT ze;refine lB 19 ze (lL hs [.v 20 qT,.m 21 20] (lG 22 ?_));refine lG 23 (lG 24 (lG 25 (lG 26 (lL hs [.v 27 qT] (lNIT (cSLlL hs [.v 28 (.agg #[iV 0,iV 0,qF,uV 0,eS,uV 0,eS,eS,sZ])] (lP 0 0 ([iV 0,iV 0,qF,uV 0,eS,uV 0,eS,eS,sZ]) hs (fun _ hs=>lL hs [.v 7 (iV 1)] (lN (kX ?_))))))))));have he_:(tmE dp inp l os out ns.length e0 nm)=1:=tmE_1 oM;exact hs.ret [(0,0,9)] (.tuple #[.agg #[iV 0,iV 0,qF,uV 0,eS,uV 0,eS,eS,sZ],iV 1]) (by rw[he_];exact ⟨ptm0,rfl,fun h_=>absurd h_ oM,fun _=>rfl⟩)
 have phb9:=neOfBne hb9;refine lB 16 hb9 (lL hs [.m 17 16] (lG 18 ?_));refine lG 19 (lL hs [.v 20 qT,.m 21 20] (lG 22 ?_));refine lG 23 (lG 24 (lG 25 (lG 26 (lL hs [.v 27 qT] (lNIT (cSLlL hs [.v 28 (.agg #[iV 0,iV 0,qF,uV 0,eS,uV 0,eS,eS,sZ])] (lP 0 0 ([iV 0,iV 0,qF,uV 0,eS,uV 0,eS,eS,sZ]) hs (fun _ hs=>lL hs [.v 7 (iV 1)] (lN (kX ?_))))))))));have he_:(tmE dp inp l os out ns.length e0 nm)=1:=tmE_1 oM;exact hs.ret [(0,0,9)] (.tuple #[.agg #[iV 0,iV 0,qF,uV 0,eS,uV 0,eS,eS,sZ],iV 1]) (by rw[he_];exact ⟨ptm0,rfl,fun h_=>absurd h_ oM,fun _=>rfl⟩)
theorem rKids (op:Int)(w:World)(h:Hp)(g:G w h):CV 42 #[iV op] w h (iV (ari op)):=by
 have hs:=sS g;refine go Tryz.func42 [(0,iV op)] rfl (cSLlL hs [.v 2 (iV 0)] (lNcQ (cSLlL hs [.m 3 0] (lNkZ (cQ (cSL ?_))))));cases hb1:((op:Int) == (1:Int))
 ·
  have phb1:=neOfBeq hb1;refine lB 5 hb1 (lL hs [.m 4 5] (lNIF (kQ ?_)));cases hb2:((op:Int) == (2:Int))
  ·
   have phb2:=neOfBeq hb2;refine lB 6 hb2 (lL hs [.m 4 6] (lNIF (cQ (cSL ?_))));cases hb3:((op:Int) == (7:Int))
   ·
    have phb3:=neOfBeq hb3;refine lB 8 hb3 (lL hs [.m 7 8] (lNIF (cSL ?_)));cases hb4:((op:Int) == (8:Int))
    ·
     have phb4:=neOfBeq hb4;refine lB 9 hb4 (lL hs [.m 7 9] (lNIF (cSL ?_)));cases hb5:((op:Int) == (9:Int))
     ·
      have phb5:=neOfBeq hb5;refine lB 10 hb5 (lL hs [.m 7 10] (lNIF (cSL ?_)));cases hb6:((op:Int) == (10:Int))
      ·
       have phb6:=neOfBeq hb6;refine lB 11 hb6 (lL hs [.m 7 11] (lNIF (kQ ?_)));cases hb7:((op:Int) == (11:Int))
       ·
        have phb7:=neOfBeq hb7;refine lB 12 hb7 (lL hs [.m 7 12] (lNIF (cQ (cSL ?_))));cases hb8:((op:Int) == (3:Int))
        ·
         have phb8:=neOfBeq hb8;refine lB 14 hb8 (lL hs [.m 13 14] (lNIF (cSL ?_)));cases hb9:((op:Int) == (4:Int))
         ·
          have phb9:=neOfBeq hb9;refine lB 15 hb9 (lL hs [.m 13 15] (lNIF (cSL ?_)));cases za:((op:Int) == (5:Int))
          ·
           have ze:=neOfBeq za;refine lB 16 za (lL hs [.m 13 16] (lNIF (cSL ?_)));cases zb:((op:Int) == (6:Int))
           ·
            have zf:=neOfBeq zb;refine lB 17 zb (lL hs [.m 13 17] (lNIF (cSL ?_)));cases zc:((op:Int) == (12:Int))
            ·
             have zg:=neOfBeq zc;refine lB 18 zc (lL hs [.m 13 18] (lNIF (kQ ?_)));cases zd:((op:Int) == (13:Int))
             ·
              have zi:=neOfBeq zd;exact lB 19 zd (lL hs [.m 13 19] (lNIF (cK (cSLlL hs [.v 2 (iV (-1))] (lNkXr hs [] (iV (-1)) (congrArg (Value.int .i64) (by have:=ari_cases op;omega)))))))
             have zi:=eq_of_beq zd;exact lB 19 zd (lL hs [.m 13 19] (lNIT (cSLlL hs [.v 2 (iV 2)] (lNkXr hs [] (iV 2) (congrArg (Value.int .i64) (by have:=ari_cases op;omega))))))
            have zg:=eq_of_beq zc;exact lB 18 zc (lL hs [.m 13 18] (lNIT (cK (cIT (cSLlL hs [.v 2 (iV 2)] (lNkXr hs [] (iV 2) (congrArg (Value.int .i64) (by have:=ari_cases op;omega))))))))
           have zf:=eq_of_beq zb;exact lB 17 zb (lL hs [.m 13 17] (lNIT (cK (cIT (cSLlL hs [.v 2 (iV 2)] (lNkXr hs [] (iV 2) (congrArg (Value.int .i64) (by have:=ari_cases op;omega))))))))
          have ze:=eq_of_beq za;exact lB 16 za (lL hs [.m 13 16] (lNIT (cK (cIT (cSLlL hs [.v 2 (iV 2)] (lNkXr hs [] (iV 2) (congrArg (Value.int .i64) (by have:=ari_cases op;omega))))))))
         have phb9:=eq_of_beq hb9;exact lB 15 hb9 (lL hs [.m 13 15] (lNIT (cK (cIT (cSLlL hs [.v 2 (iV 2)] (lNkXr hs [] (iV 2) (congrArg (Value.int .i64) (by have:=ari_cases op;omega))))))))
        have phb8:=eq_of_beq hb8;exact lB 14 hb8 (lL hs [.m 13 14] (lNIT (cK (cIT (cSLlL hs [.v 2 (iV 2)] (lNkXr hs [] (iV 2) (congrArg (Value.int .i64) (by have:=ari_cases op;omega))))))))
       have phb7:=eq_of_beq hb7;exact lB 12 hb7 (lL hs [.m 7 12] (lNIT (cSLlL hs [.v 2 (iV 1)] (lNkXr hs [] (iV 1) (congrArg (Value.int .i64) (by have:=ari_cases op;omega))))))
      have phb6:=eq_of_beq hb6;exact lB 11 hb6 (lL hs [.m 7 11] (lNIT (cK (cIT (cSLlL hs [.v 2 (iV 1)] (lNkXr hs [] (iV 1) (congrArg (Value.int .i64) (by have:=ari_cases op;omega))))))))
     have phb5:=eq_of_beq hb5;exact lB 10 hb5 (lL hs [.m 7 10] (lNIT (cK (cIT (cSLlL hs [.v 2 (iV 1)] (lNkXr hs [] (iV 1) (congrArg (Value.int .i64) (by have:=ari_cases op;omega))))))))
    have phb4:=eq_of_beq hb4;exact lB 9 hb4 (lL hs [.m 7 9] (lNIT (cK (cIT (cSLlL hs [.v 2 (iV 1)] (lNkXr hs [] (iV 1) (congrArg (Value.int .i64) (by have:=ari_cases op;omega))))))))
   have phb3:=eq_of_beq hb3;exact lB 8 hb3 (lL hs [.m 7 8] (lNIT (cK (cIT (cSLlL hs [.v 2 (iV 1)] (lNkXr hs [] (iV 1) (congrArg (Value.int .i64) (by have:=ari_cases op;omega))))))))
  have phb2:=eq_of_beq hb2;exact lB 6 hb2 (lL hs [.m 4 6] (lNIT (cSLlL hs [.v 2 (iV 0)] (lNkXr hs [] (iV 0) (congrArg (Value.int .i64) (by have:=ari_cases op;omega))))))
 have phb1:=eq_of_beq hb1;exact lB 5 hb1 (lL hs [.m 4 5] (lNIT (cK (cIT (cSLlL hs [.v 2 (iV 0)] (lNkXr hs [] (iV 0) (congrArg (Value.int .i64) (by have:=ari_cases op;omega))))))))
theorem rIntSgz (z:Int)(A:Option Addr)(c:Nat)(w:World)(h:Hp)(g:G w h)(hA:S3 A (lim (iabs z)) h):CV 156 #[.agg #[.bool (ineg z),.slice A ((lim (iabs z)).length) c]] w h (iV z.sign):=by
 have hs:=((sS g).aS hA);have hlz:0<(lim (iabs z)).length↔0<iabs z:=lim_pos
 unfold iabs at hlz
 refine go Tryz.func156 [(0,.agg #[.bool (ineg z),qS A ((lim (iabs z)).length) c])] rfl (cSL (lA 1 29 ([.bool (ineg z),qS A ((lim (iabs z)).length) c]) hs (fun b1 w2 h3 hs=>lL hs [.v 2 (iV 0)] (lNcQ (kZ (cSLlL hs [.v 4 (qP b1 1),.o 5 (qS A ((lim (iabs z)).length) c) 0 1 1,.v 6 (nV ((lim (iabs z)).length))] ?_))))));cases hb4:((((lim (iabs z)).length:Nat):Int) == (0:Int))
 ·
  have phb4:=neOfBeq hb4;refine lB 7 hb4 (lL hs [.m 3 7] (lNIF (cSLlL hs [.v 9 (pB b1),.o 10 (.bool (ineg z)) 0 0 1,.m 8 10] (lN ?_))));cases hb5:(ineg z)
  ·
   try rw[hb5] at hs
   try rw[hb5]
   have phb5:=ineg_false hb5;exact cIF (cK (cSLlL hs [.v 2 (iV 1)] (lNkXr hs [] (iV 1) (congrArg (Value.int .i64) (by first|(rw[show z=0 by (unfold iabs at *;omega)];rfl)|exact (Int.sign_eq_neg_one_of_neg oM).symm|exact (Int.sign_eq_one_of_pos (by unfold iabs at *;omega)).symm)))))
  try rw[hb5] at hs
  try rw[hb5]
  have phb5:=ineg_true hb5;exact cIT (cSLlL hs [.v 2 (iV (-1))] (lNkXr hs [] (iV (-1)) (congrArg (Value.int .i64) (by first|(rw[show z=0 by (unfold iabs at *;omega)];rfl)|exact (Int.sign_eq_neg_one_of_neg oM).symm|exact (Int.sign_eq_one_of_pos (by unfold iabs at *;omega)).symm))))
 have phb4:=eq_of_beq hb4;exact lB 7 hb4 (lL hs [.m 3 7] (lNIT (cSLlL hs [.v 2 (iV 0)] (lNkXr hs [] (iV 0) (congrArg (Value.int .i64) (by first|(rw[show z=0 by (unfold iabs at *;omega)];rfl)|exact (Int.sign_eq_neg_one_of_neg oM).symm|exact (Int.sign_eq_one_of_pos (by unfold iabs at *;omega)).symm))))))
theorem rSgz (z:Int)(A:Option Addr)(c n:Nat)(D:Option Addr)(d:Nat)(hc:(lim (iabs z)).length≤c)(hd:(lim n).length≤d)(w:World)(h:Hp)(g:G w h)(hA:S3 A (lim (iabs z)) h)(hD:S3 D (lim n) h):CV 127 #[.agg #[.bool (ineg z),.slice A ((lim (iabs z)).length) c,.slice D ((lim n).length) d]] w h (iV z.sign):=by
 have hs:=(((sS g).aS hA).aS hD);exact go Tryz.func127 [(0,.agg #[.bool (ineg z),qS A ((lim (iabs z)).length) c,qS D ((lim n).length) d])] rfl (cSL (lA 1 31 ([.bool (ineg z),qS A ((lim (iabs z)).length) c,qS D ((lim n).length) d]) hs (fun b1 w2 h3 hs=>lL hs [.v 2 (iV 0)] (lNS (lL hs [.v 3 (pB b1),.o 4 (.agg #[.bool (ineg z),qS A ((lim (iabs z)).length) c]) 0 0 2] (lCval 5 hs (rIntSgz z A c _ _ hs.g hs.f.2.1) (fun w4 h5 hs=>lL hs [.m 2 5] (lNkXr hs [] (iV z.sign) rfl))))))))
theorem rZero (z:Int)(A:Option Addr)(c n:Nat)(D:Option Addr)(d:Nat)(hc:(lim (iabs z)).length≤c)(hd:(lim n).length≤d)(w:World)(h:Hp)(g:G w h)(hA:S3 A (lim (iabs z)) h)(hD:S3 D (lim n) h):CV 87 #[.agg #[.bool (ineg z),.slice A ((lim (iabs z)).length) c,.slice D ((lim n).length) d]] w h (.bool (decide (n=0∨z=0))):=by
 have hs:=(((sS g).aS hA).aS hD);have hln:0<(lim n).length↔0<n:=lim_pos;refine go Tryz.func87 [(0,.agg #[.bool (ineg z),qS A ((lim (iabs z)).length) c,qS D ((lim n).length) d])] rfl (cSL (lA 1 31 ([.bool (ineg z),qS A ((lim (iabs z)).length) c,qS D ((lim n).length) d]) hs (fun b1 w2 h3 hs=>lL hs [.v 2 qF] (lNS (lL hs [.v 3 (qP b1 2),.o 4 (qS D ((lim n).length) d) 0 2 1,.v 5 (nV ((lim n).length))] ?_)))));cases hb4:((((lim n).length:Nat):Int) == (0:Int))
 ·
  have phb4:=neOfBeq hb4;refine lB 6 hb4 (lL hs [.m 7 6,.o 8 (.agg #[.bool (ineg z),qS A ((lim (iabs z)).length) c,qS D ((lim n).length) d]) 0 0 3] (lCval 9 hs (rSgz z A c n D d hc hd _ _ hs.g hs.f.2.1 hs.f.1) (fun w5 h6 hs=>?_)));have hsg:z.sign=0↔z=0:=Int.sign_eq_zero_iff_zero;cases hb7:((z.sign:Int) == (0:Int))
  ·
   have phb7:=neOfBeq hb7;exact lB 10 hb7 (lL hs [.v 11 qF,.m 2 11] (lNkXr hs [] qF (congrArg Value.bool (decide_eq_false oM).symm)))
  have phb7:=eq_of_beq hb7;exact lB 10 hb7 (lL hs [.v 11 qT,.m 2 11] (lNkXr hs [] qT (congrArg Value.bool (decide_eq_true oM).symm)))
 have phb4:=eq_of_beq hb4;refine lB 6 hb4 (lL hs [.m 7 6] (lG 8 ?_));exact lG 9 (lG 10 (lL hs [.v 11 qT,.m 2 11] (lNkXr hs [] qT (congrArg Value.bool (decide_eq_true oM).symm))))
def weighS (op n sum:Int):Int:=if op=11 then 2*sum else if op=8∧n≠0 then sum*(if n<0 then 0-n else n) else sum
theorem mulb {a n:Int}(h:0≤a∧a≤1073741824)(hn : -12≤n∧n≤12) : -12884901888≤a*n∧a*n≤12884901888:=by
  have h1:(a*n).natAbs≤1073741824*12:=by rw[Int.natAbs_mul];exact Nat.mul_le_mul oM oM
  omega
theorem rWeighC (op n sum:Int)(hs0:0≤sum∧sum≤1073741824)(hn:op=8 → -12≤n∧n≤12)(w:World)(h:Hp)(g:G w h):CV 43 #[iV op,iV n,iV sum] w h (iV (min (weighS op n sum) 1073741824)):=by
 have hs:=sS g;have hmn:min (sum:Int) (1073741824:Int)=sum:=by omega
 have hq1:=fun h8:op=8=>mulb hs0 (hn h8)
 have hq2:=fun h8:op=8=>mulb (n:=0-n) hs0 (by have:=hn h8;omega)
 rw[←hmn] at hq1 hq2
 have hq3:n≤0→(min (sum:Int) (1073741824:Int))*n≤0∧0≤(min (sum:Int) (1073741824:Int))*(0-n):=fun h_=>⟨Int.mul_nonpos_of_nonneg_of_nonpos oM h_,Int.mul_nonneg oM oM⟩
 have hq4:0≤n→0≤(min (sum:Int) (1073741824:Int))*n:=fun h_=>Int.mul_nonneg oM h_
 refine go Tryz.func43 [(0,iV op),(1,iV n),(2,iV sum)] rfl (cSLlL hs [.v 6 (iV 0)] (lNcQ (kZ (cSLlL hs [.m 8 0] ?_))));cases hb1:((op:Int) == (11:Int))
 ·
  have phb1:=neOfBeq hb1;refine lB 9 hb1 (lL hs [.m 7 9] (lNIF (cSLlL hs [.m 13 0] ?_)));cases hb2:((op:Int) == (8:Int))
  ·
   have phb2:=neOfBeq hb2;refine lB 14 hb2 (lL hs [.m 15 14] (lG 16 ?_));refine lG 17 (lL hs [.v 18 qF,.m 12 18] (lNIF (cK (cSLlL hs [.m 33 2] (lV 34 (iV (min (sum:Int) (1073741824:Int))) ?_ (hr:=rint (n:=(if (1073741824:Int)<(sum:Int) then (1073741824:Int) else (sum:Int))) kR (by simp only[imin2])))))));exact lL hs [.m 6 34] (lNkXr hs [] (iV (min (sum:Int) (1073741824:Int))) (congrArg (Value.int .i64) (by unfold weighS;first|(rw[if_pos oM]<;>omega)|(rw[if_neg oM,if_pos oM,if_pos oM]<;>rw[hmn] at * <;> omega)|(rw[if_neg oM,if_pos oM,if_neg oM]<;>rw[hmn] at * <;> omega)|(rw[if_neg oM,if_neg oM]<;>omega))))
  have phb2:=eq_of_beq hb2;refine lB 14 hb2 (lL hs [.m 15 14,.m 16 1] ?_);cases hb3:((n:Int) != (0:Int))
  ·
   have phb3:=eqOfBne hb3;refine lB 17 hb3 (lL hs [.v 18 qF,.m 12 18] (lNIF (cK (cSLlL hs [.m 33 2] (lV 34 (iV (min (sum:Int) (1073741824:Int))) ?_ (hr:=rint (n:=(if (1073741824:Int)<(sum:Int) then (1073741824:Int) else (sum:Int))) kR (by simp only[imin2])))))));exact lL hs [.m 6 34] (lNkXr hs [] (iV (min (sum:Int) (1073741824:Int))) (congrArg (Value.int .i64) (by unfold weighS;first|(rw[if_pos oM]<;>omega)|(rw[if_neg oM,if_pos oM,if_pos oM]<;>rw[hmn] at * <;> omega)|(rw[if_neg oM,if_pos oM,if_neg oM]<;>rw[hmn] at * <;> omega)|(rw[if_neg oM,if_neg oM]<;>omega))))
  have phb3:=neOfBne hb3;refine lB 17 hb3 (lL hs [.v 18 qT,.m 12 18] (lNIT (cQ (cSLlL hs [.m 19 1] ?_))));cases hb4:(decide ((n:Int)<(0:Int)))
  ·
   have phb4:=oF hb4;refine lB 20 hb4 (lNIF (cK (cQ (cSLlL hs [.m 23 1] ?_))));have ⟨hb5,phb5⟩:=dF (p:=(n:Int)<(0:Int)) oM;refine lB 24 hb5 (lL hs [.m 25 24,.m 26 1] ?_);cases hb6:(decide ((1073741824:Int)<(n:Int)))
   ·
    have phb6:=oF hb6;refine lB 27 hb6 (lL hs [.v 28 qF] (lNIF (cK (kQ (lL hs [.m 29 2] (lV 30 (iV (min (sum:Int) (1073741824:Int))) ?_ (hr:=rint (n:=(if (1073741824:Int)<(sum:Int) then (1073741824:Int) else (sum:Int))) kR (by simp only[imin2]))))))));refine lL hs [.m 31 1] (lI 32 ((min (sum:Int) (1073741824:Int))*n) ?_);refine lL hs [.m 2 32] (lNS (lL hs [.m 33 2] (lV 34 (iV (min ((min (sum:Int) (1073741824:Int))*n:Int) (1073741824:Int))) ?_ (hr:=rint (n:=(if (1073741824:Int)<((min (sum:Int) (1073741824:Int))*n:Int) then (1073741824:Int) else ((min (sum:Int) (1073741824:Int))*n:Int))) kR (by simp only[imin2])))));exact lL hs [.m 6 34] (lNkXr hs [] (iV (min ((min (sum:Int) (1073741824:Int))*n:Int) (1073741824:Int))) (congrArg (Value.int .i64) (by unfold weighS;first|(rw[if_pos oM]<;>omega)|(rw[if_neg oM,if_pos oM,if_pos oM]<;>rw[hmn] at * <;> omega)|(rw[if_neg oM,if_pos oM,if_neg oM]<;>rw[hmn] at * <;> omega)|(rw[if_neg oM,if_neg oM]<;>omega))))
   have phb6:=oT hb6;refine lB 27 hb6 (lL hs [.v 28 qT] (lNIT (kQ (lL hs [.v 1 (iV 1073741824)] (lN (kQ (lL hs [.m 29 2] (lV 30 (iV (min (sum:Int) (1073741824:Int))) ?_ (hr:=rint (n:=(if (1073741824:Int)<(sum:Int) then (1073741824:Int) else (sum:Int))) kR (by simp only[imin2]))))))))));refine lL hs [.m 31 1] (lI 32 ((min (sum:Int) (1073741824:Int))*1073741824) ?_);refine lL hs [.m 2 32] (lNS (lL hs [.m 33 2] (lV 34 (iV (min ((min (sum:Int) (1073741824:Int))*1073741824:Int) (1073741824:Int))) ?_ (hr:=rint (n:=(if (1073741824:Int)<((min (sum:Int) (1073741824:Int))*1073741824:Int) then (1073741824:Int) else ((min (sum:Int) (1073741824:Int))*1073741824:Int))) kR (by simp only[imin2])))));exact lL hs [.m 6 34] (lNkXr hs [] (iV (min ((min (sum:Int) (1073741824:Int))*1073741824:Int) (1073741824:Int))) (congrArg (Value.int .i64) (by unfold weighS;first|(rw[if_pos oM]<;>omega)|(rw[if_neg oM,if_pos oM,if_pos oM]<;>rw[hmn] at * <;> omega)|(rw[if_neg oM,if_pos oM,if_neg oM]<;>rw[hmn] at * <;> omega)|(rw[if_neg oM,if_neg oM]<;>omega))))
  have phb4:=oT hb4;refine lB 20 hb4 (lNIT (kQ (lL hs [.m 21 1] (lI 22 (0-n) ?_))));refine lL hs [.m 1 22] (lNcQ (cSLlL hs [.m 23 1] ?_));cases hb7:(decide ((0-n:Int)<(0:Int)))
  ·
   have phb7:=oF hb7;refine lB 24 hb7 (lL hs [.m 25 24,.m 26 1] ?_);cases hb8:(decide ((1073741824:Int)<(0-n:Int)))
   ·
    have phb8:=oF hb8;refine lB 27 hb8 (lL hs [.v 28 qF] (lNIF (cK (kQ (lL hs [.m 29 2] (lV 30 (iV (min (sum:Int) (1073741824:Int))) ?_ (hr:=rint (n:=(if (1073741824:Int)<(sum:Int) then (1073741824:Int) else (sum:Int))) kR (by simp only[imin2]))))))));refine lL hs [.m 31 1] (lI 32 ((min (sum:Int) (1073741824:Int))*(0-n)) ?_);refine lL hs [.m 2 32] (lNS (lL hs [.m 33 2] (lV 34 (iV (min ((min (sum:Int) (1073741824:Int))*(0-n):Int) (1073741824:Int))) ?_ (hr:=rint (n:=(if (1073741824:Int)<((min (sum:Int) (1073741824:Int))*(0-n):Int) then (1073741824:Int) else ((min (sum:Int) (1073741824:Int))*(0-n):Int))) kR (by simp only[imin2])))));exact lL hs [.m 6 34] (lNkXr hs [] (iV (min ((min (sum:Int) (1073741824:Int))*(0-n):Int) (1073741824:Int))) (congrArg (Value.int .i64) (by unfold weighS;first|(rw[if_pos oM]<;>omega)|(rw[if_neg oM,if_pos oM,if_pos oM]<;>rw[hmn] at * <;> omega)|(rw[if_neg oM,if_pos oM,if_neg oM]<;>rw[hmn] at * <;> omega)|(rw[if_neg oM,if_neg oM]<;>omega))))
   have phb8:=oT hb8;refine lB 27 hb8 (lL hs [.v 28 qT] (lNIT (kQ (lL hs [.v 1 (iV 1073741824)] (lN (kQ (lL hs [.m 29 2] (lV 30 (iV (min (sum:Int) (1073741824:Int))) ?_ (hr:=rint (n:=(if (1073741824:Int)<(sum:Int) then (1073741824:Int) else (sum:Int))) kR (by simp only[imin2]))))))))));refine lL hs [.m 31 1] (lI 32 ((min (sum:Int) (1073741824:Int))*1073741824) ?_);refine lL hs [.m 2 32] (lNS (lL hs [.m 33 2] (lV 34 (iV (min ((min (sum:Int) (1073741824:Int))*1073741824:Int) (1073741824:Int))) ?_ (hr:=rint (n:=(if (1073741824:Int)<((min (sum:Int) (1073741824:Int))*1073741824:Int) then (1073741824:Int) else ((min (sum:Int) (1073741824:Int))*1073741824:Int))) kR (by simp only[imin2])))));exact lL hs [.m 6 34] (lNkXr hs [] (iV (min ((min (sum:Int) (1073741824:Int))*1073741824:Int) (1073741824:Int))) (congrArg (Value.int .i64) (by unfold weighS;first|(rw[if_pos oM]<;>omega)|(rw[if_neg oM,if_pos oM,if_pos oM]<;>rw[hmn] at * <;> omega)|(rw[if_neg oM,if_pos oM,if_neg oM]<;>rw[hmn] at * <;> omega)|(rw[if_neg oM,if_neg oM]<;>omega))))
  have phb7:=oT hb7;refine lB 24 hb7 (lL hs [.m 25 24] (lG 26 ?_));refine lG 27 (lL hs [.v 28 qT] (lNIT (kQ (lL hs [.v 1 (iV 1073741824)] (lN (kQ (lL hs [.m 29 2] (lV 30 (iV (min (sum:Int) (1073741824:Int))) ?_ (hr:=rint (n:=(if (1073741824:Int)<(sum:Int) then (1073741824:Int) else (sum:Int))) kR (by simp only[imin2]))))))))));refine lL hs [.m 31 1] (lI 32 ((min (sum:Int) (1073741824:Int))*1073741824) ?_);refine lL hs [.m 2 32] (lNS (lL hs [.m 33 2] (lV 34 (iV (min ((min (sum:Int) (1073741824:Int))*1073741824:Int) (1073741824:Int))) ?_ (hr:=rint (n:=(if (1073741824:Int)<((min (sum:Int) (1073741824:Int))*1073741824:Int) then (1073741824:Int) else ((min (sum:Int) (1073741824:Int))*1073741824:Int))) kR (by simp only[imin2])))));exact lL hs [.m 6 34] (lNkXr hs [] (iV (min ((min (sum:Int) (1073741824:Int))*1073741824:Int) (1073741824:Int))) (congrArg (Value.int .i64) (by unfold weighS;first|(rw[if_pos oM]<;>omega)|(rw[if_neg oM,if_pos oM,if_pos oM]<;>rw[hmn] at * <;> omega)|(rw[if_neg oM,if_pos oM,if_neg oM]<;>rw[hmn] at * <;> omega)|(rw[if_neg oM,if_neg oM]<;>omega))))
 have phb1:=eq_of_beq hb1;refine lB 9 hb1 (lL hs [.m 7 9] (lNIT (kQ (lL hs [.m 10 2] (lI 11 (2*sum) ?_)))));refine lL hs [.m 2 11] (lNS (lL hs [.m 33 2] (lV 34 (iV (min (2*sum:Int) (1073741824:Int))) ?_ (hr:=rint (n:=(if (1073741824:Int)<(2*sum:Int) then (1073741824:Int) else (2*sum:Int))) kR (by simp only[imin2])))));exact lL hs [.m 6 34] (lNkXr hs [] (iV (min (2*sum:Int) (1073741824:Int))) (congrArg (Value.int .i64) (by unfold weighS;first|(rw[if_pos oM]<;>omega)|(rw[if_neg oM,if_pos oM,if_pos oM]<;>rw[hmn] at * <;> omega)|(rw[if_neg oM,if_pos oM,if_neg oM]<;>rw[hmn] at * <;> omega)|(rw[if_neg oM,if_neg oM]<;>omega))))
theorem rWeigh (op n sum:Int)(hs0:0≤sum∧sum≤1000000)(hn:op=8 → -12≤n∧n≤12)(w:World)(h:Hp)(g:G w h):Calls Tryz.prog 43 #[iV op,iV n,iV sum] w (Ret w h (fun v _=>v=iV (weighS op n sum))):=by
  have e:min (weighS op n sum) 1073741824=weighS op n sum:=by
    unfold weighS
    split
    · omega
    · split
      · rename_i h8
        have h1:(sum*(if n<0 then 0-n else n)).natAbs≤1000000*12:=by
          rw[Int.natAbs_mul];have:=hn h8.1;exact Nat.mul_le_mul oM (by split<;>omega)
        omega
      · omega
  have q_:=rWeighC op n sum oM hn w h g;rw[e] at q_
  exact q_
theorem rRight (inp:Int)(A:Option Addr)(c:Nat)(ts:List RSt)(ss:List OSt)(O:Option Addr)(d:Nat)(os:List Int)(i:Nat)(hik:i<ss.length)(hl:ss.length≤1000000)(w:World)(h:Hp)(g:G w h)(hA:SlO 7 rsc rst0 h A ts)(hT:RSs h ts ss)(hO:Si O os h):CV 71 #[.agg #[iV inp,.slice A ts.length c,.slice O os.length d],nV i] w h (.bool (decide (Formed inp i (ss.getD i ost0).stp))):=by
 have hs:=((((sS g).aS hA).add (K:=fun h_=>RSs h_ ts ss) hT).aS hO);have hlt:=(hs.f.2.1).len;have hz:=((hs.f.2.1).at_ i hik).z
 have hzq:(odn (ss.getD i ost0)=0∨(ss.getD i ost0).q.num=0)↔(ss.getD i ost0).q.num=0:=or_iff_right_of_imp (fun h_=>by
     have:(ss.getD i ost0).has=false:=by
       have h2:=odn_pos (o:=(ss.getD i ost0));rw[h_,lim_zero] at h2;cases h3:(ss.getD i ost0).has;rfl;rw[h3] at h2;simp at h2
     rw[hz this];rfl)
 refine go Tryz.func71 [(0,.agg #[iV inp,qS A ts.length c,qS O os.length d]),(1,nV i)] rfl (cSL (lA 2 48 ([iV inp,qS A ts.length c,qS O os.length d]) hs (fun b1 w2 h3 hs=>lL hs [.v 4 qF] (lNS (lL hs [.v 7 (qP b1 1),.o 8 (qS A ts.length c) 0 1 1,.m 9 1] (lX 10 A ts.length c 7 (i:Nat) i ((hs.f.r.1).ok oM) ?_))))));obtain ⟨Aqx,cqx,Dqx,dqx,eqx,hcqx,hdqx,hAqx,hDqx⟩:=((hs.f.2.1).at_ i oM).opn;replace hs:=hs.aP hAqx hDqx;refine lHe 11 (.agg #[iV ((ts.getD i rst0).op),iV ((ts.getD i rst0).a),iV ((ts.getD i rst0).b),iV ((ts.getD i rst0).n),.bool ((ts.getD i rst0).t.1),(ts.getD i rst0).t.2.1,(ts.getD i rst0).t.2.2]) hs ((hs.f.q.1).el i oM) eqx (lA 5 102 ([iV 0,iV 0,iV 0,iV 0,qF,sZ,sZ]) hs (fun b4 w5 h6 hs=>lP 0 0 ([iV ((ss.getD i ost0).op),iV ((ss.getD i ost0).a),iV ((ss.getD i ost0).b),iV ((ss.getD i ost0).n),.bool (ineg (ss.getD i ost0).q.num),qS Aqx ((lim (iabs (ss.getD i ost0).q.num)).length) cqx,qS Dqx ((lim (odn (ss.getD i ost0))).length) dqx]) hs (fun w7 hs=>lNS (lL hs [.v 12 (pB b4),.o 13 (iV ((ss.getD i ost0).op)) 0 0 1] (lCval 14 hs (rKids (ss.getD i ost0).op _ _ hs.g) (fun w8 h9 hs=>?_))))));have hac:=ari_cases (ss.getD i ost0).op;refine lL hs [.m 6 14] (lNcQ (kZ (CG.join (fun Γ w_=>∃ (zG:Bool) (h_:Hp),Γ=[(1,nV i),(2,pB b1),(4,qF),(5,pB b4),(6,iV (ari (ss.getD i ost0).op)),(15,.bool zG)]∧SS w h w_ h_ [⟨b4,102,[iV ((ss.getD i ost0).op),iV ((ss.getD i ost0).a),iV ((ss.getD i ost0).b),iV ((ss.getD i ost0).n),.bool (ineg (ss.getD i ost0).q.num),qS Aqx ((lim (iabs (ss.getD i ost0).q.num)).length) cqx,qS Dqx ((lim (odn (ss.getD i ost0))).length) dqx]⟩,⟨b1,48,[iV inp,qS A ts.length c,qS O os.length d]⟩] [] [S3 Dqx (lim (odn (ss.getD i ost0))),S3 Aqx (lim (iabs (ss.getD i ost0).q.num)),Si O os,fun h_=>RSs h_ ts ss,fun h_=>SlO 7 rsc rst0 h_ A ts]∧(zG=true→¬(0≤ari (ss.getD i ost0).op∧((ss.getD i ost0).op=1∨(ss.getD i ost0).q.num=0)∧((ss.getD i ost0).op=8∨(ss.getD i ost0).op=2∨(ss.getD i ost0).n=0)))∧(zG=false→(0≤ari (ss.getD i ost0).op∧((ss.getD i ost0).op=1∨(ss.getD i ost0).q.num=0)∧((ss.getD i ost0).op=8∨(ss.getD i ost0).op=2∨(ss.getD i ost0).n=0)))) ?_ ?_)))
 ·
  refine kQ (lL hs [.m 16 6] ?_);cases zc:(decide ((ari (ss.getD i ost0).op:Int)<(0:Int)))
  ·
   have zQ:=oF zc;refine lB 17 zc (lL hs [.m 18 17,.v 19 (pB b4),.o 20 (iV ((ss.getD i ost0).op)) 0 0 1] ?_);cases zd:(((ss.getD i ost0).op:Int) != (1:Int))
   ·
    have zR:=eqOfBne zd;refine lB 21 zd (lL hs [.m 22 21] (lG 23 ?_));refine lG 24 (lG 25 (lG 26 (lL hs [.v 27 qF,.v 28 qF,.m 29 28,.v 30 (pB b4),.o 31 (iV ((ss.getD i ost0).op)) 0 0 1] ?_)));have zK:(((ss.getD i ost0).op:Int) != (8:Int))=true:=bneT oM;have phb12:=neOfBne zK;refine lB 32 zK (lL hs [.m 33 32,.v 34 (pB b4),.o 35 (iV ((ss.getD i ost0).op)) 0 0 1] ?_);have zL:(((ss.getD i ost0).op:Int) != (2:Int))=true:=bneT oM;have phb13:=neOfBne zL;refine lB 36 zL (lL hs [.v 37 qT,.m 38 37,.v 39 (qP b4 3),.o 40 (iV ((ss.getD i ost0).n)) 0 3 1] ?_);cases ze:(((ss.getD i ost0).n:Int) != (0:Int))
    ·
     have zS:=eqOfBne ze;refine lB 41 ze (lL hs [.v 42 qF,.v 43 qF,.m 15 43] (lD ?_));intro a_ ka;exact ⟨_,⟨false,h9,rfl,hs.to _ _,(fun h_=>absurd h_ kD),(fun _=>by omega)⟩,ka.to _ kR⟩
    have zS:=neOfBne ze;refine lB 41 ze (lL hs [.v 42 qT,.v 43 qT,.m 15 43] (lD ?_));intro a_ ka;exact ⟨_,⟨true,h9,rfl,hs.to _ _,(fun _=>by omega),(fun h_=>absurd h_ kD)⟩,ka.to _ kR⟩
   have zR:=neOfBne zd;refine lB 21 zd (lL hs [.m 22 21,.v 23 (qP b4 4),.o 24 (.agg #[.bool (ineg (ss.getD i ost0).q.num),qS Aqx ((lim (iabs (ss.getD i ost0).q.num)).length) cqx,qS Dqx ((lim (odn (ss.getD i ost0))).length) dqx]) 0 4 3] (lCval 25 hs (rZero (ss.getD i ost0).q.num Aqx cqx (odn (ss.getD i ost0)) Dqx dqx hcqx hdqx _ _ hs.g hs.f.2.1 hs.f.1) (fun _ zH hs=>?_)));cases zM:(decide (odn (ss.getD i ost0)=0∨(ss.getD i ost0).q.num=0))
   ·
    have zU:=oF zM;refine lL hs [.v 26 qT,.v 27 qT,.v 28 qT,.m 29 28] (lG 30 ?_);refine lG 31 (lG 32 (lG 33 (lG 34 (lG 35 (lG 36 (lG 37 (lG 38 (lG 39 (lG 40 (lG 41 (lG 42 (lL hs [.v 43 qT,.m 15 43] (lD ?_)))))))))))));intro a_ ka;exact ⟨_,⟨true,zH,rfl,hs.to _ _,(fun _=>by omega),(fun h_=>absurd h_ kD)⟩,ka.to _ kR⟩
   have zU:=oT zM;refine lL hs [.v 26 qF,.v 27 qF,.v 28 qF,.m 29 28,.v 30 (pB b4),.o 31 (iV ((ss.getD i ost0).op)) 0 0 1] ?_;cases zf:(((ss.getD i ost0).op:Int) != (8:Int))
   ·
    have zW:=eqOfBne zf;refine lB 32 zf (lL hs [.m 33 32] (lG 34 ?_));refine lG 35 (lG 36 (lL hs [.v 37 qF,.m 38 37] (lG 39 ?_)));refine lG 40 (lG 41 (lL hs [.v 42 qF,.v 43 qF,.m 15 43] (lD ?_)));intro a_ ka;exact ⟨_,⟨false,zH,rfl,hs.to _ _,(fun h_=>absurd h_ kD),(fun _=>by omega)⟩,ka.to _ kR⟩
   have zW:=neOfBne zf;refine lB 32 zf (lL hs [.m 33 32,.v 34 (pB b4),.o 35 (iV ((ss.getD i ost0).op)) 0 0 1] ?_);cases zg:(((ss.getD i ost0).op:Int) != (2:Int))
   ·
    have zX:=eqOfBne zg;refine lB 36 zg (lL hs [.v 37 qF,.m 38 37] (lG 39 ?_));refine lG 40 (lG 41 (lL hs [.v 42 qF,.v 43 qF,.m 15 43] (lD ?_)));intro a_ ka;exact ⟨_,⟨false,zH,rfl,hs.to _ _,(fun h_=>absurd h_ kD),(fun _=>by omega)⟩,ka.to _ kR⟩
   have zX:=neOfBne zg;refine lB 36 zg (lL hs [.v 37 qT,.m 38 37,.v 39 (qP b4 3),.o 40 (iV ((ss.getD i ost0).n)) 0 3 1] ?_);cases zi:(((ss.getD i ost0).n:Int) != (0:Int))
   ·
    have ya:=eqOfBne zi;refine lB 41 zi (lL hs [.v 42 qF,.v 43 qF,.m 15 43] (lD ?_));intro a_ ka;exact ⟨_,⟨false,zH,rfl,hs.to _ _,(fun h_=>absurd h_ kD),(fun _=>by omega)⟩,ka.to _ kR⟩
   have ya:=neOfBne zi;refine lB 41 zi (lL hs [.v 42 qT,.v 43 qT,.m 15 43] (lD ?_));intro a_ ka;exact ⟨_,⟨true,zH,rfl,hs.to _ _,(fun _=>by omega),(fun h_=>absurd h_ kD)⟩,ka.to _ kR⟩
  have zQ:=oT zc;refine lB 17 zc (lL hs [.m 18 17] (lG 19 ?_));refine lG 20 (lG 21 (lG 22 (lG 23 (lG 24 (lG 25 (lG 26 (lG 27 (lL hs [.v 28 qT,.m 29 28] (lG 30 ?_)))))))));refine lG 31 (lG 32 (lG 33 (lG 34 (lG 35 (lG 36 (lG 37 (lG 38 (lG 39 (lG 40 (lG 41 (lG 42 (lL hs [.v 43 qT,.m 15 43] (lD ?_)))))))))))));intro a_ ka;exact ⟨_,⟨true,h9,rfl,hs.to _ _,(fun _=>by omega),(fun h_=>absurd h_ kD)⟩,ka.to _ kR⟩
 rintro _ _ ⟨zG,za,rfl,hs,ys,hF15⟩;cases zj:(zG)
 ·
  try rw[zj] at hs
  try rw[zj]
  refine cIF ?_;have yx:=hF15 aM;refine CG.join (fun Γ w_=>∃ (zI:Bool) (h_:Hp),Γ=[(1,nV i),(4,qF),(5,pB b4),(6,iV (ari (ss.getD i ost0).op)),(44,.bool zI)]∧SS w h w_ h_ [⟨b4,102,[iV ((ss.getD i ost0).op),iV ((ss.getD i ost0).a),iV ((ss.getD i ost0).b),iV ((ss.getD i ost0).n),.bool (ineg (ss.getD i ost0).q.num),qS Aqx ((lim (iabs (ss.getD i ost0).q.num)).length) cqx,qS Dqx ((lim (odn (ss.getD i ost0))).length) dqx]⟩,⟨b1,48,[iV inp,qS A ts.length c,qS O os.length d]⟩] [] [S3 Dqx (lim (odn (ss.getD i ost0))),S3 Aqx (lim (iabs (ss.getD i ost0).q.num)),Si O os,fun h_=>RSs h_ ts ss,fun h_=>SlO 7 rsc rst0 h_ A ts]∧(zI=true→¬(((ss.getD i ost0).op=2→0≤(ss.getD i ost0).n∧(ss.getD i ost0).n<inp)∧((ss.getD i ost0).op=8 → -12≤(ss.getD i ost0).n∧(ss.getD i ost0).n≤12)))∧(zI=false→(((ss.getD i ost0).op=2→0≤(ss.getD i ost0).n∧(ss.getD i ost0).n<inp)∧((ss.getD i ost0).op=8 → -12≤(ss.getD i ost0).n∧(ss.getD i ost0).n≤12)))) ?_ ?_
  ·
   refine kQ (lL hs [.v 45 (pB b4),.o 46 (iV ((ss.getD i ost0).op)) 0 0 1] ?_);cases zk:(((ss.getD i ost0).op:Int) == (2:Int))
   ·
    have yb:=neOfBeq zk;refine lB 47 zk (lL hs [.m 48 47] (lG 49 ?_));refine lG 50 (lG 51 (lG 52 (lG 53 (lG 54 (lG 55 (lG 56 (lG 57 (lG 58 (lL hs [.v 59 qF,.m 60 59,.v 61 (pB b4),.o 62 (iV ((ss.getD i ost0).op)) 0 0 1] ?_)))))))));cases zl:(((ss.getD i ost0).op:Int) == (8:Int))
    ·
     have yc:=neOfBeq zl;refine lB 63 zl (lL hs [.m 64 63] (lG 65 ?_));refine lG 66 (lG 67 (lG 68 (lG 69 (lG 70 (lG 71 (lG 72 (lL hs [.v 73 qF,.v 74 qF,.m 44 74] (lD ?_))))))));intro a_ ka;exact ⟨_,⟨false,za,rfl,hs.to _ _,(fun h_=>absurd h_ kD),(fun _=>by omega)⟩,ka.to _ kR⟩
    have yc:=eq_of_beq zl;refine lB 63 zl (lL hs [.m 64 63,.v 65 (qP b4 3),.o 66 (iV ((ss.getD i ost0).n)) 0 3 1] ?_);cases zm:(decide (((ss.getD i ost0).n:Int)<(-12:Int)))
    ·
     have yd:=oF zm;refine lB 67 zm (lL hs [.m 68 67,.v 69 (qP b4 3),.o 70 (iV ((ss.getD i ost0).n)) 0 3 1] ?_);cases zn:(decide ((12:Int)<((ss.getD i ost0).n:Int)))
     ·
      have ye:=oF zn;refine lB 71 zn (lL hs [.v 72 qF,.v 73 qF,.v 74 qF,.m 44 74] (lD ?_));intro a_ ka;exact ⟨_,⟨false,za,rfl,hs.to _ _,(fun h_=>absurd h_ kD),(fun _=>by omega)⟩,ka.to _ kR⟩
     have ye:=oT zn;refine lB 71 zn (lL hs [.v 72 qT,.v 73 qT,.v 74 qT,.m 44 74] (lD ?_));intro a_ ka;exact ⟨_,⟨true,za,rfl,hs.to _ _,(fun _=>by omega),(fun h_=>absurd h_ kD)⟩,ka.to _ kR⟩
    have yd:=oT zm;refine lB 67 zm (lL hs [.m 68 67] (lG 69 ?_));refine lG 70 (lG 71 (lL hs [.v 72 qT,.v 73 qT,.v 74 qT,.m 44 74] (lD ?_)));intro a_ ka;exact ⟨_,⟨true,za,rfl,hs.to _ _,(fun _=>by omega),(fun h_=>absurd h_ kD)⟩,ka.to _ kR⟩
   have yb:=eq_of_beq zk;refine lB 47 zk (lL hs [.m 48 47,.v 49 (qP b4 3),.o 50 (iV ((ss.getD i ost0).n)) 0 3 1] ?_);cases zo:(decide (((ss.getD i ost0).n:Int)<(0:Int)))
   ·
    have yf:=oF zo;refine lB 51 zo (lL hs [.m 52 51,.v 53 (qP b4 3),.o 54 (iV ((ss.getD i ost0).n)) 0 3 1,.v 55 (pB b1),.o 56 (iV inp) 1 0 1] ?_);cases zp:(decide ((inp:Int)≤((ss.getD i ost0).n:Int)))
    ·
     have yg:=oF zp;refine lB 57 zp (lL hs [.v 58 qF,.v 59 qF,.m 60 59,.v 61 (pB b4),.o 62 (iV ((ss.getD i ost0).op)) 0 0 1] ?_);have zN:(((ss.getD i ost0).op:Int) == (8:Int))=false:=beqF oM;have phb54:=neOfBeq zN;refine lB 63 zN (lL hs [.m 64 63] (lG 65 ?_));refine lG 66 (lG 67 (lG 68 (lG 69 (lG 70 (lG 71 (lG 72 (lL hs [.v 73 qF,.v 74 qF,.m 44 74] (lD ?_))))))));intro a_ ka;exact ⟨_,⟨false,za,rfl,hs.to _ _,(fun h_=>absurd h_ kD),(fun _=>by omega)⟩,ka.to _ kR⟩
    have yg:=oT zp;refine lB 57 zp (lL hs [.v 58 qT,.v 59 qT,.m 60 59] (lG 61 ?_));refine lG 62 (lG 63 (lG 64 (lG 65 (lG 66 (lG 67 (lG 68 (lG 69 (lG 70 (lG 71 (lG 72 (lG 73 (lL hs [.v 74 qT,.m 44 74] (lD ?_)))))))))))));intro a_ ka;exact ⟨_,⟨true,za,rfl,hs.to _ _,(fun _=>by omega),(fun h_=>absurd h_ kD)⟩,ka.to _ kR⟩
   have yf:=oT zo;refine lB 51 zo (lL hs [.m 52 51] (lG 53 ?_));refine lG 54 (lG 55 (lG 56 (lG 57 (lL hs [.v 58 qT,.v 59 qT,.m 60 59] (lG 61 ?_)))));refine lG 62 (lG 63 (lG 64 (lG 65 (lG 66 (lG 67 (lG 68 (lG 69 (lG 70 (lG 71 (lG 72 (lG 73 (lL hs [.v 74 qT,.m 44 74] (lD ?_)))))))))))));intro a_ ka;exact ⟨_,⟨true,za,rfl,hs.to _ _,(fun _=>by omega),(fun h_=>absurd h_ kD)⟩,ka.to _ kR⟩
  rintro _ _ ⟨zI,zb,rfl,hs,yt,hF44⟩;cases zq:(zI)
  ·
   try rw[zq] at hs
   try rw[zq]
   refine cIF ?_;have yA:=hF44 aM;refine CG.join (fun Γ w_=>∃ (zJ:Bool) (h_:Hp),Γ=[(1,nV i),(4,qF),(5,pB b4),(6,iV (ari (ss.getD i ost0).op)),(75,.bool zJ)]∧SS w h w_ h_ [⟨b4,102,[iV ((ss.getD i ost0).op),iV ((ss.getD i ost0).a),iV ((ss.getD i ost0).b),iV ((ss.getD i ost0).n),.bool (ineg (ss.getD i ost0).q.num),qS Aqx ((lim (iabs (ss.getD i ost0).q.num)).length) cqx,qS Dqx ((lim (odn (ss.getD i ost0))).length) dqx]⟩,⟨b1,48,[iV inp,qS A ts.length c,qS O os.length d]⟩] [] [S3 Dqx (lim (odn (ss.getD i ost0))),S3 Aqx (lim (iabs (ss.getD i ost0).q.num)),Si O os,fun h_=>RSs h_ ts ss,fun h_=>SlO 7 rsc rst0 h_ A ts]∧(zJ=true→¬((0<ari (ss.getD i ost0).op→0≤(ss.getD i ost0).a∧(ss.getD i ost0).a<i)∧(ari (ss.getD i ost0).op=0→(ss.getD i ost0).a=0)))∧(zJ=false→((0<ari (ss.getD i ost0).op→0≤(ss.getD i ost0).a∧(ss.getD i ost0).a<i)∧(ari (ss.getD i ost0).op=0→(ss.getD i ost0).a=0)))) ?_ ?_
   ·
    refine kQ (lL hs [.m 76 6] ?_);cases zr:(decide ((0:Int)<(ari (ss.getD i ost0).op:Int)))
    ·
     have yi:=oF zr;refine lB 77 zr (lL hs [.m 78 77] (lG 79 ?_));refine lG 80 (lG 81 (lG 82 (lG 83 (lG 84 (lG 85 (lG 86 (lG 87 (lL hs [.v 88 qF,.m 89 88,.m 90 6] ?_))))))));cases zs:((ari (ss.getD i ost0).op:Int) == (0:Int))
     ·
      have yj:=neOfBeq zs;refine lB 91 zs (lL hs [.m 92 91] (lG 93 ?_));refine lG 94 (lG 95 (lL hs [.v 96 qF,.v 97 qF,.m 75 97] (lD ?_)));intro a_ ka;exact ⟨_,⟨false,zb,rfl,hs.to _ _,(fun h_=>absurd h_ kD),(fun _=>by omega)⟩,ka.to _ kR⟩
     have yj:=eq_of_beq zs;refine lB 91 zs (lL hs [.m 92 91,.v 93 (qP b4 1),.o 94 (iV ((ss.getD i ost0).a)) 0 1 1] ?_);cases zt:(((ss.getD i ost0).a:Int) != (0:Int))
     ·
      have yk:=eqOfBne zt;refine lB 95 zt (lL hs [.v 96 qF,.v 97 qF,.m 75 97] (lD ?_));intro a_ ka;exact ⟨_,⟨false,zb,rfl,hs.to _ _,(fun h_=>absurd h_ kD),(fun _=>by omega)⟩,ka.to _ kR⟩
     have yk:=neOfBne zt;refine lB 95 zt (lL hs [.v 96 qT,.v 97 qT,.m 75 97] (lD ?_));intro a_ ka;exact ⟨_,⟨true,zb,rfl,hs.to _ _,(fun _=>by omega),(fun h_=>absurd h_ kD)⟩,ka.to _ kR⟩
    have yi:=oT zr;refine lB 77 zr (lL hs [.m 78 77,.v 79 (qP b4 1),.o 80 (iV ((ss.getD i ost0).a)) 0 1 1] ?_);cases zu:(decide (((ss.getD i ost0).a:Int)<(0:Int)))
    ·
     have yl:=oF zu;refine lB 81 zu (lL hs [.m 82 81,.v 83 (qP b4 1),.o 84 (iV ((ss.getD i ost0).a)) 0 1 1,.m 85 1] ?_);cases zv:(decide ((i:Int)≤((ss.getD i ost0).a:Int)))
     ·
      have ym:=oF zv;refine lB 86 zv (lL hs [.v 87 qF,.v 88 qF,.m 89 88,.m 90 6] ?_);have zP:((ari (ss.getD i ost0).op:Int) == (0:Int))=false:=beqF oM;have phb75:=neOfBeq zP;refine lB 91 zP (lL hs [.m 92 91] (lG 93 ?_));refine lG 94 (lG 95 (lL hs [.v 96 qF,.v 97 qF,.m 75 97] (lD ?_)));intro a_ ka;exact ⟨_,⟨false,zb,rfl,hs.to _ _,(fun h_=>absurd h_ kD),(fun _=>by omega)⟩,ka.to _ kR⟩
     have ym:=oT zv;refine lB 86 zv (lL hs [.v 87 qT,.v 88 qT,.m 89 88] (lG 90 ?_));refine lG 91 (lG 92 (lG 93 (lG 94 (lG 95 (lG 96 (lL hs [.v 97 qT,.m 75 97] (lD ?_)))))));intro a_ ka;exact ⟨_,⟨true,zb,rfl,hs.to _ _,(fun _=>by omega),(fun h_=>absurd h_ kD)⟩,ka.to _ kR⟩
    have yl:=oT zu;refine lB 81 zu (lL hs [.m 82 81] (lG 83 ?_));refine lG 84 (lG 85 (lG 86 (lL hs [.v 87 qT,.v 88 qT,.m 89 88] (lG 90 ?_))));refine lG 91 (lG 92 (lG 93 (lG 94 (lG 95 (lG 96 (lL hs [.v 97 qT,.m 75 97] (lD ?_)))))));intro a_ ka;exact ⟨_,⟨true,zb,rfl,hs.to _ _,(fun _=>by omega),(fun h_=>absurd h_ kD)⟩,ka.to _ kR⟩
   rintro _ _ ⟨zJ,_,rfl,hs,yu,hF75⟩;cases zw:(zJ)
   ·
    try rw[zw] at hs
    try rw[zw]
    refine cIF (cK (cSL ?_));have yB:=hF75 aM;refine lL hs [.m 98 6] ?_;cases zx:((ari (ss.getD i ost0).op:Int) == (2:Int))
    ·
     have yn:=neOfBeq zx;refine lB 99 zx (lL hs [.m 100 99] (lG 101 ?_));refine lG 102 (lG 103 (lL hs [.v 104 qF,.m 105 104] (lG 106 ?_)));refine lG 107 (lG 108 (lG 109 (lL hs [.v 110 qF,.m 111 110,.m 112 6] ?_)));cases zA:(decide ((ari (ss.getD i ost0).op:Int)<(2:Int)))
     ·
      have yo:=oF zA;refine lB 113 zA (lL hs [.m 114 113] (lG 115 ?_));exact lG 116 (lG 117 (lL hs [.v 118 qF,.v 119 qF,.m 4 119] (lNkXr hs [] qF (congrArg Value.bool (decide_eq_false (by dsimp only[Formed,Refers,OSt.stp];omega)).symm))))
     have yo:=oT zA;refine lB 113 zA (lL hs [.m 114 113,.v 115 (qP b4 2),.o 116 (iV ((ss.getD i ost0).b)) 0 2 1] ?_);cases zB:(((ss.getD i ost0).b:Int) == (0:Int))
     ·
      have yp:=neOfBeq zB;exact lB 117 zB (lL hs [.v 118 qF,.v 119 qF,.m 4 119] (lNkXr hs [] qF (congrArg Value.bool (decide_eq_false (by dsimp only[Formed,Refers,OSt.stp];omega)).symm)))
     have yp:=eq_of_beq zB;exact lB 117 zB (lL hs [.v 118 qT,.v 119 qT,.m 4 119] (lNkXr hs [] qT (congrArg Value.bool (decide_eq_true (by dsimp only[Formed,Refers,OSt.stp];omega)).symm)))
    have yn:=eq_of_beq zx;refine lB 99 zx (lL hs [.m 100 99,.v 101 (qP b4 2),.o 102 (iV ((ss.getD i ost0).b)) 0 2 1] ?_);cases zD:(decide ((0:Int)≤((ss.getD i ost0).b:Int)))
    ·
     have yq:=oF zD;refine lB 103 zD (lL hs [.v 104 qF,.m 105 104] (lG 106 ?_));refine lG 107 (lG 108 (lG 109 (lL hs [.v 110 qF,.m 111 110,.m 112 6] ?_)));have ⟨yv,phb89⟩:=dF (p:=(ari (ss.getD i ost0).op:Int)<(2:Int)) oM;refine lB 113 yv (lL hs [.m 114 113] (lG 115 ?_));exact lG 116 (lG 117 (lL hs [.v 118 qF,.v 119 qF,.m 4 119] (lNkXr hs [] qF (congrArg Value.bool (decide_eq_false (by dsimp only[Formed,Refers,OSt.stp];omega)).symm))))
    have yq:=oT zD;refine lB 103 zD (lL hs [.v 104 qT,.m 105 104,.v 106 (qP b4 2),.o 107 (iV ((ss.getD i ost0).b)) 0 2 1,.m 108 1] ?_);cases zE:(decide (((ss.getD i ost0).b:Int)<(i:Int)))
    ·
     have yr:=oF zE;refine lB 109 zE (lL hs [.v 110 qF,.m 111 110,.m 112 6] ?_);have ⟨yw,phb91⟩:=dF (p:=(ari (ss.getD i ost0).op:Int)<(2:Int)) oM;refine lB 113 yw (lL hs [.m 114 113] (lG 115 ?_));exact lG 116 (lG 117 (lL hs [.v 118 qF,.v 119 qF,.m 4 119] (lNkXr hs [] qF (congrArg Value.bool (decide_eq_false (by dsimp only[Formed,Refers,OSt.stp];omega)).symm))))
    have yr:=oT zE;refine lB 109 zE (lL hs [.v 110 qT,.m 111 110] (lG 112 ?_));exact lG 113 (lG 114 (lG 115 (lG 116 (lG 117 (lG 118 (lL hs [.v 119 qT,.m 4 119] (lNkXr hs [] qT (congrArg Value.bool (decide_eq_true (by dsimp only[Formed,Refers,OSt.stp];omega)).symm))))))))
   try rw[zw] at hs
   try rw[zw]
   refine cIT (cSL ?_);have yB:=yu aM;exact lL hs [.v 4 qF] (lNkXr hs [] qF (congrArg Value.bool (decide_eq_false (by dsimp only[Formed,Refers,OSt.stp];omega)).symm))
  try rw[zq] at hs
  try rw[zq]
  refine cIT (cSL ?_);have yA:=yt aM;exact lL hs [.v 4 qF] (lNkXr hs [] qF (congrArg Value.bool (decide_eq_false (by dsimp only[Formed,Refers,OSt.stp];omega)).symm))
 try rw[zj] at hs
 try rw[zj]
 refine cIT (cSL ?_);have yx:=ys aM;exact lL hs [.v 4 qF] (lNkXr hs [] qF (congrArg Value.bool (decide_eq_false (by dsimp only[Formed,Refers,OSt.stp];omega)).symm))
theorem rCheckTape (inp:Int)(A:Option Addr)(c:Nat)(ts:List RSt)(ss:List OSt)(O:Option Addr)(d:Nat)(os:List Int)(hl:ss.length≤1000000)(ho:os.length≤1000000)(w:World)(h:Hp)(g:G w h)(hA:SlO 7 rsc rst0 h A ts)(hT:RSs h ts ss)(hO:Si O os h):CV 33 #[.agg #[iV inp,.slice A ts.length c,.slice O os.length d]] w h (iV (chkTp inp (ss.map OSt.stp) os)):=by
 have hs:=((((sS g).aS hA).add (K:=fun h_=>RSs h_ ts ss) hT).aS hO);have hlt:=(hs.f.2.1).len;refine go Tryz.func33 [(0,.agg #[iV inp,qS A ts.length c,qS O os.length d])] rfl (cSL (lA 1 48 ([iV inp,qS A ts.length c,qS O os.length d]) hs (fun b1 w2 h3 hs=>lL hs [.v 2 (iV 0)] (lNcQ (cSLlL hs [.v 8 (pB b1),.o 9 (iV inp) 0 0 1] ?_)))));cases hb4:(decide ((inp:Int)<(0:Int)))
 ·
  have phb4:=oF hb4;refine lB 10 hb4 (lL hs [.m 11 10,.v 12 (pB b1),.o 13 (iV inp) 0 0 1] ?_);cases hb5:(decide ((1000:Int)<(inp:Int)))
  ·
   have phb5:=oF hb5;refine lB 14 hb5 (lL hs [.v 15 qF,.m 16 15,.v 17 (qP b1 1),.o 18 (qS A ts.length c) 0 1 1,.v 19 (nV ts.length)] ?_);cases hb6:(decide ((65536:Int)<(ts.length:Int)))
   ·
    have phb6:=oF hb6;refine lB 20 hb6 (lL hs [.v 21 qF,.m 22 21,.v 23 (qP b1 2),.o 24 (qS O os.length d) 0 2 1,.v 25 (nV os.length)] ?_);cases hb7:(decide ((300:Int)<(os.length:Int)))
    ·
     have phb7:=oF hb7;refine lB 26 hb7 (lL hs [.v 27 qF] (lNIF (cK (cSLlL hs [.v 3 (sZ)] (lNcQ (cSLlL hs [.v 4 (iV 0)] (lNkZ ?_)))))));replace hs:=hs.nil 3 1;refine cTo [(1,pB b1),(4,iV 0),(3,sZ)] ?_;have hsh:0≤inp∧inp≤1000∧(ss.map OSt.stp).length≤65536∧os.length≤300:=by rw[List.length_map];omega
     refine CG.loop (fun μ_ Γ w_=>∃ (k:Nat) (waA:Option Addr) (wac:Nat) (L:List Int) (h_:Hp),μ_=ss.length-k∧Γ=[(1,pB b1),(4,nV k),(3,qS waA ((L).length) wac)]∧SS w h w_ h_ [⟨b1,48,[iV inp,qS A ts.length c,qS O os.length d]⟩] [⟨3,1,waA,wac,(L).length,(L).flatMap i64c⟩] [Si O os,fun h_=>RSs h_ ts ss,fun h_=>SlO 7 rsc rst0 h_ A ts]∧k≤ss.length∧L.length=k∧Wts L k∧goS inp (ss.map OSt.stp) []=goS inp ((ss.map OSt.stp).drop k) L) _ ⟨0,none,0,[],h3,rfl,rfl,hs.to _ _,Nat.zero_le _,rfl,fun j hj=>absurd hj (Nat.not_lt_zero j),rfl⟩ ?_;rintro _ _ w8 ⟨k,waA,wac,L,h9,hm10,rfl,hs,hk,hll,hWt,hgo⟩;refine cQ (cSLlL hs [.m 28 4,.v 29 (qP b1 1),.o 30 (qS A ts.length c) 0 1 1,.v 31 (nV ts.length)] ?_);cases zc:(decide ((k:Int)<(ts.length:Int)))
     ·
      have zo:=oF zc;refine lB 32 zc (lNIF (CG.exit ?_))
      show CG _ _ _ _ _ _ _ _
      refine cQ (cSLlL hs [.v 7 (iV 0)] (lNkZ ?_));refine cTo _ (CG.loop (fun μ_ Γ w_=>∃ (j:Nat) (h_:Hp),μ_=os.length-j∧Γ=[(1,pB b1),(7,nV j)]∧SS w h w_ h_ [⟨b1,48,[iV inp,qS A ts.length c,qS O os.length d]⟩] [⟨3,1,waA,wac,(L).length,(L).flatMap i64c⟩] [Si O os,fun h_=>RSs h_ ts ss,fun h_=>SlO 7 rsc rst0 h_ A ts]∧j≤os.length∧(∀ i,i<j→0≤os.getD i 0∧os.getD i 0<ss.length)) _ ⟨0,h9,rfl,rfl,hs.to _ _,Nat.zero_le _,fun j hj=>absurd hj (Nat.not_lt_zero j)⟩ ?_);rintro _ _ _ ⟨j,_,hm14,rfl,hs,hj,hou⟩;refine cQ (cSLlL hs [.m 84 7,.v 85 (qP b1 2),.o 86 (qS O os.length d) 0 2 1,.v 87 (nV os.length)] ?_);cases zd:(decide ((j:Int)<(os.length:Int)))
      ·
       have zp:=oF zd;refine lB 88 zd (lNIF (CG.exit ?_))
       show CG _ _ _ _ _ _ _ _
       exact cSLlL hs [.v 2 (iV 0)] (lNkXr hs [] (iV 0) (congrArg (Value.int .i64) (chkTp_ok hsh (by rw[hgo,List.drop_eq_nil_of_le (by rw[List.length_map];omega)];rfl) (fun i hi=>by rw[List.length_map];exact hou i oM)).symm))
      have zp:=oT zd;refine lB 88 zd (lNIT (cK (cQ (kZ (cQ (cR 17 [] mixed hs al_nil ?_))))));refine eV 0 91 (qP b1 2) (eO 1 92 [(0,2,1)] (qS O os.length d) hs (eV 2 93 (nV j) (eX 3 94 O os.length d 1 (j:Nat) j ((hs.f.1).ok oM) (eH 4 95 (iV (os.getD j 0)) hs ((hs.f.1).el j oM) ?_))));cases ze:(decide ((os.getD j 0:Int)<(0:Int)))
      ·
       have zq:=oF ze;refine eB 5 96 ze (eV 6 97 qF (eV 7 98 (qP b1 2) (eO 8 99 [(0,2,1)] (qS O os.length d) hs (eV 9 100 (nV j) (eX 10 101 O os.length d 1 (j:Nat) j ((hs.f.1).ok oM) (eH 11 102 (iV (os.getD j 0)) hs ((hs.f.1).el j oM) (eV 12 103 (qP b1 1) (eO 13 104 [(0,1,1)] (qS A ts.length c) hs (eV 14 105 (nV ts.length) ?_)))))))));cases zf:(decide ((ts.length:Int)≤(os.getD j 0:Int)))
       ·
        have zr:=oF zf;refine eB 15 106 zf (eV 16 107 qF (eD0 hs (fun _ zD hs=>tN (cIF (cK (kQ (lL hs [.m 89 7] (lIn 90 ((j:Nat)+1) (j+1) ?_))))))));refine lL hs [.m 7 90] (lD ?_);intro a_ ka;refine ⟨_,_,?_,⟨j+1,zD,rfl,rfl,hs.to _ _,oM,(fun i hi=>by by_cases e:i=j;(subst e;omega);exact hou i oM)⟩,ka.to _ kR⟩
        omega
       have zr:=oT zf;exact eB 15 106 zf (eV 16 107 qT (eD0 hs (fun _ _ hs=>tN (cIT (cSLlL hs [.v 2 (iV 1)] (lNkXr hs [] (iV 1) (congrArg (Value.int .i64) (chkTp_arg hsh (by rw[hgo,List.drop_eq_nil_of_le (by rw[List.length_map];omega)];rfl) (fun h_=>by have:=h_ j oM;rw[List.length_map] at this;omega)).symm)))))))
      have zq:=oT ze;exact eB 5 96 ze (eV 6 97 qT (eG 7 98 (eG 8 99 (eG 9 100 (eG 10 101 (eG 11 102 (eG 12 103 (eG 13 104 (eG 14 105 (eG 15 106 (eV 16 107 qT (eD0 hs (fun _ _ hs=>tN (cIT (cSLlL hs [.v 2 (iV 1)] (lNkXr hs [] (iV 1) (congrArg (Value.int .i64) (chkTp_arg hsh (by rw[hgo,List.drop_eq_nil_of_le (by rw[List.length_map];omega)];rfl) (fun h_=>by have:=h_ j oM;rw[List.length_map] at this;omega)).symm)))))))))))))))))
     have zo:=oT zc;refine lB 32 zc (lNIT (cK (cQ (kZ (cQ (cSLlL hs [.o 35 (.agg #[iV inp,qS A ts.length c,qS O os.length d]) 0 0 3,.m 36 4] (lCval 37 hs (rRight inp A c ts ss O d os k oM oM _ _ hs.g hs.f.r.1 hs.f.2.1 hs.f.1) (fun _ _ hs=>?_))))))));cases zn:(decide (Formed inp k (ss.getD k ost0).stp))
     ·
      have zs:=oF zn;exact lL hs [.v 38 qT] (lNIT (cSLlL hs [.v 2 (iV 2)] (lNkXr hs [] (iV 2) (congrArg (Value.int .i64) ((chkTp_go hsh (by rw[hgo,goS_bad (by rw[List.length_map];omega) hll (by rw[stp_getD oM];exact ‹¬Formed inp k (ss.getD k ost0).stp›)];decide)).trans (hgo.trans (goS_bad (by rw[List.length_map];omega) hll (by rw[stp_getD oM];exact ‹¬Formed inp k (ss.getD k ost0).stp›)))).symm))))
     have zs:=oT zn;refine lL hs [.v 38 qF] (lNIF (cK (cSLlL hs [.v 39 (qP b1 1),.o 40 (qS A ts.length c) 0 1 1,.m 41 4] (lX 42 A ts.length c 7 (k:Nat) k ((hs.f.r.1).ok oM) ?_))));obtain ⟨Aqx,cqx,Dqx,dqx,eqx,hcqx,hdqx,hAqx,hDqx⟩:=((hs.f.2.1).at_ k oM).opn;replace hs:=hs.aP hAqx hDqx;refine lHe 43 (.agg #[iV ((ts.getD k rst0).op),iV ((ts.getD k rst0).a),iV ((ts.getD k rst0).b),iV ((ts.getD k rst0).n),.bool ((ts.getD k rst0).t.1),(ts.getD k rst0).t.2.1,(ts.getD k rst0).t.2.2]) hs ((hs.f.q.1).el k oM) eqx (lA 5 102 ([iV 0,iV 0,iV 0,iV 0,qF,sZ,sZ]) hs (fun zb _ _ hs=>lP 0 0 ([iV ((ss.getD k ost0).op),iV ((ss.getD k ost0).a),iV ((ss.getD k ost0).b),iV ((ss.getD k ost0).n),.bool (ineg (ss.getD k ost0).q.num),qS Aqx ((lim (iabs (ss.getD k ost0).q.num)).length) cqx,qS Dqx ((lim (odn (ss.getD k ost0))).length) dqx]) hs (fun _ hs=>lNS (lL hs [.v 6 (iV 1)] (lNcQ (cSLlL hs [.v 44 (pB zb),.o 45 (iV ((ss.getD k ost0).op)) 0 0 1] (lCval 46 hs (rKids (ss.getD k ost0).op _ _ hs.g) (fun _ _ hs=>?_))))))));have hac:=ari_cases (ss.getD k ost0).op;obtain ⟨f0,f1,f2,f3,f4,f5,f6⟩:=‹Formed inp k (ss.getD k ost0).stp›
     dsimp only[Refers,OSt.stp] at f0 f1 f2 f3 f4 f5 f6
     have hwa:=fun h0=>hWt (ss.getD k ost0).a.toNat h0
     have hwb:=fun h0=>hWt (ss.getD k ost0).b.toNat h0
     have hws:=hWt.weight ‹Formed inp k (ss.getD k ost0).stp›;refine lNkZ (cSL ?_);cases zg:((ari (ss.getD k ost0).op:Int) == (1:Int))
     ·
      have zt:=neOfBeq zg;refine lB 48 zg (lL hs [.m 47 48] (lNIF (cSL ?_)));cases zi:((ari (ss.getD k ost0).op:Int) == (2:Int))
      ·
       have zu:=neOfBeq zi;refine lB 60 zi (lL hs [.m 59 60] (lNIF (cK (cQ (cSL ?_)))));have hX37:(1:Int)=weightS (ss.getD k ost0).stp L:=by rw[weigh_o hWt ‹Formed inp k (ss.getD k ost0).stp›];(try unfold weighS);first|(rw[if_pos (show ari (ss.getD k ost0).op=0 by omega)])|(rw[if_neg (show ¬ari (ss.getD k ost0).op=0 by omega),if_neg (show ¬ari (ss.getD k ost0).op=2 by omega)])|(rw[if_neg (show ¬ari (ss.getD k ost0).op=0 by omega),if_pos (show ari (ss.getD k ost0).op=2 by omega),if_neg (show ¬(ss.getD k ost0).op=11 by omega),if_neg (show ¬((ss.getD k ost0).op=8∧(ss.getD k ost0).n≠0) by omega)];omega)
       refine lV 78 (iV (weightS (ss.getD k ost0).stp L)) ?_ (hr:=rint (n:=(1:Int)) kR hX37);cases zj:(decide ((65536:Int)<(weightS (ss.getD k ost0).stp L:Int)))
       ·
        have zv:=oF zj;refine lB 79 zj (lNIF (cK (kQ (lL hs [.m 80 3] ?_))));have hX39:(1:Int)=weightS (ss.getD k ost0).stp L:=by rw[weigh_o hWt ‹Formed inp k (ss.getD k ost0).stp›];(try unfold weighS);first|(rw[if_pos (show ari (ss.getD k ost0).op=0 by omega)])|(rw[if_neg (show ¬ari (ss.getD k ost0).op=0 by omega),if_neg (show ¬ari (ss.getD k ost0).op=2 by omega)])|(rw[if_neg (show ¬ari (ss.getD k ost0).op=0 by omega),if_pos (show ari (ss.getD k ost0).op=2 by omega),if_neg (show ¬(ss.getD k ost0).op=11 by omega),if_neg (show ¬((ss.getD k ost0).op=8∧(ss.getD k ost0).n≠0) by omega)];omega)
        refine lV 81 (iV (weightS (ss.getD k ost0).stp L)) ?_ (hr:=rint (n:=(1:Int)) kR hX39);refine lR 82 3 1 ([iV (weightS (ss.getD k ost0).stp L)]) hs (fun zE _ _ hs=>lY 83 0 3 1 wac waA L i64c (weightS (ss.getD k ost0).stp L) 8 zE (iV 0) hs hs.f.1 (fun zG zH _ zI hs=>lL hs [.m 3 83] (lN (kQ (lL hs [.m 33 4] (lIn 34 ((k:Nat)+1) (k+1) ?_))))));refine lL hs [.m 4 34] (lD ?_);intro a_ ka;replace hs:=hs.tl.tl.tl;replace hs:=hs.drop 1 0;refine ⟨_,_,?_,⟨k+1,zG,zH,L++[weightS (ss.getD k ost0).stp L],zI,rfl,rfl,hs.to _ _,oM,(by simp;omega),(Wts.app hWt hll hws.1 oM),(hgo.trans ((goS_step (by rw[List.length_map];omega) hll (by rw[stp_getD oM];exact ‹Formed inp k (ss.getD k ost0).stp›) (by rw[stp_getD oM];omega)).trans (by rw[stp_getD oM])))⟩,ka.to _ kR⟩
        omega
       have zv:=oT zj;exact lB 79 zj (lNIT (cSLlL hs [.v 2 (iV 18)] (lNkXr hs [] (iV 18) (congrArg (Value.int .i64) ((chkTp_go hsh (by rw[hgo,goS_over (by rw[List.length_map];omega) hll (by rw[stp_getD oM];exact ‹Formed inp k (ss.getD k ost0).stp›) (by rw[stp_getD oM];omega)];decide)).trans (hgo.trans (goS_over (by rw[List.length_map];omega) hll (by rw[stp_getD oM];exact ‹Formed inp k (ss.getD k ost0).stp›) (by rw[stp_getD oM];omega)))).symm))))
      have zu:=eq_of_beq zi;refine lB 60 zi (lL hs [.m 59 60] (lNIT (cR 17 [] mixed hs al_nil ?_)));refine eV 0 61 (pB zb) (eO 1 62 [(0,0,1)] (iV ((ss.getD k ost0).op)) hs (eV 2 63 (qP zb 3) (eO 3 64 [(0,3,1)] (iV ((ss.getD k ost0).n)) hs (eV 4 65 (qS waA ((L).length) wac) (eV 5 66 (qP zb 1) (eO 6 67 [(0,1,1)] (iV ((ss.getD k ost0).a)) hs ?_))))));obtain ⟨za,zw⟩:=hs.rowA 0 (A:=waA) (c:=wac) (m:=(L).length) (ty:=3) (sz:=1) (cs:=(L).flatMap i64c) oM;subst zw;refine eX 7 68 (sB za) ((L).length) wac 1 ((ss.getD k ost0).a) ((ss.getD k ost0).a.toNat) rfl (eRq (ty:=3) (sz:=1) (c:=wac) (m:=(L).length) (b:=za) (cs:=(L).flatMap i64c) 8 69 0 (iV (L.getD ((ss.getD k ost0).a.toNat) 0)) (i64c (L.getD ((ss.getD k ost0).a.toNat) 0)) hs (row_el (f:=i64c) (sz:=1) (fun _=>rfl) 0 L ((ss.getD k ost0).a.toNat) oM) (eV 9 70 (qS (sB za) ((L).length) wac) (eV 10 71 (qP zb 2) (eO 11 72 [(0,2,1)] (iV ((ss.getD k ost0).b)) hs (eX 12 73 (sB za) ((L).length) wac 1 ((ss.getD k ost0).b) ((ss.getD k ost0).b.toNat) rfl (eRq (ty:=3) (sz:=1) (c:=wac) (m:=(L).length) (b:=za) (cs:=(L).flatMap i64c) 13 74 0 (iV (L.getD ((ss.getD k ost0).b.toNat) 0)) (i64c (L.getD ((ss.getD k ost0).b.toNat) 0)) hs (row_el (f:=i64c) (sz:=1) (fun _=>rfl) 0 L ((ss.getD k ost0).b.toNat) oM) (eI 14 75 ((L.getD ((ss.getD k ost0).a.toNat) 0)+(L.getD ((ss.getD k ost0).b.toNat) 0)) (eV 15 76 (iV (min ((L.getD ((ss.getD k ost0).a.toNat) 0)+(L.getD ((ss.getD k ost0).b.toNat) 0):Int) (1073741824:Int))) ?_ (hv:=fun _=>rint (n:=(if (1073741824:Int)<((L.getD ((ss.getD k ost0).a.toNat) 0)+(L.getD ((ss.getD k ost0).b.toNat) 0):Int) then (1073741824:Int) else ((L.getD ((ss.getD k ost0).a.toNat) 0)+(L.getD ((ss.getD k ost0).b.toNat) 0):Int))) kR (by simp only[imin2]))))))))));refine eCval 16 77 hs (fun _ _ hs=>rWeigh (ss.getD k ost0).op (ss.getD k ost0).n (min ((L.getD ((ss.getD k ost0).a.toNat) 0)+(L.getD ((ss.getD k ost0).b.toNat) 0):Int) (1073741824:Int)) oM oM _ _ hs.g) (fun _ _ hs=>eD0 hs (fun _ _ hs=>tV 17 6 (iV (weighS (ss.getD k ost0).op (ss.getD k ost0).n (min ((L.getD ((ss.getD k ost0).a.toNat) 0)+(L.getD ((ss.getD k ost0).b.toNat) 0):Int) (1073741824:Int)))) (tN (cTo [(1,pB b1),(4,nV k),(3,qS (sB za) ((L).length) wac),(6,iV (weighS (ss.getD k ost0).op (ss.getD k ost0).n (min ((L.getD ((ss.getD k ost0).a.toNat) 0)+(L.getD ((ss.getD k ost0).b.toNat) 0):Int) (1073741824:Int))))] ?_))));refine cQ (cSL ?_);have hX59:(weighS (ss.getD k ost0).op (ss.getD k ost0).n (min ((L.getD ((ss.getD k ost0).a.toNat) 0)+(L.getD ((ss.getD k ost0).b.toNat) 0):Int) (1073741824:Int)):Int)=weightS (ss.getD k ost0).stp L:=by rw[weigh_o hWt ‹Formed inp k (ss.getD k ost0).stp›];(try unfold weighS);first|(rw[if_pos (show ari (ss.getD k ost0).op=0 by omega)])|(rw[if_neg (show ¬ari (ss.getD k ost0).op=0 by omega),if_neg (show ¬ari (ss.getD k ost0).op=2 by omega)])|(rw[if_neg (show ¬ari (ss.getD k ost0).op=0 by omega),if_pos (show ari (ss.getD k ost0).op=2 by omega),if_neg (show ¬(ss.getD k ost0).op=11 by omega),if_neg (show ¬((ss.getD k ost0).op=8∧(ss.getD k ost0).n≠0) by omega)];omega)
      refine lV 78 (iV (weightS (ss.getD k ost0).stp L)) ?_ (hr:=rint (n:=(weighS (ss.getD k ost0).op (ss.getD k ost0).n (min ((L.getD ((ss.getD k ost0).a.toNat) 0)+(L.getD ((ss.getD k ost0).b.toNat) 0):Int) (1073741824:Int)):Int)) kR hX59);cases zk:(decide ((65536:Int)<(weightS (ss.getD k ost0).stp L:Int)))
      ·
       have zx:=oF zk;refine lB 79 zk (lNIF (cK (kQ (lL hs [.m 80 3] ?_))));have hX61:(weighS (ss.getD k ost0).op (ss.getD k ost0).n (min ((L.getD ((ss.getD k ost0).a.toNat) 0)+(L.getD ((ss.getD k ost0).b.toNat) 0):Int) (1073741824:Int)):Int)=weightS (ss.getD k ost0).stp L:=by rw[weigh_o hWt ‹Formed inp k (ss.getD k ost0).stp›];(try unfold weighS);first|(rw[if_pos (show ari (ss.getD k ost0).op=0 by omega)])|(rw[if_neg (show ¬ari (ss.getD k ost0).op=0 by omega),if_neg (show ¬ari (ss.getD k ost0).op=2 by omega)])|(rw[if_neg (show ¬ari (ss.getD k ost0).op=0 by omega),if_pos (show ari (ss.getD k ost0).op=2 by omega),if_neg (show ¬(ss.getD k ost0).op=11 by omega),if_neg (show ¬((ss.getD k ost0).op=8∧(ss.getD k ost0).n≠0) by omega)];omega)
       refine lV 81 (iV (weightS (ss.getD k ost0).stp L)) ?_ (hr:=rint (n:=(weighS (ss.getD k ost0).op (ss.getD k ost0).n (min ((L.getD ((ss.getD k ost0).a.toNat) 0)+(L.getD ((ss.getD k ost0).b.toNat) 0):Int) (1073741824:Int)):Int)) kR hX61);refine lR 82 3 1 ([iV (weightS (ss.getD k ost0).stp L)]) hs (fun zJ _ _ hs=>lY 83 0 3 1 wac (sB za) L i64c (weightS (ss.getD k ost0).stp L) 8 zJ (iV 0) hs hs.f.1 (fun zK zL _ zM hs=>lL hs [.m 3 83] (lN (kQ (lL hs [.m 33 4] (lIn 34 ((k:Nat)+1) (k+1) ?_))))));refine lL hs [.m 4 34] (lD ?_);intro a_ ka;replace hs:=hs.tl.tl.tl;replace hs:=hs.drop 1 0;refine ⟨_,_,?_,⟨k+1,zK,zL,L++[weightS (ss.getD k ost0).stp L],zM,rfl,rfl,hs.to _ _,oM,(by simp;omega),(Wts.app hWt hll hws.1 oM),(hgo.trans ((goS_step (by rw[List.length_map];omega) hll (by rw[stp_getD oM];exact ‹Formed inp k (ss.getD k ost0).stp›) (by rw[stp_getD oM];omega)).trans (by rw[stp_getD oM])))⟩,ka.to _ kR⟩
       omega
      have zx:=oT zk;exact lB 79 zk (lNIT (cSLlL hs [.v 2 (iV 18)] (lNkXr hs [] (iV 18) (congrArg (Value.int .i64) ((chkTp_go hsh (by rw[hgo,goS_over (by rw[List.length_map];omega) hll (by rw[stp_getD oM];exact ‹Formed inp k (ss.getD k ost0).stp›) (by rw[stp_getD oM];omega)];decide)).trans (hgo.trans (goS_over (by rw[List.length_map];omega) hll (by rw[stp_getD oM];exact ‹Formed inp k (ss.getD k ost0).stp›) (by rw[stp_getD oM];omega)))).symm))))
     have zt:=eq_of_beq zg;refine lB 48 zg (lL hs [.m 47 48] (lNIT (cR 10 [] mixed hs al_nil ?_)));refine eV 0 49 (pB zb) (eO 1 50 [(0,0,1)] (iV ((ss.getD k ost0).op)) hs (eV 2 51 (qP zb 3) (eO 3 52 [(0,3,1)] (iV ((ss.getD k ost0).n)) hs (eV 4 53 (qS waA ((L).length) wac) (eV 5 54 (qP zb 1) (eO 6 55 [(0,1,1)] (iV ((ss.getD k ost0).a)) hs ?_))))));obtain ⟨zm,zA⟩:=hs.rowA 0 (A:=waA) (c:=wac) (m:=(L).length) (ty:=3) (sz:=1) (cs:=(L).flatMap i64c) oM;subst zA;refine eX 7 56 (sB zm) ((L).length) wac 1 ((ss.getD k ost0).a) ((ss.getD k ost0).a.toNat) rfl (eRq (ty:=3) (sz:=1) (c:=wac) (m:=(L).length) (b:=zm) (cs:=(L).flatMap i64c) 8 57 0 (iV (L.getD ((ss.getD k ost0).a.toNat) 0)) (i64c (L.getD ((ss.getD k ost0).a.toNat) 0)) hs (row_el (f:=i64c) (sz:=1) (fun _=>rfl) 0 L ((ss.getD k ost0).a.toNat) oM) (eCval 9 58 hs (fun _ _ hs=>rWeigh (ss.getD k ost0).op (ss.getD k ost0).n (L.getD ((ss.getD k ost0).a.toNat) 0) oM oM _ _ hs.g) (fun _ _ hs=>eD0 hs (fun _ _ hs=>tV 10 6 (iV (weighS (ss.getD k ost0).op (ss.getD k ost0).n (L.getD ((ss.getD k ost0).a.toNat) 0))) (tN (cQ (cSL ?_)))))));have hX81:(weighS (ss.getD k ost0).op (ss.getD k ost0).n (L.getD ((ss.getD k ost0).a.toNat) 0):Int)=weightS (ss.getD k ost0).stp L:=by rw[weigh_o hWt ‹Formed inp k (ss.getD k ost0).stp›];(try unfold weighS);first|(rw[if_pos (show ari (ss.getD k ost0).op=0 by omega)])|(rw[if_neg (show ¬ari (ss.getD k ost0).op=0 by omega),if_neg (show ¬ari (ss.getD k ost0).op=2 by omega)])|(rw[if_neg (show ¬ari (ss.getD k ost0).op=0 by omega),if_pos (show ari (ss.getD k ost0).op=2 by omega),if_neg (show ¬(ss.getD k ost0).op=11 by omega),if_neg (show ¬((ss.getD k ost0).op=8∧(ss.getD k ost0).n≠0) by omega)];omega)
     refine lV 78 (iV (weightS (ss.getD k ost0).stp L)) ?_ (hr:=rint (n:=(weighS (ss.getD k ost0).op (ss.getD k ost0).n (L.getD ((ss.getD k ost0).a.toNat) 0):Int)) kR hX81);cases zl:(decide ((65536:Int)<(weightS (ss.getD k ost0).stp L:Int)))
     ·
      have zB:=oF zl;refine lB 79 zl (lNIF (cK (kQ (lL hs [.m 80 3] ?_))));have hX83:(weighS (ss.getD k ost0).op (ss.getD k ost0).n (L.getD ((ss.getD k ost0).a.toNat) 0):Int)=weightS (ss.getD k ost0).stp L:=by rw[weigh_o hWt ‹Formed inp k (ss.getD k ost0).stp›];(try unfold weighS);first|(rw[if_pos (show ari (ss.getD k ost0).op=0 by omega)])|(rw[if_neg (show ¬ari (ss.getD k ost0).op=0 by omega),if_neg (show ¬ari (ss.getD k ost0).op=2 by omega)])|(rw[if_neg (show ¬ari (ss.getD k ost0).op=0 by omega),if_pos (show ari (ss.getD k ost0).op=2 by omega),if_neg (show ¬(ss.getD k ost0).op=11 by omega),if_neg (show ¬((ss.getD k ost0).op=8∧(ss.getD k ost0).n≠0) by omega)];omega)
      refine lV 81 (iV (weightS (ss.getD k ost0).stp L)) ?_ (hr:=rint (n:=(weighS (ss.getD k ost0).op (ss.getD k ost0).n (L.getD ((ss.getD k ost0).a.toNat) 0):Int)) kR hX83);refine lR 82 3 1 ([iV (weightS (ss.getD k ost0).stp L)]) hs (fun zN _ _ hs=>lY 83 0 3 1 wac (sB zm) L i64c (weightS (ss.getD k ost0).stp L) 8 zN (iV 0) hs hs.f.1 (fun zP zQ _ zR hs=>lL hs [.m 3 83] (lN (kQ (lL hs [.m 33 4] (lIn 34 ((k:Nat)+1) (k+1) ?_))))));refine lL hs [.m 4 34] (lD ?_);intro a_ ka;replace hs:=hs.tl.tl.tl;replace hs:=hs.drop 1 0;refine ⟨_,_,?_,⟨k+1,zP,zQ,L++[weightS (ss.getD k ost0).stp L],zR,rfl,rfl,hs.to _ _,oM,(by simp;omega),(Wts.app hWt hll hws.1 oM),(hgo.trans ((goS_step (by rw[List.length_map];omega) hll (by rw[stp_getD oM];exact ‹Formed inp k (ss.getD k ost0).stp›) (by rw[stp_getD oM];omega)).trans (by rw[stp_getD oM])))⟩,ka.to _ kR⟩
      omega
     have zB:=oT zl;exact lB 79 zl (lNIT (cSLlL hs [.v 2 (iV 18)] (lNkXr hs [] (iV 18) (congrArg (Value.int .i64) ((chkTp_go hsh (by rw[hgo,goS_over (by rw[List.length_map];omega) hll (by rw[stp_getD oM];exact ‹Formed inp k (ss.getD k ost0).stp›) (by rw[stp_getD oM];omega)];decide)).trans (hgo.trans (goS_over (by rw[List.length_map];omega) hll (by rw[stp_getD oM];exact ‹Formed inp k (ss.getD k ost0).stp›) (by rw[stp_getD oM];omega)))).symm))))
    have phb7:=oT hb7;exact lB 26 hb7 (lL hs [.v 27 qT] (lNIT (cSLlL hs [.v 2 (iV 5)] (lNkXr hs [] (iV 5) (congrArg (Value.int .i64) (chkTp_shape (by rw[List.length_map];omega)).symm)))))
   have phb6:=oT hb6;refine lB 20 hb6 (lL hs [.v 21 qT,.m 22 21] (lG 23 ?_));exact lG 24 (lG 25 (lG 26 (lL hs [.v 27 qT] (lNIT (cSLlL hs [.v 2 (iV 5)] (lNkXr hs [] (iV 5) (congrArg (Value.int .i64) (chkTp_shape (by rw[List.length_map];omega)).symm)))))))
  have phb5:=oT hb5;refine lB 14 hb5 (lL hs [.v 15 qT,.m 16 15] (lG 17 ?_));refine lG 18 (lG 19 (lG 20 (lL hs [.v 21 qT,.m 22 21] (lG 23 ?_))));exact lG 24 (lG 25 (lG 26 (lL hs [.v 27 qT] (lNIT (cSLlL hs [.v 2 (iV 5)] (lNkXr hs [] (iV 5) (congrArg (Value.int .i64) (chkTp_shape (by rw[List.length_map];omega)).symm)))))))
 have phb4:=oT hb4;refine lB 10 hb4 (lL hs [.m 11 10] (lG 12 ?_));refine lG 13 (lG 14 (lL hs [.v 15 qT,.m 16 15] (lG 17 ?_)));refine lG 18 (lG 19 (lG 20 (lL hs [.v 21 qT,.m 22 21] (lG 23 ?_))));exact lG 24 (lG 25 (lG 26 (lL hs [.v 27 qT] (lNIT (cSLlL hs [.v 2 (iV 5)] (lNkXr hs [] (iV 5) (congrArg (Value.int .i64) (chkTp_shape (by rw[List.length_map];omega)).symm)))))))
theorem num_none {o:OSt}(hz:o.has=false→o.q=0)(h:odn o=0∨o.q.num=0):o.q=((0:Int):Rat):=by
  rcases h with h|h
  · refine hz ?_
    have h2:=odn_pos (o:=o);rw[h,lim_zero] at h2
    cases h3:o.has with
    | false=>rfl
    | true=>rw[h3] at h2;simp at h2
  · exact Rat.num_eq_zero.1 h
theorem odn_some {o:OSt}(hz:o.has=false→o.q=0)(h:¬(odn o=0∨o.q.num=0)):odn o=o.q.den:=by
  refine odn_has ?_;cases h3:o.has with
  | true=>rfl
  | false=>exact absurd (.inr (by rw[hz h3];rfl)) h
theorem rNumber (o:OSt)(A:Option Addr)(c:Nat)(D:Option Addr)(d:Nat)(hc:(lim (iabs o.q.num)).length≤c)(hd:(lim (odn o)).length≤d)(hz:o.has=false→o.q=0)(w:World)(h:Hp)(g:G w h)(hA:S3 A (lim (iabs o.q.num)) h)(hD:S3 D (lim (odn o)) h):CR 86 #[.agg #[.bool (ineg o.q.num),.slice A ((lim (iabs o.q.num)).length) c,.slice D ((lim (odn o)).length) d]] w h (fun v h1=>RQ h1 v o.q):=by
 have hs:=(((sS g).aS hA).aS hD);refine go Tryz.func86 [(0,.agg #[.bool (ineg o.q.num),qS A ((lim (iabs o.q.num)).length) c,qS D ((lim (odn o)).length) d])] rfl (cSL (lA 1 31 ([.bool (ineg o.q.num),qS A ((lim (iabs o.q.num)).length) c,qS D ((lim (odn o)).length) d]) hs (fun b1 w2 h3 hs=>lA 2 31 ([qF,sZ,sZ]) hs (fun b4 w5 h6 hs=>lNcQ (cSLlL hs [.o 3 (.agg #[.bool (ineg o.q.num),qS A ((lim (iabs o.q.num)).length) c,qS D ((lim (odn o)).length) d]) 1 0 3] (lCval 4 hs (rZero o.q.num A c (odn o) D d hc hd _ _ hs.g hs.f.2.1 hs.f.1) (fun w7 h8 hs=>?_)))))));cases hb9:(decide (odn o=0∨o.q.num=0))
 ·
  have phb9:=oF hb9;exact lNIF (cK (cSLlL hs [.o 6 (.agg #[.bool (ineg o.q.num),qS A ((lim (iabs o.q.num)).length) c,qS D ((lim (odn o)).length) d]) 1 0 3] (lP 0 0 ([.bool (ineg o.q.num),qS A ((lim (iabs o.q.num)).length) c,qS D ((lim (odn o)).length) d]) hs (fun _ hs=>lNkXr hs [(0,0,3)] (.agg #[.bool (ineg o.q.num),qS A ((lim (iabs o.q.num)).length) c,qS D ((lim (odn o)).length) d]) (by have hod:=odn_some hz (o:=o) oM;show RP _ _ o.q.num o.q.den;rw[←hod];exact ⟨A,c,D,d,rfl,hc,hd,hs.f.2.1,hs.f.1⟩)))))
 have phb9:=oT hb9;refine lNIT (cSL (lC 5 hs (rOf 0 oM oM _ _ hs.g) ?_));rintro _ _ _ hs ⟨za,zb,zc,zd,rfl,ze,zf,zg,zi⟩;replace hs:=hs.aP zg zi;exact lP 0 0 (rqx ((0:Int):Rat) za zb zc zd) hs (fun _ hs=>lNkXr hs [(0,0,3)] (rG ((0:Int):Rat) za zb zc zd) (RQ.eq ⟨_,_,_,_,rfl,ze,zf,hs.f.2.1,hs.f.1⟩ (num_none hz oM).symm))
theorem rOfT (b:Bool)(zA:Option Addr)(zn zc:Nat)(dA:Option Addr)(dn dc:Nat)(w:World)(h:Hp)(g:G w h):CV 48 #[.agg #[.bool b,.slice zA zn zc,.slice dA dn dc]] w h (rmv ⟨1,0,b,zA,zn,zc,dA,dn,dc,⟨#[]⟩,none,0,0⟩):=by
 have hs:=sS g;exact go Tryz.func48 [(0,.agg #[.bool b,qS zA zn zc,qS dA dn dc])] rfl (cSL (lA 1 31 ([.bool b,qS zA zn zc,qS dA dn dc]) hs (fun b1 w2 h3 hs=>lA 2 33 ([iV 0,iV 0,qF,sZ,sZ,eS,sZ]) hs (fun b4 w5 h6 hs=>lNS (lL hs [.o 3 (.agg #[.bool b,qS zA zn zc,qS dA dn dc]) 1 0 3,.v 4 (.agg #[iV 1,iV 0,.bool b,qS zA zn zc,qS dA dn dc,eS,sZ])] (lP 0 0 ([iV 1,iV 0,.bool b,qS zA zn zc,qS dA dn dc,eS,sZ]) hs (fun w7 hs=>lNkXr hs [(0,0,7)] (.agg #[iV 1,iV 0,.bool b,qS zA zn zc,qS dA dn dc,eS,sZ]) rfl)))))))
theorem rTwoT (op:Int)(ra rb:RTm)(w:World)(h:Hp)(g:G w h):CR 50 #[iV op,.agg #[iV ra.op,iV ra.n,.bool ra.neg,.slice ra.zA ra.zn ra.zc,.slice ra.dA ra.dn ra.dc,.string ra.s,.slice ra.A ra.m ra.c],.agg #[iV rb.op,iV rb.n,.bool rb.neg,.slice rb.zA rb.zn rb.zc,.slice rb.dA rb.dn rb.dc,.string rb.s,.slice rb.A rb.m rb.c]] w h (fun v h1=>∃ b,v=rmv ⟨op,0,false,none,0,0,none,0,0,⟨#[]⟩,sB b,2,2⟩∧SlO 7 rmc rtm0 h1 (sB b) [ra,rb]):=by
 have hs:=sS g;refine go Tryz.func50 [(0,iV op),(1,.agg #[iV ra.op,iV ra.n,.bool ra.neg,qS ra.zA ra.zn ra.zc,qS ra.dA ra.dn ra.dc,.string ra.s,qS ra.A ra.m ra.c]),(2,.agg #[iV rb.op,iV rb.n,.bool rb.neg,qS rb.zA rb.zn rb.zc,qS rb.dA rb.dn rb.dc,.string rb.s,qS rb.A rb.m rb.c])] rfl (cSL (lA 4 33 ([iV ra.op,iV ra.n,.bool ra.neg,qS ra.zA ra.zn ra.zc,qS ra.dA ra.dn ra.dc,.string ra.s,qS ra.A ra.m ra.c]) hs (fun b1 w2 h3 hs=>lA 5 33 ([iV rb.op,iV rb.n,.bool rb.neg,qS rb.zA rb.zn rb.zc,qS rb.dA rb.dn rb.dc,.string rb.s,qS rb.A rb.m rb.c]) hs (fun b4 w5 h6 hs=>lA 6 33 ([iV 0,iV 0,qF,sZ,sZ,eS,sZ]) hs (fun b7 w8 h9 hs=>lNS (lL hs [.m 7 0,.o 8 (.agg #[iV ra.op,iV ra.n,.bool ra.neg,qS ra.zA ra.zn ra.zc,qS ra.dA ra.dn ra.dc,.string ra.s,qS ra.A ra.m ra.c]) 2 0 7,.o 9 (.agg #[iV rb.op,iV rb.n,.bool rb.neg,qS rb.zA rb.zn rb.zc,qS rb.dA rb.dn rb.dc,.string rb.s,qS rb.A rb.m rb.c]) 1 0 7] (lR 10 33 2 ([iV ra.op,iV ra.n,.bool ra.neg,qS ra.zA ra.zn ra.zc,qS ra.dA ra.dn ra.dc,.string ra.s,qS ra.A ra.m ra.c,iV rb.op,iV rb.n,.bool rb.neg,qS rb.zA rb.zn rb.zc,qS rb.dA rb.dn rb.dc,.string rb.s,qS rb.A rb.m rb.c]) hs (fun za _ _ hs=>?_))))))));replace hs:=hs.aS (SlO.of_flat (sz:=7) (f:=rmc) (d:=rtm0) (b:=za) (o:=0) (l:=([(⟨ra.op,ra.n,ra.neg,ra.zA,ra.zn,ra.zc,ra.dA,ra.dn,ra.dc,ra.s,ra.A,ra.m,ra.c⟩:RTm),(⟨rb.op,rb.n,rb.neg,rb.zA,rb.zn,rb.zc,rb.dA,rb.dn,rb.dc,rb.s,rb.A,rb.m,rb.c⟩:RTm)]:List RTm)) (fun _=>rfl) hs.f.1);exact lL hs [.v 11 (.agg #[iV op,iV 0,qF,sZ,sZ,eS,qS (sB za) 2 2])] (lP 0 0 ([iV op,iV 0,qF,sZ,sZ,eS,qS (sB za) 2 2]) hs (fun _ hs=>lNkXr hs [(0,0,7)] (.agg #[iV op,iV 0,qF,sZ,sZ,eS,qS (sB za) 2 2]) (⟨_,rfl,hs.f.1⟩)))
section
variable {nm:Int→ByteArray} {l:List Stp} {inp:Int} {h:Hp} {k:Nat} {dp:Nat→Nat}
theorem rz0:RZ h (false,.slice none 0 0,.slice none 0 0) 0:=⟨false,⟨none,0,none,0,rfl,Nat.le_refl _,Nat.le_refl _,SlO.nil,SlO.nil⟩,fun _=>rfl⟩
theorem r_num {b:Bool}{zA dA:Option Addr}{zn zc dn dc:Nat}(h1:1≤dp k)(h2:(l.getD k stp0).op=1)(hz:RZ h (b,.slice zA zn zc,.slice dA dn dc) (l.getD k stp0).q):RmH (dp k) h ⟨1,0,b,zA,zn,zc,dA,dn,dc,⟨#[]⟩,none,0,0⟩ (tr nm l k):=by
  obtain ⟨e,he⟩:∃ e,dp k=e+1:=⟨dp k-1,by omega⟩;rw[tr_num h2,he];exact ⟨rfl,rfl,hz,rfl,rfl,Nat.le_refl _,[],rfl,SlO.nil,fun i hi=>absurd hi (Nat.not_lt_zero i)⟩
theorem r_leaf {s:ByteArray}(h1:1≤dp k)(h2:(l.getD k stp0).op=2)(hs:s=nm (l.getD k stp0).n):RmH (dp k) h ⟨2,0,false,none,0,0,none,0,0,s,none,0,0⟩ (tr nm l k):=by
  obtain ⟨e,he⟩:∃ e,dp k=e+1:=⟨dp k-1,by omega⟩;rw[tr_leaf h2,hs,he];exact ⟨rfl,rfl,rz0,rfl,rfl,Nat.le_refl _,[],rfl,SlO.nil,fun i hi=>absurd hi (Nat.not_lt_zero i)⟩
variable (hdp:DpS dp l) (hF:∀ k,k<l.length→Formed inp k (l.getD k stp0))
include hdp hF
theorem r_one {p:RTm}{b:Nat}(hk:k<l.length)(h1:ari (l.getD k stp0).op=1)(x:RmH (dp (l.getD k stp0).a.toNat) h p (tr nm l (l.getD k stp0).a.toNat))(hA:SlO 7 rmc rtm0 h (some ⟨b,0,none⟩) [p]):RmH (dp k) h ⟨(l.getD k stp0).op,(l.getD k stp0).n,false,none,0,0,none,0,0,⟨#[]⟩,some ⟨b,0,none⟩,1,1⟩ (tr nm l k):=by
  have ha:=(hF k hk).opr.1 oM;have hda:=hdp.a k hk oM;obtain ⟨e,he⟩:=hdp.suc hk;rw[tr_one hF hk h1,he];refine ⟨rfl,rfl,rz0,rfl,rfl,Nat.le_refl _,[p],rfl,hA,fun i hi=>?_⟩;have:i=0:=by have:i<1:=hi;omega
  subst this;exact x.mono oM
theorem r_two {p q:RTm}{b:Nat}(hk:k<l.length)(h1:ari (l.getD k stp0).op=2)(x:RmH (dp (l.getD k stp0).a.toNat) h p (tr nm l (l.getD k stp0).a.toNat))(y:RmH (dp (l.getD k stp0).b.toNat) h q (tr nm l (l.getD k stp0).b.toNat))(hA:SlO 7 rmc rtm0 h (some ⟨b,0,none⟩) [p,q]):RmH (dp k) h ⟨(l.getD k stp0).op,0,false,none,0,0,none,0,0,⟨#[]⟩,some ⟨b,0,none⟩,2,2⟩ (tr nm l k):=by
  have ha:=(hF k hk).opr.1 oM;have hb:=(hF k hk).opr.2.1 oM;have hda:=hdp.a k hk oM;have hdb:=hdp.b k hk oM;obtain ⟨e,he⟩:=hdp.suc hk;rw[tr_two hF hk h1,he];refine ⟨rfl,rfl,rz0,rfl,rfl,Nat.le_refl _,[p,q],rfl,hA,fun i hi=>?_⟩;have:i=0∨i=1:=by have:i<2:=hi;omega
  rcases this with rfl|rfl
  · exact x.mono oM
  · exact y.mono oM
end
theorem rTermS (inp:Int)(A:Option Addr)(c:Nat)(ts:List RSt)(ss:List OSt)(O:Option Addr)(d:Nat)(os:List Int)(i:Nat)(hi:i<ss.length)(ns:List ByteArray)(Nm:Option Addr)(cN:Nat)(nm:Int→ByteArray)(hnm:nm=(fun z=>ns.getD z.toNat ⟨#[]⟩))(hck:chkTp inp (ss.map OSt.stp) os=0)(hin:inp=(ns.length:Nat))(dp:Nat→Nat)(hdp:DpS dp (ss.map OSt.stp))(hl:ss.length≤1000)(ih:∀ (j:Nat) (z:Int),z=(j:Nat)→j<i→∀ (w:World) (h:Hp),G w h→SlO 7 rsc rst0 h A ts→RSs h ts ss→Si O os h→SlO 1 strc ⟨#[]⟩ h Nm ns→Calls Tryz.prog 44 #[.agg #[iV inp,.slice A ts.length c,.slice O os.length d],iV z,.slice Nm ns.length cN] w (Ret w h (fun v h1=>∃ r,v=rmv r∧RmH (dp j) h1 r (tr nm (ss.map OSt.stp) j))))(w:World)(h:Hp)(g:G w h)(hA:SlO 7 rsc rst0 h A ts)(hT:RSs h ts ss)(hO:Si O os h)(hN:SlO 1 strc ⟨#[]⟩ h Nm ns):CR 44 #[.agg #[iV inp,.slice A ts.length c,.slice O os.length d],nV i,.slice Nm ns.length cN] w h (fun v h1=>∃ r,v=rmv r∧RmH (dp i) h1 r (tr nm (ss.map OSt.stp) i)):=by
 have hs:=(((((sS g).aS hA).add (K:=fun h_=>RSs h_ ts ss) hT).aS hO).aS hN);have hlt:=(hs.f.r.1).len;have hF:=(chk_formed hck).1;have fk:Formed inp i (ss.getD i ost0).stp:=by have q_:=hF i (by rw[List.length_map];exact hi);rw[stp_getD hi] at q_;exact q_
 have hop:=fk.opr;obtain ⟨hx1,hx2,hx3,hx4⟩:=fk.ix
 dsimp only[OSt.stp] at hx1 hx2 hx3 hx4
 refine go Tryz.func44 [(0,.agg #[iV inp,qS A ts.length c,qS O os.length d]),(1,nV i),(2,qS Nm ns.length cN)] rfl (cSL (lA 3 48 ([iV inp,qS A ts.length c,qS O os.length d]) hs (fun b1 w2 h3 hs=>lA 6 33 ([iV 0,iV 0,qF,sZ,sZ,eS,sZ]) hs (fun b4 w5 h6 hs=>lNS (lL hs [.v 8 (qP b1 1),.o 9 (qS A ts.length c) 1 1 1,.m 10 1] (lX 11 A ts.length c 7 (i:Nat) i ((hs.f.r.2.1).ok oM) ?_))))));obtain ⟨Aqx,cqx,Dqx,dqx,eqx,hcqx,hdqx,hAqx,hDqx⟩:=((hs.f.r.1).at_ i oM).opn;replace hs:=hs.aP hAqx hDqx;refine lHe 12 (.agg #[iV ((ts.getD i rst0).op),iV ((ts.getD i rst0).a),iV ((ts.getD i rst0).b),iV ((ts.getD i rst0).n),.bool ((ts.getD i rst0).t.1),(ts.getD i rst0).t.2.1,(ts.getD i rst0).t.2.2]) hs ((hs.f.q.2.1).el i oM) eqx (lA 7 102 ([iV 0,iV 0,iV 0,iV 0,qF,sZ,sZ]) hs (fun b7 w8 h9 hs=>lP 0 0 ([iV ((ss.getD i ost0).op),iV ((ss.getD i ost0).a),iV ((ss.getD i ost0).b),iV ((ss.getD i ost0).n),.bool (ineg (ss.getD i ost0).q.num),qS Aqx ((lim (iabs (ss.getD i ost0).q.num)).length) cqx,qS Dqx ((lim (odn (ss.getD i ost0))).length) dqx]) hs (fun _ hs=>lNcQ (cSLlL hs [.v 13 (pB b7),.o 14 (iV ((ss.getD i ost0).op)) 0 0 1] (lCval 15 hs (rKids (ss.getD i ost0).op _ _ hs.g) (fun _ _ hs=>lNkZ (cSL ?_)))))));cases zf:((ari (ss.getD i ost0).op:Int) == (0:Int))
 ·
  have zk:=neOfBeq zf;refine lB 17 zf (lL hs [.m 16 17] (lNIF (cSL ?_)));cases zg:((ari (ss.getD i ost0).op:Int) == (1:Int))
  ·
   have zl:=neOfBeq zg;refine lB 32 zg (lL hs [.m 31 32] (lNIF (cK (cQ (cR 13 [] mixed hs al_nil ?_)))));have ha2_:ari (ss.getD i ost0).op=2:=by have q_:=ari_cases (ss.getD i ost0).op;have q2_:=fk.1;dsimp only[OSt.stp] at q2_;omega
   have hak:=hop.1 (by show 0<ari (ss.getD i ost0).op;omega);have hbk_:=hop.2.1 (by show 1<ari (ss.getD i ost0).op;omega)
   dsimp only[OSt.stp] at hak hbk_
   refine eV 0 44 (pB b7) (eO 1 45 [(0,0,1)] (iV ((ss.getD i ost0).op)) hs (eO 2 46 [(2,0,3)] (.agg #[iV inp,qS A ts.length c,qS O os.length d]) hs (eV 3 47 (qP b7 1) (eO 4 48 [(0,1,1)] (iV ((ss.getD i ost0).a)) hs (eV 5 49 (qS Nm ns.length cN) (eO 7 51 [(2,0,3)] (.agg #[iV inp,qS A ts.length c,qS O os.length d]) hs (eV 8 52 (qP b7 2) (eO 9 53 [(0,2,1)] (iV ((ss.getD i ost0).b)) hs (eV 10 54 (qS Nm ns.length cN) (eC 6 50 hs (fun _ _ hs=>ih (ss.getD i ost0).a.toNat (ss.getD i ost0).a oM oM _ _ hs.g hs.f.q.2.1 hs.f.q.1 hs.f.r.2.1 hs.f.r.1) ?_))))))))));rintro _ _ _ _ _ hs ⟨ra,rfl,hra⟩;replace hs:=(hs.add (K:=fun h_=>RmH (dp (ss.getD i ost0).a.toNat) h_ ra (tr nm (ss.map OSt.stp) (ss.getD i ost0).a.toNat)) hra);refine eC 11 55 hs (fun _ _ hs=>ih (ss.getD i ost0).b.toNat (ss.getD i ost0).b oM oM _ _ hs.g hs.f.q.r.1 hs.f.q.2.1 hs.f.q.1 hs.f.r.2.1) ?_;rintro _ _ _ _ _ hs ⟨rb,rfl,hrb⟩;replace hs:=(hs.add (K:=fun h_=>RmH (dp (ss.getD i ost0).b.toNat) h_ rb (tr nm (ss.map OSt.stp) (ss.getD i ost0).b.toNat)) hrb);refine eC 12 56 hs (fun _ _ hs=>rTwoT (ss.getD i ost0).op ra rb _ _ hs.g) ?_;rintro _ _ _ _ _ hs ⟨bk,rfl,hbk⟩;replace hs:=hs.aS hbk;exact eD0 hs (fun _ _ hs=>tP 13 1 0 ([iV ((⟨(ss.getD i ost0).op,0,false,none,0,0,none,0,0,⟨#[]⟩,sB bk,2,2⟩:RTm).op),iV ((⟨(ss.getD i ost0).op,0,false,none,0,0,none,0,0,⟨#[]⟩,sB bk,2,2⟩:RTm).n),.bool ((⟨(ss.getD i ost0).op,0,false,none,0,0,none,0,0,⟨#[]⟩,sB bk,2,2⟩:RTm).neg),qS ((⟨(ss.getD i ost0).op,0,false,none,0,0,none,0,0,⟨#[]⟩,sB bk,2,2⟩:RTm).zA) ((⟨(ss.getD i ost0).op,0,false,none,0,0,none,0,0,⟨#[]⟩,sB bk,2,2⟩:RTm).zn) ((⟨(ss.getD i ost0).op,0,false,none,0,0,none,0,0,⟨#[]⟩,sB bk,2,2⟩:RTm).zc),qS ((⟨(ss.getD i ost0).op,0,false,none,0,0,none,0,0,⟨#[]⟩,sB bk,2,2⟩:RTm).dA) ((⟨(ss.getD i ost0).op,0,false,none,0,0,none,0,0,⟨#[]⟩,sB bk,2,2⟩:RTm).dn) ((⟨(ss.getD i ost0).op,0,false,none,0,0,none,0,0,⟨#[]⟩,sB bk,2,2⟩:RTm).dc),.string ((⟨(ss.getD i ost0).op,0,false,none,0,0,none,0,0,⟨#[]⟩,sB bk,2,2⟩:RTm).s),qS ((⟨(ss.getD i ost0).op,0,false,none,0,0,none,0,0,⟨#[]⟩,sB bk,2,2⟩:RTm).A) ((⟨(ss.getD i ost0).op,0,false,none,0,0,none,0,0,⟨#[]⟩,sB bk,2,2⟩:RTm).m) ((⟨(ss.getD i ost0).op,0,false,none,0,0,none,0,0,⟨#[]⟩,sB bk,2,2⟩:RTm).c)]) hs (fun _ hs=>tN (kX (hs.ret [(1,0,7)] (.agg #[iV ((⟨(ss.getD i ost0).op,0,false,none,0,0,none,0,0,⟨#[]⟩,sB bk,2,2⟩:RTm).op),iV ((⟨(ss.getD i ost0).op,0,false,none,0,0,none,0,0,⟨#[]⟩,sB bk,2,2⟩:RTm).n),.bool ((⟨(ss.getD i ost0).op,0,false,none,0,0,none,0,0,⟨#[]⟩,sB bk,2,2⟩:RTm).neg),qS ((⟨(ss.getD i ost0).op,0,false,none,0,0,none,0,0,⟨#[]⟩,sB bk,2,2⟩:RTm).zA) ((⟨(ss.getD i ost0).op,0,false,none,0,0,none,0,0,⟨#[]⟩,sB bk,2,2⟩:RTm).zn) ((⟨(ss.getD i ost0).op,0,false,none,0,0,none,0,0,⟨#[]⟩,sB bk,2,2⟩:RTm).zc),qS ((⟨(ss.getD i ost0).op,0,false,none,0,0,none,0,0,⟨#[]⟩,sB bk,2,2⟩:RTm).dA) ((⟨(ss.getD i ost0).op,0,false,none,0,0,none,0,0,⟨#[]⟩,sB bk,2,2⟩:RTm).dn) ((⟨(ss.getD i ost0).op,0,false,none,0,0,none,0,0,⟨#[]⟩,sB bk,2,2⟩:RTm).dc),.string ((⟨(ss.getD i ost0).op,0,false,none,0,0,none,0,0,⟨#[]⟩,sB bk,2,2⟩:RTm).s),qS ((⟨(ss.getD i ost0).op,0,false,none,0,0,none,0,0,⟨#[]⟩,sB bk,2,2⟩:RTm).A) ((⟨(ss.getD i ost0).op,0,false,none,0,0,none,0,0,⟨#[]⟩,sB bk,2,2⟩:RTm).m) ((⟨(ss.getD i ost0).op,0,false,none,0,0,none,0,0,⟨#[]⟩,sB bk,2,2⟩:RTm).c)]) (⟨_,rfl,by have q_:=r_two hdp hF (by rw[List.length_map];exact hi) (by rw[stp_getD hi];show ari (ss.getD i ost0).op=2;omega) (by rw[stp_getD hi];exact hs.f.r.1) (by rw[stp_getD hi];exact hs.f.2.1) (hs.f.1);rw[stp_getD hi] at q_;exact q_⟩)))))
  have zl:=eq_of_beq zg;refine lB 32 zg (lL hs [.m 31 32] (lNIT (cQ (cR 11 [] mixed hs al_nil ?_))));have hak:=hop.1 (by show 0<ari (ss.getD i ost0).op;omega)
  dsimp only[OSt.stp] at hak
  refine eV 0 33 (pB b7) (eO 1 34 [(0,0,1)] (iV ((ss.getD i ost0).op)) hs (eV 2 35 (qP b7 3) (eO 3 36 [(0,3,1)] (iV ((ss.getD i ost0).n)) hs (eO 4 37 [(2,0,3)] (.agg #[iV inp,qS A ts.length c,qS O os.length d]) hs (eV 5 38 (qP b7 1) (eO 6 39 [(0,1,1)] (iV ((ss.getD i ost0).a)) hs (eV 7 40 (qS Nm ns.length cN) (eC 8 41 hs (fun _ _ hs=>ih (ss.getD i ost0).a.toNat (ss.getD i ost0).a oM oM _ _ hs.g hs.f.q.2.1 hs.f.q.1 hs.f.r.2.1 hs.f.r.1) ?_))))))));rintro _ _ _ _ _ hs ⟨ra,rfl,hra⟩;replace hs:=(hs.add (K:=fun h_=>RmH (dp (ss.getD i ost0).a.toNat) h_ ra (tr nm (ss.map OSt.stp) (ss.getD i ost0).a.toNat)) hra);refine eR 9 42 33 1 ([iV ra.op,iV ra.n,.bool ra.neg,qS ra.zA ra.zn ra.zc,qS ra.dA ra.dn ra.dc,.string ra.s,qS ra.A ra.m ra.c]) hs (fun zj _ _ hs=>?_);replace hs:=hs.aS (SlO.of_flat (sz:=7) (f:=rmc) (d:=rtm0) (b:=zj) (o:=0) (l:=([ra]:List RTm)) (fun _=>rfl) hs.f.1);exact eV 10 43 (.agg #[iV ((ss.getD i ost0).op),iV ((ss.getD i ost0).n),qF,sZ,sZ,eS,qS (sB zj) 1 1]) (eD0 hs (fun _ _ hs=>tP 11 1 0 ([iV ((ss.getD i ost0).op),iV ((ss.getD i ost0).n),qF,sZ,sZ,eS,qS (sB zj) 1 1]) hs (fun _ hs=>tN (kX (hs.ret [(1,0,7)] (.agg #[iV ((ss.getD i ost0).op),iV ((ss.getD i ost0).n),qF,sZ,sZ,eS,qS (sB zj) 1 1]) (⟨(⟨(ss.getD i ost0).op,(ss.getD i ost0).n,false,none,0,0,none,0,0,⟨#[]⟩,sB zj,1,1⟩:RTm),rfl,by have q_:=r_one hdp hF (by rw[List.length_map];exact hi) (by rw[stp_getD hi];show ari (ss.getD i ost0).op=1;omega) (by rw[stp_getD hi];exact hs.f.r.1) (hs.f.1);rw[stp_getD hi] at q_;exact q_⟩))))))
 have zk:=eq_of_beq zf;refine lB 17 zf (lL hs [.m 16 17] (lNIT (cQ (cSLlL hs [.v 18 (pB b7),.o 19 (iV ((ss.getD i ost0).op)) 0 0 1] ?_))));cases zi:(((ss.getD i ost0).op:Int) == (1:Int))
 ·
  have zm:=neOfBeq zi;refine lB 20 zi (lNIF (cK (cSL ?_)));have h2_:(ss.getD i ost0).op=2:=by have q_:=ari_cases (ss.getD i ost0).op;omega
  obtain ⟨hn1,hn2⟩:=fk.nm h2_
  dsimp only[OSt.stp] at hn1 hn2
  refine lL hs [.m 25 2,.v 26 (qP b7 3),.o 27 (iV ((ss.getD i ost0).n)) 0 3 1] (lX 28 Nm ns.length cN 1 ((ss.getD i ost0).n) ((ss.getD i ost0).n.toNat) ((hs.f.r.1).ok oM) ?_);exact lH 29 (.string (ns.getD ((ss.getD i ost0).n.toNat) ⟨#[]⟩)) hs ((hs.f.r.1).el ((ss.getD i ost0).n.toNat) oM) (lL hs [.v 30 (.agg #[iV 2,iV 0,qF,sZ,sZ,.string (ns.getD ((ss.getD i ost0).n.toNat) ⟨#[]⟩),sZ])] (lP 1 0 ([iV 2,iV 0,qF,sZ,sZ,.string (ns.getD ((ss.getD i ost0).n.toNat) ⟨#[]⟩),sZ]) hs (fun _ hs=>lNkXr hs [(1,0,7)] (.agg #[iV 2,iV 0,qF,sZ,sZ,.string (ns.getD ((ss.getD i ost0).n.toNat) ⟨#[]⟩),sZ]) (⟨(⟨2,0,false,none,0,0,none,0,0,ns.getD (ss.getD i ost0).n.toNat ⟨#[]⟩,none,0,0⟩:RTm),rfl,r_leaf (hdp.one i (by rw[List.length_map];exact hi)) (by rw[stp_getD hi];show (ss.getD i ost0).op=2;omega) (by rw[stp_getD hi,hnm];rfl)⟩))))
 have zm:=eq_of_beq zi;refine lB 20 zi (lNIT (cSLlL hs [.v 21 (qP b7 4),.o 22 (.agg #[.bool (ineg (ss.getD i ost0).q.num),qS Aqx ((lim (iabs (ss.getD i ost0).q.num)).length) cqx,qS Dqx ((lim (odn (ss.getD i ost0))).length) dqx]) 0 4 3] (lC 23 hs (rNumber (ss.getD i ost0) Aqx cqx Dqx dqx hcqx hdqx ((hs.f.q.1).at_ i oM).z _ _ hs.g hs.f.2.1 hs.f.1) ?_)));rintro _ _ _ hs ⟨za,zb,zd,ze,rfl,zo,zp,zq,zr⟩;replace hs:=hs.aP zq zr;refine lCval 24 hs (rOfT (ineg ((ss.getD i ost0).q).num) za ((lim (iabs ((ss.getD i ost0).q).num)).length) zb zd ((lim ((ss.getD i ost0).q).den).length) ze _ _ hs.g) (fun _ _ hs=>lP 1 0 ([iV ((⟨1,0,ineg ((ss.getD i ost0).q).num,za,(lim (iabs ((ss.getD i ost0).q).num)).length,zb,zd,(lim ((ss.getD i ost0).q).den).length,ze,⟨#[]⟩,none,0,0⟩:RTm).op),iV ((⟨1,0,ineg ((ss.getD i ost0).q).num,za,(lim (iabs ((ss.getD i ost0).q).num)).length,zb,zd,(lim ((ss.getD i ost0).q).den).length,ze,⟨#[]⟩,none,0,0⟩:RTm).n),.bool ((⟨1,0,ineg ((ss.getD i ost0).q).num,za,(lim (iabs ((ss.getD i ost0).q).num)).length,zb,zd,(lim ((ss.getD i ost0).q).den).length,ze,⟨#[]⟩,none,0,0⟩:RTm).neg),qS ((⟨1,0,ineg ((ss.getD i ost0).q).num,za,(lim (iabs ((ss.getD i ost0).q).num)).length,zb,zd,(lim ((ss.getD i ost0).q).den).length,ze,⟨#[]⟩,none,0,0⟩:RTm).zA) ((⟨1,0,ineg ((ss.getD i ost0).q).num,za,(lim (iabs ((ss.getD i ost0).q).num)).length,zb,zd,(lim ((ss.getD i ost0).q).den).length,ze,⟨#[]⟩,none,0,0⟩:RTm).zn) ((⟨1,0,ineg ((ss.getD i ost0).q).num,za,(lim (iabs ((ss.getD i ost0).q).num)).length,zb,zd,(lim ((ss.getD i ost0).q).den).length,ze,⟨#[]⟩,none,0,0⟩:RTm).zc),qS ((⟨1,0,ineg ((ss.getD i ost0).q).num,za,(lim (iabs ((ss.getD i ost0).q).num)).length,zb,zd,(lim ((ss.getD i ost0).q).den).length,ze,⟨#[]⟩,none,0,0⟩:RTm).dA) ((⟨1,0,ineg ((ss.getD i ost0).q).num,za,(lim (iabs ((ss.getD i ost0).q).num)).length,zb,zd,(lim ((ss.getD i ost0).q).den).length,ze,⟨#[]⟩,none,0,0⟩:RTm).dn) ((⟨1,0,ineg ((ss.getD i ost0).q).num,za,(lim (iabs ((ss.getD i ost0).q).num)).length,zb,zd,(lim ((ss.getD i ost0).q).den).length,ze,⟨#[]⟩,none,0,0⟩:RTm).dc),.string ((⟨1,0,ineg ((ss.getD i ost0).q).num,za,(lim (iabs ((ss.getD i ost0).q).num)).length,zb,zd,(lim ((ss.getD i ost0).q).den).length,ze,⟨#[]⟩,none,0,0⟩:RTm).s),qS ((⟨1,0,ineg ((ss.getD i ost0).q).num,za,(lim (iabs ((ss.getD i ost0).q).num)).length,zb,zd,(lim ((ss.getD i ost0).q).den).length,ze,⟨#[]⟩,none,0,0⟩:RTm).A) ((⟨1,0,ineg ((ss.getD i ost0).q).num,za,(lim (iabs ((ss.getD i ost0).q).num)).length,zb,zd,(lim ((ss.getD i ost0).q).den).length,ze,⟨#[]⟩,none,0,0⟩:RTm).m) ((⟨1,0,ineg ((ss.getD i ost0).q).num,za,(lim (iabs ((ss.getD i ost0).q).num)).length,zb,zd,(lim ((ss.getD i ost0).q).den).length,ze,⟨#[]⟩,none,0,0⟩:RTm).c)]) hs (fun _ hs=>?_));exact lNkXr hs [(1,0,7)] (.agg #[iV ((⟨1,0,ineg ((ss.getD i ost0).q).num,za,(lim (iabs ((ss.getD i ost0).q).num)).length,zb,zd,(lim ((ss.getD i ost0).q).den).length,ze,⟨#[]⟩,none,0,0⟩:RTm).op),iV ((⟨1,0,ineg ((ss.getD i ost0).q).num,za,(lim (iabs ((ss.getD i ost0).q).num)).length,zb,zd,(lim ((ss.getD i ost0).q).den).length,ze,⟨#[]⟩,none,0,0⟩:RTm).n),.bool ((⟨1,0,ineg ((ss.getD i ost0).q).num,za,(lim (iabs ((ss.getD i ost0).q).num)).length,zb,zd,(lim ((ss.getD i ost0).q).den).length,ze,⟨#[]⟩,none,0,0⟩:RTm).neg),qS ((⟨1,0,ineg ((ss.getD i ost0).q).num,za,(lim (iabs ((ss.getD i ost0).q).num)).length,zb,zd,(lim ((ss.getD i ost0).q).den).length,ze,⟨#[]⟩,none,0,0⟩:RTm).zA) ((⟨1,0,ineg ((ss.getD i ost0).q).num,za,(lim (iabs ((ss.getD i ost0).q).num)).length,zb,zd,(lim ((ss.getD i ost0).q).den).length,ze,⟨#[]⟩,none,0,0⟩:RTm).zn) ((⟨1,0,ineg ((ss.getD i ost0).q).num,za,(lim (iabs ((ss.getD i ost0).q).num)).length,zb,zd,(lim ((ss.getD i ost0).q).den).length,ze,⟨#[]⟩,none,0,0⟩:RTm).zc),qS ((⟨1,0,ineg ((ss.getD i ost0).q).num,za,(lim (iabs ((ss.getD i ost0).q).num)).length,zb,zd,(lim ((ss.getD i ost0).q).den).length,ze,⟨#[]⟩,none,0,0⟩:RTm).dA) ((⟨1,0,ineg ((ss.getD i ost0).q).num,za,(lim (iabs ((ss.getD i ost0).q).num)).length,zb,zd,(lim ((ss.getD i ost0).q).den).length,ze,⟨#[]⟩,none,0,0⟩:RTm).dn) ((⟨1,0,ineg ((ss.getD i ost0).q).num,za,(lim (iabs ((ss.getD i ost0).q).num)).length,zb,zd,(lim ((ss.getD i ost0).q).den).length,ze,⟨#[]⟩,none,0,0⟩:RTm).dc),.string ((⟨1,0,ineg ((ss.getD i ost0).q).num,za,(lim (iabs ((ss.getD i ost0).q).num)).length,zb,zd,(lim ((ss.getD i ost0).q).den).length,ze,⟨#[]⟩,none,0,0⟩:RTm).s),qS ((⟨1,0,ineg ((ss.getD i ost0).q).num,za,(lim (iabs ((ss.getD i ost0).q).num)).length,zb,zd,(lim ((ss.getD i ost0).q).den).length,ze,⟨#[]⟩,none,0,0⟩:RTm).A) ((⟨1,0,ineg ((ss.getD i ost0).q).num,za,(lim (iabs ((ss.getD i ost0).q).num)).length,zb,zd,(lim ((ss.getD i ost0).q).den).length,ze,⟨#[]⟩,none,0,0⟩:RTm).m) ((⟨1,0,ineg ((ss.getD i ost0).q).num,za,(lim (iabs ((ss.getD i ost0).q).num)).length,zb,zd,(lim ((ss.getD i ost0).q).den).length,ze,⟨#[]⟩,none,0,0⟩:RTm).c)]) (⟨_,rfl,r_num (hdp.one i (by rw[List.length_map];exact hi)) (by rw[stp_getD hi];show (ss.getD i ost0).op=1;omega) (by rw[stp_getD hi];exact ⟨true,⟨_,_,_,_,rfl,zo,zp,hs.f.2.1,hs.f.1⟩,fun h_=>by cases h_⟩)⟩)
end Go.Proofs.YtfkjipodndiklaaGreatDoor
