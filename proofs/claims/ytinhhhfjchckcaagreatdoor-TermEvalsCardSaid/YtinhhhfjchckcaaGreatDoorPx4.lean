/- Laws and contracts that the card of this claim stands on, part 5. No condition of ours. -/
import Derived.Test.YtinhhhfjchckcaaGreatDoorPx0
import Derived.Test.YtinhhhfjchckcaaGreatDoorPx1
import Derived.Test.YtinhhhfjchckcaaGreatDoorPx2
import Derived.Test.YtinhhhfjchckcaaGreatDoorPx3
set_option maxRecDepth 100000
set_option maxHeartbeats 4000000
namespace Go.Proofs.YtinhhhfjchckcaaGreatDoor
open Go.RowKit
open Go.RowKit Go.Shelf
structure NetB (ls:List Lay) (xs:List Rat):Prop where
  w:∀ k i j,LQ 1000000 (((ls.getD k gC).W.getD i []).getD j 0)
  b:∀ k i,LQ 1000000 ((ls.getD k gC).B.getD i 0)
  x:∀ k,k≤ls.length→∀ j,LQ 1000000 ((Ao ls xs k).getD j 0)
theorem RQ.eq {h:Hp}{v:Value}{p q:Rat}(x:RQ h v p)(e:p=q):RQ h v q:=by subst e;exact x
structure LaySz (L:Lay):Prop where
  rl:L.W.length≤8
  rls:∀ i,(L.W.getD i []).length≤8
  bl:L.B.length≤8
  w:∀ i j,LQ 1 ((L.W.getD i []).getD j 0)
  b:∀ i,LQ 1 (L.B.getD i 0)
  b4:L.B.length≤4
  w4:(L.W.getD 0 []).length≤4
theorem rN {k:Nat}(h:1≤k):LQ k 0:=(LQ.lit (z:=0) kD).mono h
section fut
variable {P:Program} {n:Nat} {N R:Po} {X:Nat→Po} {ops:Array Oper} {k0 K:Nat} {L:Array Bool} {Γ:bM} {w:World} {h:Hp} {w0:World} {h0:Hp} {B:List Bx} {Rs:List Rw} {F:List (Hp→Prop)}
end fut
theorem ox {α:Type}{l:List α}{n i:Nat}{d:α}:(l.drop n).getD i d=l.getD (n+i) d:=by simp[List.getD_eq_getElem?_getD]
structure LayS4 (L:Lay):Prop where
  rl:L.W.length≤4
  rls:∀ i,(L.W.getD i []).length≤4
  bl:L.B.length≤4
  w:∀ i j,LQ 1 ((L.W.getD i []).getD j 0)
  b:∀ i,LQ 1 (L.B.getD i 0)
section fla
variable {P:Program} {n:Nat} {N R:Po} {X:Nat→Po} {ops:Array Oper} {k:Nat} {Γ:bM} {w:World} {h:Hp} {w0:World} {h0:Hp} {B:List Bx} {Rs:List Rw} {F:List (Hp→Prop)}
end fla
section prt
variable {M:Ms} {P:Program} {n:Nat} {N R:Po} {X:Nat→Po} {ops:Array Oper} {k k0:Nat} {hr:Hp} {AL:List Al} {L:Array Bool} {Γ:bM} {w:World} {h:Hp}
end prt
def bV (a:Rat):Nat→Rat
  | 0=>((1:Int):Rat)
  | k+1=>bV a k*a
theorem l8 {a:Rat}(h:a≠0):∀ k,bV a k≠0
 | 0=>by show ((1:Int):Rat)≠0;decide
 | k+1=>by show bV a k*a≠0;have:=l8 h k;grind
theorem qZ {k:Nat}(h:0<k):bV 0 k=0:=by
 obtain ⟨j,rfl⟩:∃ j,k=j+1:=⟨k-1,by omega⟩
 show bV 0 j*0=0;rw[Rat.mul_zero]
def fa (a:Rat)(n:Int):Rat:=if 0≤n then bV a n.natAbs else ((1:Int):Rat)/bV a n.natAbs
def jO (a b:Rat):Rat:=if b<a then b else a
def qh (op n:Int)(q a b:Rat):Rat :=
  if op=1 then q else if op=3 then a+b else if op=4 then a-b else if op=5 then a*b else if op=6 then a/b else if op=7 then -a
  else if op=8 then fa a n else if op=9 then db a else if op=10 then maxR a 0 else if op=11 then a/(db a+((1:Int):Rat)) else if op=12 then maxR a b else jO a b
def iH (op n:Int)(a b:Rat):Prop:=(op=6→b≠0)∧(op=8→n<0→a≠0)
instance (op n:Int) (a b:Rat):Decidable (iH op n a b):=by unfold iH;infer_instance
def Gu (op:Int)(a b:Rat):Prop:=(op=9∨op=10)∧a=0∨(op=12∨op=13)∧a=b
instance (op:Int) (a b:Rat):Decidable (Gu op a b):=by unfold Gu;infer_instance
theorem l5 {a:Rat}(h:a≠0):a.num≠0:=fun e=>h (by rw[←Rat.num_eq_zero];exact e)
theorem gl {a:Rat}{K:Nat}(h:LQ K a):∀ k,LQ (k*K+1) (bV a k)
 | 0=>LQ.mono (k:=1) (LQ.lit (z:=1) kD) oM
 | k+1=>((gl h k).mul h).mono (by rw[Nat.add_mul];omega)
theorem AA (a b:Rat)(hb:b=0)(w:World)(h:Hp)(g:G w h):CV 77 #[qv a,qv b] w h (.tuple #[qv 0,.bool false]):=by
 subst hb;exact Ex a (rN oM) w h g
theorem oy (u:Rat):(db u+((1:Int):Rat)).num≠0:=by rw[Rat.add_comm];exact jL u
theorem FD (a b:Rat)(ha:LQ 100000000 a)(hb:LQ 100000000 b)(w:World)(h:Hp)(g:G w h):CV 83 #[qv a,qv b] w h (qv (jO a b)):=by
 have hs:=sS g;refine go Tryz.func83 [(0,qv a),(1,qv b)] rfl (av (lA 2 45 (qc a) hs (fun b1 w2 h3 hs=>lA 3 45 (qc b) hs (fun b4 w5 h6 hs=>lA 4 45 ([qF,uV 0,eS,uV 0,eS]) hs (fun b7 w8 h9 hs=>ah (ab hs [.o 5 (qv b) 1 0 5,.o 6 (qv a) 2 0 5] (ai 7 hs (Bq b a (LQ.mono hb oM) (LQ.mono ha oM) _ _ hs.g) (fun _ _ hs=>?_))))))));cases za:(decide ((du b a:Int)<(0:Int)))
 ·
  have zb:=oF za;exact lB 8 za (ag (cK (ab hs [.o 10 (qv a) 2 0 5] (lP 0 0 (qc a) hs (fun _ hs=>ae hs [(0,0,5)] (qv a) (by unfold jO;rw[if_neg (fun h_=>by have:=jC.2 h_;omega)]))))))
 have zb:=oT za;exact lB 8 za (ak (ab hs [.o 9 (qv b) 1 0 5] (lP 0 0 (qc b) hs (fun _ hs=>ae hs [(0,0,5)] (qv b) (by unfold jO;rw[if_pos (jC.1 oM)])))))
def f9 (op n:Int)(q a b:Rat):Rat:=if iH op n a b then qh op n q a b else 0
theorem uR {α:Type}{l:List α}{i:Nat}{d:α}(h:i<l.length):l.getD i d∈l:=by
 rw[List.getD_eq_getElem?_getD,List.getElem?_eq_getElem h];exact List.getElem_mem h
theorem rd {α:Type}{l:List α}{i:Nat}{d:α}(h:l.length≤i):l.getD i d=d:=by
 rw[List.getD_eq_getElem?_getD,List.getElem?_eq_none h];rfl
def Ea (s:ByteArray):List Value:=[.string s]
inductive Tm where
  | mk (op n:Int) (q:Rat) (s:ByteArray) (ks:List Tm)
def Tm.op:Tm→Int|.mk op _ _ _ _=>op
def Tm.n:Tm→Int|.mk _ n _ _ _=>n
def Tm.q:Tm→Rat|.mk _ _ q _ _=>q
def Tm.s:Tm→ByteArray|.mk _ _ _ s _=>s
def Tm.ks:Tm→List Tm|.mk _ _ _ _ ks=>ks
def bz:Tm:=.mk 0 0 0 ⟨#[]⟩ []
structure PTm where
  op:Int
  n:Int
  q:Rat
  s:ByteArray
  A:Option Addr
  m:Nat
  c:Nat
abbrev pX (p:PTm):Value:=.agg #[iV p.op,iV p.n,.bool (ac p.q.num),uV (lo (aa p.q.num)),.string (hi (aa p.q.num)),uV (lo (qd p.q)),.string (hi (qd p.q)),.string p.s,.slice p.A p.m p.c]
abbrev pC (p:PTm):List Value:=[iV p.op,iV p.n,.bool (ac p.q.num),uV (lo (aa p.q.num)),.string (hi (aa p.q.num)),uV (lo (qd p.q)),.string (hi (qd p.q)),.string p.s,.slice p.A p.m p.c]
abbrev pW (o n:Int)(q:Rat)(s:ByteArray)(A:Option Addr)(m c:Nat):Value:=.agg #[iV o,iV n,.bool (ac q.num),uV (lo (aa q.num)),.string (hi (aa q.num)),uV (lo (qd q)),.string (hi (qd q)),.string s,.slice A m c]
abbrev pG (o n:Int)(q:Rat)(s:ByteArray)(A:Option Addr)(m c:Nat):List Value:=[iV o,iV n,.bool (ac q.num),uV (lo (aa q.num)),.string (hi (aa q.num)),uV (lo (qd q)),.string (hi (qd q)),.string s,.slice A m c]
def aU:PTm:=⟨0,0,0,⟨#[]⟩,none,0,0⟩
def dg (p:PTm):List Value:=[.int .i64 p.op,.int .i64 p.n,.bool (ac p.q.num),.int .u64 (lo (aa p.q.num)),.string (hi (aa p.q.num)),.int .u64 (lo (qd p.q)),.string (hi (qd p.q)),.string p.s,.slice p.A p.m p.c]
def fe (p:PTm):Value:=.agg #[.int .i64 p.op,.int .i64 p.n,.bool (ac p.q.num),.int .u64 (lo (aa p.q.num)),.string (hi (aa p.q.num)),.int .u64 (lo (qd p.q)),.string (hi (qd p.q)),.string p.s,.slice p.A p.m p.c]
def TmH:Nat→Hp→PTm→Tm→Prop
  | 0,_,_,_=>False
  | d+1,h,p,t=>p.op=t.op∧p.n=t.n∧p.q=t.q∧p.s=t.s∧p.m=t.ks.length∧p.m≤p.c∧∃ ps:List PTm,ps.length=t.ks.length∧SlO 9 dg aU h p.A ps∧∀ i,i<t.ks.length→TmH d h (ps.getD i aU) (t.ks.getD i bz)
theorem TmH.gw:∀ {d:Nat} {h h':Hp} {p:PTm} {t:Tm},TmH d h p t→Gw h h'→TmH d h' p t
 | 0,_,_,_,_,x,_=>x
 | d+1,_,_,_,_,⟨h1,h2,h3,h4,h5,h6,ps,h7,h8,h9⟩,u=>⟨h1,h2,h3,h4,h5,h6,ps,h7,h8.gw u,fun i hi=>TmH.gw (h9 i hi) u⟩
theorem TmH.mono {h:Hp}:∀ {d e:Nat} {p:PTm} {t:Tm},TmH d h p t→d≤e→TmH e h p t
 | d+1,e+1,_,_,⟨h1,h2,h3,h4,h5,h6,ps,h7,h8,h9⟩,u=>⟨h1,h2,h3,h4,h5,h6,ps,h7,h8,fun i hi=>TmH.mono (h9 i hi) oM⟩
structure RTm where
  op:Int
  n:Int
  neg:Bool
  zA:Option Addr
  zn:Nat
  zc:Nat
  dA:Option Addr
  dn:Nat
  dc:Nat
  s:ByteArray
  A:Option Addr
  m:Nat
  c:Nat
def RTm.t (r:RTm):RT:=(r.neg,.slice r.zA r.zn r.zc,.slice r.dA r.dn r.dc)
def ax:RTm:=⟨0,0,false,none,0,0,none,0,0,⟨#[]⟩,none,0,0⟩
def fO (r:RTm):List Value:=[.int .i64 r.op,.int .i64 r.n,.bool r.neg,.slice r.zA r.zn r.zc,.slice r.dA r.dn r.dc,.string r.s,.slice r.A r.m r.c]
def e7 (r:RTm):Value:=.agg #[.int .i64 r.op,.int .i64 r.n,.bool r.neg,.slice r.zA r.zn r.zc,.slice r.dA r.dn r.dc,.string r.s,.slice r.A r.m r.c]
def RZ (h:Hp)(t:RT)(q:Rat):Prop:=∃ has:Bool,RP h (Ev t) q.num (if has then q.den else 0)∧(has=false→q=0)
theorem RZ.gw {h h':Hp}{t:RT}{q:Rat}(x:RZ h t q)(u:Gw h h'):RZ h' t q:=by
 obtain ⟨hs,h1,h2⟩:=x;exact ⟨hs,h1.gw u,h2⟩
def RmH:Nat→Hp→RTm→Tm→Prop
  | 0,_,_,_=>False
  | d+1,h,r,t=>r.op=t.op∧r.n=t.n∧RZ h r.t t.q∧r.s=t.s∧r.m=t.ks.length∧r.m≤r.c∧∃ rs:List RTm,rs.length=t.ks.length∧SlO 7 fO ax h r.A rs∧∀ i,i<t.ks.length→RmH d h (rs.getD i ax) (t.ks.getD i bz)
theorem Cv {h:Hp}{b:Bool}{zA dA:Option Addr}{zn zc dn dc:Nat}{q:Rat}(x:RZ h (b,.slice zA zn zc,.slice dA dn dc) q)(p:0<dn):RP h (.agg #[.bool b,.slice zA zn zc,.slice dA dn dc]) q.num q.den:=by
 obtain ⟨hs,h1,h2⟩:=x;cases hs
 ·obtain ⟨A,c,D,d,e,hc,hd,hA,hD⟩:=h1
  injection e with e
  have e3:=congrArg (fun a:Array Value=>a.toList) e
  simp at e3
  have:dn=(lim 0).length:=e3.2.2.2.1;have h0:(lim 0).length=0:=by have:=@bG 0;omega
  omega
 ·exact h1
theorem DV {h:Hp}{b:Bool}{zA dA:Option Addr}{zn zc dc:Nat}{q:Rat}(x:RZ h (b,.slice zA zn zc,.slice dA 0 dc) q):q=0:=by
 obtain ⟨hs,h1,h2⟩:=x;cases hs
 ·exact h2 rfl
 ·obtain ⟨A,c,D,d,e,hc,hd,hA,hD⟩:=h1
  injection e with e
  have e3:=congrArg (fun a:Array Value=>a.toList) e
  simp at e3
  have h3:0=(lim q.den).length:=e3.2.2.2.1;have h4:=(@bG q.den).2 q.den_pos
  omega
theorem RmH.gw:∀ {d:Nat} {h h':Hp} {r:RTm} {t:Tm},RmH d h r t→Gw h h'→RmH d h' r t
 | 0,_,_,_,_,x,_=>x
 | d+1,_,_,_,_,⟨h1,h2,h3,h4,h5,h6,ps,h7,h8,h9⟩,u=>⟨h1,h2,h3.gw u,h4,h5,h6,ps,h7,h8.gw u,fun i hi=>RmH.gw (h9 i hi) u⟩
structure Tms (d:Nat) (h:Hp) (ps:List PTm) (ts:List Tm):Prop where
  len:ps.length=ts.length
  at_:∀ i,i<ts.length→TmH d h (ps.getD i aU) (ts.getD i bz)
theorem Tms.gw {d:Nat}{h h':Hp}{ps:List PTm}{ts:List Tm}(x:Tms d h ps ts)(u:Gw h h'):Tms d h' ps ts:=⟨x.len,fun i hi=>(x.at_ i hi).gw u⟩
structure Rms (d:Nat) (h:Hp) (rs:List RTm) (ts:List Tm):Prop where
  len:rs.length=ts.length
  at_:∀ i,i<ts.length→RmH d h (rs.getD i ax) (ts.getD i bz)
theorem Rms.gw {d:Nat}{h h':Hp}{rs:List RTm}{ts:List Tm}(x:Rms d h rs ts)(u:Gw h h'):Rms d h' rs ts:=⟨x.len,fun i hi=>(x.at_ i hi).gw u⟩
theorem Rms.nil {d:Nat}{h:Hp}:Rms d h [] []:=⟨rfl,fun i hi=>by simp at hi⟩
theorem Rms.snoc {d:Nat}{h:Hp}{rs:List RTm}{ts:List Tm}{r:RTm}{t:Tm}(x:Rms d h rs ts)(y:RmH d h r t):Rms d h (rs++[r]) (ts++[t]):=by
 refine ⟨by simp[x.len],fun i hi=>?_⟩;rw[List.length_append,List.length_singleton] at hi
 rw[cu,cu,x.len]
 by_cases e:i<ts.length
 ·rw[if_pos e,if_pos e];exact x.at_ i e
 ·rw[if_neg e,if_neg e,if_pos oM,if_pos oM];exact y
theorem Tms.nil {d:Nat}{h:Hp}:Tms d h [] []:=⟨rfl,fun i hi=>by simp at hi⟩
theorem Tms.snoc {d:Nat}{h:Hp}{rs:List PTm}{ts:List Tm}{r:PTm}{t:Tm}(x:Tms d h rs ts)(y:TmH d h r t):Tms d h (rs++[r]) (ts++[t]):=by
 refine ⟨by simp[x.len],fun i hi=>?_⟩;rw[List.length_append,List.length_singleton] at hi
 rw[cu,cu,x.len]
 by_cases e:i<ts.length
 ·rw[if_pos e,if_pos e];exact x.at_ i e
 ·rw[if_neg e,if_neg e,if_pos oM,if_pos oM];exact y
theorem TmH.mk {d:Nat}{h:Hp}{op n:Int}{q:Rat}{s:ByteArray}{A:Option Addr}{c:Nat}{ps:List PTm}{ks:List Tm}(x:Tms d h ps ks)(hc:ps.length≤c)(hA:SlO 9 dg aU h A ps):TmH (d+1) h ⟨op,n,q,s,A,ps.length,c⟩ (.mk op n q s ks) :=
 ⟨rfl,rfl,rfl,rfl,x.len,hc,ps,x.len,hA,x.at_⟩
theorem RmH.mk {d:Nat}{h:Hp}{op n:Int}{b:Bool}{zA dA:Option Addr}{zn zc dn dc:Nat}{q:Rat}{s:ByteArray}{A:Option Addr}{c:Nat}{ps:List RTm}{ks:List Tm}(z:RZ h (b,.slice zA zn zc,.slice dA dn dc) q)(x:Rms d h ps ks)(hc:ps.length≤c)(hA:SlO 7 fO ax h A ps):RmH (d+1) h ⟨op,n,b,zA,zn,zc,dA,dn,dc,s,A,ps.length,c⟩ (.mk op n q s ks) :=
 ⟨rfl,rfl,z,rfl,x.len,hc,ps,x.len,hA,x.at_⟩
theorem TmH.open {d:Nat}{h:Hp}{p:PTm}{t:Tm}(x:TmH (d+1) h p t):∃ op n q s A c,∃ ps:List PTm,∃ ks:List Tm,p=⟨op,n,q,s,A,ps.length,c⟩∧t=.mk op n q s ks∧ps.length≤c∧SlO 9 dg aU h A ps∧Tms d h ps ks:=by
  obtain ⟨op,n,q,s,A,m,c⟩:=p;cases t with
  | mk p9 n2 q2 s2 ks =>
    obtain ⟨h1,h2,h3,h4,h5,h6,ps,h7,h8,h9⟩:=x;obtain rfl:op=p9:=h1;obtain rfl:n=n2:=h2;obtain rfl:q=q2:=h3;obtain rfl:s=s2:=h4;obtain rfl:m=ps.length:=(show m=ks.length from h5).trans h7.symm;exact ⟨op,n,q,s,A,c,ps,ks,rfl,rfl,h6,h8,h7,h9⟩
theorem RmH.mono {h:Hp}{d e:Nat}{p:RTm}{t:Tm}(x:RmH d h p t)(u:d≤e):RmH e h p t:=by
  induction d generalizing e p t with
  | zero=>exact x.elim
  | succ d ih =>
    cases e with
    | zero=>omega
    | succ e =>
      obtain ⟨h1,h2,h3,h4,h5,h6,ps,h7,h8,h9⟩:=x;exact ⟨h1,h2,h3,h4,h5,h6,ps,h7,h8,fun i hi=>ih (h9 i hi) oM⟩
theorem RmH.open {d:Nat}{h:Hp}{p:RTm}{t:Tm}(x:RmH (d+1) h p t):∃ op n b zA zn zc dA dn dc q s A c,∃ ps:List RTm,∃ ks:List Tm,p=⟨op,n,b,zA,zn,zc,dA,dn,dc,s,A,ps.length,c⟩∧t=.mk op n q s ks∧RZ h (b,.slice zA zn zc,.slice dA dn dc) q∧ps.length≤c∧SlO 7 fO ax h A ps∧Rms d h ps ks:=by
  obtain ⟨op,n,b,zA,zn,zc,dA,dn,dc,s,A,m,c⟩:=p;cases t with
  | mk p9 n2 q2 s2 ks =>
    obtain ⟨h1,h2,h3,h4,h5,h6,ps,h7,h8,h9⟩:=x;obtain rfl:op=p9:=h1;obtain rfl:n=n2:=h2;obtain rfl:s=s2:=h4;obtain rfl:m=ps.length:=(show m=ks.length from h5).trans h7.symm;exact ⟨op,n,b,zA,zn,zc,dA,dn,dc,q2,s,A,c,ps,ks,rfl,rfl,h3,h6,h8,h7,h9⟩
def fc (f:Nat→Nat):Nat→Nat
  | 0=>0
  | k+1=>fc f k+f k
def bR (n:Int):Nat:=if n.natAbs≤1 then 1 else n.natAbs
def cb:Nat→Tm→Nat
  | 0,_=>0
  | d+1,t=>if t.ks.length=0 then 1 else (if t.op=11 then 2 else if t.op=8 then bR t.n else 1)*fc (fun i=>cb d (t.ks.getD i bz)) t.ks.length
def WfT (ok:ByteArray→Prop):Nat→Tm→Prop
  | 0,_=>False
  | d+1,t=>fs t.op=t.ks.length∧(t.op≠1→t.q=0)∧LQ 1 t.q∧(t.op=2→ok t.s)∧(t.op≠2→t.s=⟨#[]⟩)∧(t.op≠8→t.n=0) ∧ -12≤t.n∧t.n≤12∧∀ i,i<t.ks.length→WfT ok d (t.ks.getD i bz)
theorem WfT.mono {ok:ByteArray→Prop}:∀ {d e:Nat} {t:Tm},WfT ok d t→d≤e→WfT ok e t
 | d+1,e+1,_,⟨h1,h2,h3,h4,h5,h6,h7,h8,h9⟩,u=>⟨h1,h2,h3,h4,h5,h6,h7,h8,fun i hi=>WfT.mono (h9 i hi) oM⟩
def SmT (sm:ByteArray→Prop):Nat→Tm→Prop
  | 0,_=>False
  | d+1,t=>t.ks.length≤3∧(-1000≤t.op∧t.op≤1000)∧(-1000≤t.n∧t.n≤1000)∧LQ 1 t.q∧sm t.s∧∀ i,i<t.ks.length→SmT sm d (t.ks.getD i bz)
theorem SmT.mono {sm:ByteArray→Prop}:∀ {d e:Nat} {t:Tm},SmT sm d t→d≤e→SmT sm e t
 | d+1,e+1,_,⟨h1,h2,h3,h4,h5,h6⟩,u=>⟨h1,h2,h3,h4,h5,fun i hi=>SmT.mono (h6 i hi) oM⟩
theorem WfT.sm {ok sm:ByteArray→Prop}(h:∀ s,ok s→sm s)(h0:sm ⟨#[]⟩):∀ {d:Nat} {t:Tm},WfT ok d t→SmT sm d t
  | d+1,t,⟨h1,h2,h3,h4,h5,h6,h7,h8,h9⟩=>by
    have hc:=aF t.op;refine ⟨by omega,⟨by omega,by omega⟩,⟨by omega,by omega⟩,h3,?_,fun i hi=>WfT.sm h h0 (h9 i hi)⟩
    by_cases e:t.op=2
    · exact h _ (h4 e)
    · rw[h5 e];exact h0
def Gd (isb:ByteArray→Bool)(op n:Int)(q:Rat)(s:ByteArray)(m:Nat):Prop:=fs op=m∧(op=1∨q.num=0)∧((op=2→isb s=true)∧(op≠2→s=⟨#[]⟩))∧((op=8∨n=0) ∧ -12≤n∧n≤12)
section
variable {isb:ByteArray→Bool} {d:Nat} {op n:Int} {q:Rat} {s:ByteArray} {ks:List Tm}
theorem Ai (w:WfT (fun s=>isb s=true) (d+1) (.mk op n q s ks)):Gd isb op n q s ks.length:=by
 obtain ⟨h1,h2,h3,h4,h5,h6,h7,h8,h9⟩:=w;refine ⟨h1,?_,⟨h4,h5⟩,?_,h7,h8⟩
 ·by_cases e:op=1
  ·exact .inl e
  ·exact .inr (Rat.num_eq_zero.2 (h2 e))
 ·by_cases e:op=8
  ·exact .inl e
  ·exact .inr (h6 e)
theorem mD (h:¬Gd isb op n q s ks.length):∃ bb,Value.bool false=.bool bb∧(bb=true↔WfT (fun s=>isb s=true) (d+1) (.mk op n q s ks)):=⟨false,rfl,fun h_=>(by cases h_),fun w=>absurd (Ai w) h⟩
theorem Be {k:Nat}(hk:k<ks.length){bk:Bool}(hb:bk=false)(h:bk=true↔WfT (fun s=>isb s=true) d (ks.getD k bz)):∃ bb,Value.bool false=.bool bb∧(bb=true↔WfT (fun s=>isb s=true) (d+1) (.mk op n q s ks)):=⟨false,rfl,fun h_=>(by cases h_),fun ⟨_,_,_,_,_,_,_,_,h9⟩=>by rw[h.2 (h9 k hk)] at hb;cases hb⟩
theorem AV (h:Gd isb op n q s ks.length)(hq:LQ 1 q)(hW:∀ i,i<ks.length→WfT (fun s=>isb s=true) d (ks.getD i bz)):∃ bb,Value.bool true=.bool bb∧(bb=true↔WfT (fun s=>isb s=true) (d+1) (.mk op n q s ks)):=by
 obtain ⟨h1,h2,⟨h4,h5⟩,h6,h7,h8⟩:=h;refine ⟨true,rfl,fun _=>⟨h1,fun e=>Rat.num_eq_zero.1 (h2.resolve_left e),hq,h4,h5,fun e=>h6.resolve_left e,h7,h8,hW⟩,fun _=>rfl⟩
end
def Dw (nm:Int→ByteArray)(l:List Stp):Nat→Nat→Tm
  | 0,_=>bz
  | f+1,i =>
    if (l.getD i dX).op=2 then .mk 2 0 0 (nm (l.getD i dX).n) []
    else if fs (l.getD i dX).op=1 then .mk (l.getD i dX).op (l.getD i dX).n 0 ⟨#[]⟩ [Dw nm l f (l.getD i dX).a.toNat]
    else if fs (l.getD i dX).op=2 then .mk (l.getD i dX).op 0 0 ⟨#[]⟩ [Dw nm l f (l.getD i dX).a.toNat,Dw nm l f (l.getD i dX).b.toNat]
    else .mk (l.getD i dX).op 0 (l.getD i dX).q ⟨#[]⟩ []
structure MapJ (h0:Hp) (B:List Bx) (w:World) (h:Hp) (b:Nat) (es:List MapEntry) (clk:Nat):Prop where
  obj:w.heap[b]?=some (.map es.toArray clk)
  jk:h[b]?=some junk
  lo:h0.size≤b
  nb:∀ x∈B,x.b≠b
def MapS (h:Hp)(b:Nat)(es:List MapEntry):Prop:=∃ clk,h[b]?=some (.map es.toArray clk)
theorem MapS.gw {h h':Hp}{b:Nat}{es:List MapEntry}(x:MapS h b es)(u:Gw h h'):MapS h' b es:=by
 obtain ⟨c,e⟩:=x;refine ⟨c,?_⟩
 rcases u.blk b (az e) with k|k
 ·exact k.trans e
 ·rw[e] at k;cases k
theorem MapS.w {w:World}{h:Hp}{b:Nat}{es:List MapEntry}(x:MapS h b es)(g:G w h):∃ clk,w.heap[b]?=some (.map es.toArray clk):=by
 obtain ⟨c,e⟩:=x;refine ⟨c,?_⟩
 rcases g.blk b with k|k
 ·rw[←k];exact e
 ·rw[e] at k;cases k
theorem Aa {P:Program}(w:World){mty kt et:TypeId}{b clk:Nat}{es:Array MapEntry}{s:ByteArray}{val:Value}(hm:P.underlying mty=some (.map kt et))(hk:P.underlying kt=some .string)(hb:w.heap[b]?=some (.map es clk))(hf:Instr.findNow .string (.string s) es.toList 0=some none) :
  (Instr.mapUpdate mty (.map (some b)) (.string s) val).run P w=.ok () { w with heap:=w.heap.setIfInBounds b (.map (es.push { key:=.string s,val:=val,born:=clk }) (clk+1)) }:=by
 have hc:(Instr.checkKey false 10000 kt (.string s)).run P w=.ok () w:=MapKept.run_checkKey (k:=.string s) hk (by simp[MapKept.IsKey]) false 9999
 simp[Instr.mapUpdate,run_underlying hm,MapKept.run_getObj_map hb,hc,MapKept.run_findKey hk hf,MapKept.run_setObj_map _ hb,Result.andThen]
theorem tE {P:Program}(w:World){mty kt et:TypeId}{b clk:Nat}{es:Array MapEntry}{s:ByteArray}(ok:Bool){v:Value}{found:Bool}(hm:P.underlying mty=some (.map kt et))(hk:P.underlying kt=some .string)(hb:w.heap[b]?=some (.map es clk))
  (hf:(∃ i,Instr.findNow .string (.string s) es.toList 0=some (some (i,v))∧found=true)∨(Instr.findNow .string (.string s) es.toList 0=some none∧found=false∧(zeroValue et).run P w=.ok v w)) :
  (Instr.lookup mty (.map (some b)) (.string s) ok).run P w=.ok (if ok then .tuple #[v,.bool found] else v) w:=by
 have hc:(Instr.checkKey es.isEmpty 10000 kt (.string s)).run P w=.ok () w:=MapKept.run_checkKey (k:=.string s) hk (by simp[MapKept.IsKey]) _ 9999
 rcases hf with ⟨i,hf,rfl⟩|⟨hf,rfl,hz⟩
 ·simp[Instr.lookup,run_underlying hm,MapKept.run_getObj_map hb,hc,MapKept.run_findKey hk hf,Result.andThen]
 ·simp[Instr.lookup,run_underlying hm,MapKept.run_getObj_map hb,hc,MapKept.run_findKey hk hf,hz,Result.andThen]
theorem x5 {w:World}{b:Nat}{o o':Obj}(hb:w.heap[b]?=some o):Put b w { w with heap:=w.heap.setIfInBounds b o' }∧({ w with heap:=w.heap.setIfInBounds b o' }:World).heap[b]?=some o':=by
 have hlt:b<w.heap.size:=(Array.getElem?_eq_some_iff.1 hb).1;refine ⟨⟨rfl,rfl,rfl,by simp,fun c hc=>by show (w.heap.setIfInBounds b o')[c]?=_;rw[Array.getElem?_setIfInBounds_ne (Ne.symm hc)]⟩,?_⟩
 show (w.heap.setIfInBounds b o')[b]?=_
 rw[Array.getElem?_setIfInBounds_self_of_lt hlt]
def jj (s t:ByteArray):Bool:=s.toList == t.toList
def kV (s t:ByteArray):Bool:=!(s.toList == t.toList)
theorem fY {s t:ByteArray}(h:jj s t=true):s=t:=by
 have e:=eq_of_beq (show (s.toList == t.toList)=true from h);rw[Lib.toList_data,Lib.toList_data] at e
 cases s;cases t;congr 1;exact Array.toList_inj.1 e
theorem fX {s t:ByteArray}(h:jj s t=false):¬s=t:=fun e=>by
 subst e;have:jj s s=true:=beq_self_eq_true _;rw[this] at h;cases h
theorem o4 {s t:ByteArray}(h:kV s t=true):¬s=t:=fX (by unfold kV at h;unfold jj;cases e:(s.toList == t.toList)<;>rw[e] at h<;>first|rfl|cases h)
theorem pU {s t:ByteArray}(h:kV s t=false):s=t:=fY (by unfold kV at h;unfold jj;cases e:(s.toList == t.toList)<;>rw[e] at h<;>first|rfl|cases h)
section laws
variable {P:Program} {n:Nat} {N R:Po} {X:Nat→Po} {ops:Array Oper} {k:Nat} {Γ:bM} {w:World} {h:Hp} {w0:World} {h0:Hp} {B:List Bx} {Rs:List Rw} {F:List (Hp→Prop)}
theorem SS.pokeJ (s:SS w0 h0 w h B [] F){b:Nat}{w':World}(hj:h[b]?=some junk)(hl:h0.size≤b)(hn:∀ x∈B,x.b≠b)(p:Put b w w'):SS w0 h0 w' h B [] F :=
 ⟨s.g0,⟨s.st.up.put p hj hl s.g0.size,fun x hx=>(p.blk _ (hn x hx)).trans (s.st.own x hx),s.st.jk,s.st.lo,s.st.nd⟩,fun _ hx=>(by cases hx),.nil,s.mo,s.f⟩
theorem GM (t:Nat)(s:SS w0 h0 w h B Rs F)(H:∀ b w' h',SS w0 h0 w' h' B Rs F→MapJ h0 B w' h' b [] 0→LG P n N R X ops (k+1) ((t,.map (some b))::Γ) w')(hc:cL ops Γ k t n=true:=by kernel_rfl)
  (hr:(execOp (ev Γ) (ao ops k)).run P w=.ok (.value (.map (some w.heap.size))) (w.alloc (.map #[] 0)):=by kernel_rfl):LG P n N R X ops k Γ w:=by
 have u:Up w h (w.alloc (.map #[] 0)) (h.push junk):=Up.allocAny s.g _ _ (.inr rfl);refine LG.val t _ _ (bv hc).1 (bv hc).2 hr (H _ _ _ (s.step u) ⟨?_,?_,?_,fun x hx e=>?_⟩)
 ·rw[cD];exact Array.getElem?_push_size
 ·rw[s.g.size];exact Array.getElem?_push_size
 ·rw[s.g.size];exact s.st.sz
 ·have:=az (s.st.jk x hx)
  have:=s.g.size
  omega
theorem Ew {b clk:Nat}{es:List MapEntry}(mty kt et:TypeId)(ky:ByteArray)(val:Value)(s:SS w0 h0 w h B [] F)(m:MapJ h0 B w h b es clk)(H:∀ w',SS w0 h0 w' h B [] F→MapJ h0 B w' h b (es++[⟨.string ky,val,clk⟩]) (clk+1)→LG P n N R X ops (k+1) Γ w')
  (hc:cS ops Γ k=true:=by kernel_rfl)(hx:execOp (ev Γ) (ao ops k)=(do Instr.mapUpdate mty (.map (some b)) (.string ky) val;pure .skip):=by kernel_rfl)(hu:P.underlying mty=some (.map kt et):=by kernel_rfl)(hk:P.underlying kt=some .string:=by kernel_rfl)(hf:Instr.findNow .string (.string ky) es 0=some none:=by kernel_rfl):LG P n N R X ops k Γ w:=by
 have hr:=Aa w (val:=val) hu hk m.obj hf;obtain ⟨p,ho⟩:=x5 (o':=.map (es.toArray.push { key:=.string ky,val:=val,born:=clk }) (clk+1)) m.obj;refine LG.store _ (ji hc).1 (ji hc).2 ?_ (H _ (s.pokeJ m.jk m.lo m.nb p) ⟨?_,m.jk,m.lo,m.nb⟩)
 ·rw[hx];simp[hr,Result.andThen]
 ·rw[ho];simp
theorem Gi (t:Nat){b:Nat}{es:List MapEntry}(mty kt et:TypeId)(ky:ByteArray)(ok:Bool)(v:Value)(found:Bool)(s:SS w0 h0 w h B Rs F)(m:MapS h b es)(H:LG P n N R X ops (k+1) ((t,if ok then .tuple #[v,.bool found] else v)::Γ) w)(hc:cL ops Γ k t n=true:=by kernel_rfl)
  (hx:execOp (ev Γ) (ao ops k)=(do pure (.value (←Instr.lookup mty (.map (some b)) (.string ky) ok))):=by kernel_rfl)(hu:P.underlying mty=some (.map kt et):=by kernel_rfl)(hk:P.underlying kt=some .string:=by kernel_rfl)
  (hf:(∃ i,Instr.findNow .string (.string ky) es 0=some (some (i,v))∧found=true)∨(Instr.findNow .string (.string ky) es 0=some none∧found=false∧∀ w,(zeroValue et).run P w=.ok v w)):LG P n N R X ops k Γ w:=by
 obtain ⟨clk,hm⟩:=m.w s.g;refine LG.val t _ w (bv hc).1 (bv hc).2 ?_ H;rw[hx];have hr:=tE w ok (v:=v) (found:=found) hu hk hm (hf.imp id fun h=>⟨h.1,h.2.1,h.2.2 w⟩)
 simp[hr,Result.andThen]
theorem SS.pubMap {b clk:Nat}{es:List MapEntry}(s:SS w0 h0 w h B [] F)(m:MapJ h0 B w h b es clk):∃ h',SS w0 h0 w h' B [] F∧MapS h' b es:=by
 have hlt:=az m.jk;refine ⟨h.setIfInBounds b (.map es.toArray clk),⟨s.g0,⟨⟨s.st.up.ext,⟨by simp;exact s.st.up.gr.size,fun c hc=>?_⟩,⟨by simp;exact s.st.up.g.size,fun c=>?_⟩⟩,s.st.own,fun x hx=>?_,s.st.lo,s.st.nd⟩,fun _ hx=>(by cases hx),.nil,s.mo,s.f.gw s.mo ⟨by simp,fun c _=>?_⟩⟩,clk,?_⟩
 ·have:=m.lo
  rw[Array.getElem?_setIfInBounds_ne oM];exact s.st.up.gr.blk c hc
 ·by_cases e:b=c
  ·subst e;left;rw[Array.getElem?_setIfInBounds_self_of_lt hlt];exact m.obj.symm
  ·rw[Array.getElem?_setIfInBounds_ne e];exact s.st.up.g.blk c
 ·rw[Array.getElem?_setIfInBounds_ne (Ne.symm (m.nb x hx))];exact s.st.jk x hx
 ·by_cases e:b=c
  ·subst e;exact .inr m.jk
  ·left;rw[Array.getElem?_setIfInBounds_ne e]
 ·rw[Array.getElem?_setIfInBounds_self_of_lt hlt]
end laws
theorem tA {α:Type}{l:List α}{d x:α}{k i:Nat}(hk:k<l.length):(l.set k x).getD i d=if i=k then x else l.getD i d:=by
 rw[List.getD_eq_getElem?_getD,List.getElem?_set]
 by_cases e:k=i
 ·subst e;rw[if_pos rfl,if_pos hk,if_pos rfl];rfl
 ·rw[if_neg e,if_neg (fun h=>e h.symm),←List.getD_eq_getElem?_getD]
def TmsU (d:Nat)(h:Hp)(k:Nat)(ps:List PTm)(ts:List Tm):Prop:=∀ i,i<k→TmH d h (ps.getD i aU) (ts.getD i bz)
theorem TmsU.gw {d:Nat}{h h':Hp}{k:Nat}{ps:List PTm}{ts:List Tm}(x:TmsU d h k ps ts)(u:Gw h h'):TmsU d h' k ps ts:=fun i hi=>(x i hi).gw u
theorem TmsU.set {d:Nat}{h:Hp}{k:Nat}{ps:List PTm}{ts:List Tm}{p:PTm}(x:TmsU d h k ps ts)(hk:k<ps.length)(y:TmH d h p (ts.getD k bz)):TmsU d h (k+1) (ps.set k p) ts:=fun i hi=>by
 rw[tA hk]
 by_cases e:i=k
 ·subst e;rw[if_pos rfl];exact y
 ·rw[if_neg e];exact x i oM
theorem Tms.of_u {d:Nat}{h:Hp}{k:Nat}{ps:List PTm}{ts:List Tm}(hl:ps.length=ts.length)(hk:ts.length≤k)(x:TmsU d h k ps ts):Tms d h ps ts:=⟨hl,fun i hi=>x i oM⟩
theorem q9 (f:Nat→Nat){a b:Nat}(h:a≤b):fc f a≤fc f b:=by
 induction h with
 | refl=>exact Nat.le_refl _
 | step _ ih=>exact Nat.le_trans ih (Nat.le_add_right _ _)
def fZ (op n:Int):Nat:=if op=11 then 2 else if op=8 then bR n else 1
theorem eK (op n:Int):1≤fZ op n:=by
 unfold fZ bR
 split
 ·omega
 ·split
  ·split<;>omega
  ·omega
theorem rP {d:Nat}{op n:Int}{q:Rat}{s:ByteArray}{ks:List Tm}(h:ks.length=0):cb (d+1) (.mk op n q s ks)=1:=if_pos h
theorem ki {d:Nat}{op n:Int}{q:Rat}{s:ByteArray}{ks:List Tm}(h:ks.length≠0):cb (d+1) (.mk op n q s ks)=fZ op n*fc (fun i=>cb d (ks.getD i bz)) ks.length:=if_neg h
theorem ol {d:Nat}{op n:Int}{q:Rat}{s:ByteArray}{ks:List Tm}(h:ks.length≠0):fc (fun i=>cb d (ks.getD i bz)) ks.length≤cb (d+1) (.mk op n q s ks):=by
 rw[ki h];exact Nat.le_mul_of_pos_left _ (eK op n)
theorem jK {m s:Nat}(h:1≤m):min (m*min s 1001) 1001=min (m*s) 1001:=by
 rcases Nat.le_total s 1001 with e|e
 ·rw[Nat.min_eq_left e]
 ·rw[Nat.min_eq_right e,Nat.min_eq_right (Nat.le_trans e (Nat.le_mul_of_pos_left _ h)),Nat.min_eq_right (Nat.le_mul_of_pos_left _ h)]
theorem pS (op:Int)(w:World)(h:Hp)(g:G w h):CV 70 #[iV op] w h (iV (fs op)):=by
 have hs:=sS g;refine go Tryz.func70 [(0,iV op)] rfl (ab hs [.v 2 (iV 0)] (ah (ab hs [.m 3 0] (a8 (cQ (av ?_))))));cases hb1:((op:Int) == (1:Int))
 ·
  have phb1:=af hb1;refine lB 5 hb1 (lL hs [.m 4 5] (ag (kQ ?_)));cases hb2:((op:Int) == (2:Int))
  ·
   have phb2:=af hb2;refine lB 6 hb2 (lL hs [.m 4 6] (ag (cQ (av ?_))));cases hb3:((op:Int) == (7:Int))
   ·
    have phb3:=af hb3;refine lB 8 hb3 (lL hs [.m 7 8] (ag (av ?_)));cases hb4:((op:Int) == (8:Int))
    ·
     have phb4:=af hb4;refine lB 9 hb4 (lL hs [.m 7 9] (ag (av ?_)));cases hb5:((op:Int) == (9:Int))
     ·
      have phb5:=af hb5;refine lB 10 hb5 (lL hs [.m 7 10] (ag (av ?_)));cases hb6:((op:Int) == (10:Int))
      ·
       have phb6:=af hb6;refine lB 11 hb6 (lL hs [.m 7 11] (ag (kQ ?_)));cases hb7:((op:Int) == (11:Int))
       ·
        have phb7:=af hb7;refine lB 12 hb7 (lL hs [.m 7 12] (ag (cQ (av ?_))));cases hb8:((op:Int) == (3:Int))
        ·
         have phb8:=af hb8;refine lB 14 hb8 (lL hs [.m 13 14] (ag (av ?_)));cases hb9:((op:Int) == (4:Int))
         ·
          have phb9:=af hb9;refine lB 15 hb9 (lL hs [.m 13 15] (ag (av ?_)));cases za:((op:Int) == (5:Int))
          ·
           have ze:=af za;refine lB 16 za (lL hs [.m 13 16] (ag (av ?_)));cases zb:((op:Int) == (6:Int))
           ·
            have zf:=af zb;refine lB 17 zb (lL hs [.m 13 17] (ag (av ?_)));cases zc:((op:Int) == (12:Int))
            ·
             have zg:=af zc;refine lB 18 zc (lL hs [.m 13 18] (ag (kQ ?_)));cases zd:((op:Int) == (13:Int))
             ·
              have zi:=af zd;exact lB 19 zd (lL hs [.m 13 19] (ag (cK (ab hs [.v 2 (iV (-1))] (ae hs [] (iV (-1)) (congrArg (Value.int .i64) (by have:=aF op;omega)))))))
             have zi:=eq_of_beq zd;exact lB 19 zd (lL hs [.m 13 19] (ak (ab hs [.v 2 (iV 2)] (ae hs [] (iV 2) (congrArg (Value.int .i64) (by have:=aF op;omega))))))
            have zg:=eq_of_beq zc;exact lB 18 zc (lL hs [.m 13 18] (ak (cK (cl (ab hs [.v 2 (iV 2)] (ae hs [] (iV 2) (congrArg (Value.int .i64) (by have:=aF op;omega))))))))
           have zf:=eq_of_beq zb;exact lB 17 zb (lL hs [.m 13 17] (ak (cK (cl (ab hs [.v 2 (iV 2)] (ae hs [] (iV 2) (congrArg (Value.int .i64) (by have:=aF op;omega))))))))
          have ze:=eq_of_beq za;exact lB 16 za (lL hs [.m 13 16] (ak (cK (cl (ab hs [.v 2 (iV 2)] (ae hs [] (iV 2) (congrArg (Value.int .i64) (by have:=aF op;omega))))))))
         have phb9:=eq_of_beq hb9;exact lB 15 hb9 (lL hs [.m 13 15] (ak (cK (cl (ab hs [.v 2 (iV 2)] (ae hs [] (iV 2) (congrArg (Value.int .i64) (by have:=aF op;omega))))))))
        have phb8:=eq_of_beq hb8;exact lB 14 hb8 (lL hs [.m 13 14] (ak (cK (cl (ab hs [.v 2 (iV 2)] (ae hs [] (iV 2) (congrArg (Value.int .i64) (by have:=aF op;omega))))))))
       have phb7:=eq_of_beq hb7;exact lB 12 hb7 (lL hs [.m 7 12] (ak (ab hs [.v 2 (iV 1)] (ae hs [] (iV 1) (congrArg (Value.int .i64) (by have:=aF op;omega))))))
      have phb6:=eq_of_beq hb6;exact lB 11 hb6 (lL hs [.m 7 11] (ak (cK (cl (ab hs [.v 2 (iV 1)] (ae hs [] (iV 1) (congrArg (Value.int .i64) (by have:=aF op;omega))))))))
     have phb5:=eq_of_beq hb5;exact lB 10 hb5 (lL hs [.m 7 10] (ak (cK (cl (ab hs [.v 2 (iV 1)] (ae hs [] (iV 1) (congrArg (Value.int .i64) (by have:=aF op;omega))))))))
    have phb4:=eq_of_beq hb4;exact lB 9 hb4 (lL hs [.m 7 9] (ak (cK (cl (ab hs [.v 2 (iV 1)] (ae hs [] (iV 1) (congrArg (Value.int .i64) (by have:=aF op;omega))))))))
   have phb3:=eq_of_beq hb3;exact lB 8 hb3 (lL hs [.m 7 8] (ak (cK (cl (ab hs [.v 2 (iV 1)] (ae hs [] (iV 1) (congrArg (Value.int .i64) (by have:=aF op;omega))))))))
  have phb2:=eq_of_beq hb2;exact lB 6 hb2 (lL hs [.m 4 6] (ak (ab hs [.v 2 (iV 0)] (ae hs [] (iV 0) (congrArg (Value.int .i64) (by have:=aF op;omega))))))
 have phb1:=eq_of_beq hb1;exact lB 5 hb1 (lL hs [.m 4 5] (ak (cK (cl (ab hs [.v 2 (iV 0)] (ae hs [] (iV 0) (congrArg (Value.int .i64) (by have:=aF op;omega))))))))
theorem Cc (n:Int)(h0 : -12≤n)(h1:n≤12)(w:World)(h:Hp)(g:G w h):CV 73 #[iV n] w h (nV (bR n)):=by
 have hs:=sS g;refine go Tryz.func73 [(0,iV n)] rfl (ab hs [.v 2 (iV 0)] (ah (ab hs [.m 3 0] ?_)));cases hb1:(decide ((n:Int)≤(-1073741824:Int)))
 ·
  have phb1:=oF hb1;refine lB 4 hb1 (lL hs [.m 5 4,.m 6 0] ?_);cases hb2:(decide ((1073741824:Int)≤(n:Int)))
  ·
   have phb2:=oF hb2;refine lB 7 hb2 (lL hs [.v 8 qF] (ag (cK (ab hs [.m 9 0,.m 10 0] (lI 11 (0-n) ?_)))));refine lV 12 (iV (max (max (n:Int) (0-n:Int)) (1:Int))) ?_ (hr:=aI (n:=(if (1:Int)>(if (0-n:Int)>(n:Int) then (0-n:Int) else (n:Int)) then (1:Int) else (if (0-n:Int)>(n:Int) then (0-n:Int) else (n:Int)))) kR (by simp only[qi]));exact lL hs [.m 2 12] (ae hs [] (iV (max (max (n:Int) (0-n:Int)) (1:Int))) (congrArg (Value.int .i64) (by unfold bR;(repeat' split)<;>omega)))
  have phb2:=oT hb2;exact lB 7 hb2 (lL hs [.v 8 qT] (ak (ab hs [.v 2 (iV 1073741824)] (ae hs [] (iV 1073741824) (congrArg (Value.int .i64) (by unfold bR;(repeat' split)<;>omega))))))
 have phb1:=oT hb1;refine lB 4 hb1 (lL hs [.m 5 4] (lG 6 ?_));exact lG 7 (lL hs [.v 8 qT] (ak (ab hs [.v 2 (iV 1073741824)] (ae hs [] (iV 1073741824) (congrArg (Value.int .i64) (by unfold bR;(repeat' split)<;>omega))))))
theorem tp  (sm:ByteArray→Prop)(d:Nat)(ih:∀ (p:PTm) (t:Tm) (most:Int) (w:World) (h:Hp),G w h→TmH d h p t→SmT sm d t→(d:Int)≤most→most≤1000→Calls Tryz.prog 40 #[fe p,iV most] w (Ret w h (fun v _=>v=.bool false)))(op n:Int)(q:Rat)(s:ByteArray)(A:Option Addr)(c:Nat)(ps:List PTm)(ks:List Tm)(hc:ps.length≤c)(hlp:ps.length≤3)(hk3:ks.length≤3)(hop : -1000≤op∧op≤1000)(hn : -1000≤n∧n≤1000)(hq:LQ 1 q)(hsm:sm s)(hW:∀ i,i<ks.length→SmT sm d (ks.getD i bz))(most:Int)(hm:((d+1:Nat):Int)≤most)(hm2:most≤1000)(w:World)(h:Hp)(g:G w h)(hK:SlO 9 dg aU h A ps)(hKs:Tms d h ps ks):CV 40 #[pW op n q s A ps.length c,iV most] w h (.bool false):=by
 have hs:=(((sS g).aS hK).add (K:=fun h_=>Tms d h_ ps ks) hKs);have hln:=(hs.f.1).len;refine go Tryz.func40 [(0,pW op n q s A ps.length c),(1,iV most)] rfl (av (lA 2 51 (pG op n q s A ps.length c) hs (fun b1 w2 h3 hs=>lL hs [.v 4 qF] (ah (ab hs [.m 7 1] ?_)))));cases hb4:(decide ((most:Int)<(1:Int)))
 ·
  have phb4:=oF hb4;refine lB 8 hb4 (ag (cK (cQ (ab hs [.v 9 (qP b1 8),.o 10 (qS A ps.length c) 0 8 1,.v 11 (nV ps.length),.v 12 (iV 0)] (a8 ?_)))));refine bI _ (CG.loop (fun μ_ Γ w_=>∃ (k:Nat) (h_:Hp),μ_=ps.length-k∧Γ=[(1,iV most),(10,qS A ps.length c),(11,nV ps.length),(12,nV k)]∧SS w h w_ h_ [⟨b1,51,pG op n q s A ps.length c⟩] [] [fun h_=>Tms d h_ ps ks,fun h_=>SlO 9 dg aU h_ A ps]∧k≤ps.length) _ ⟨0,h3,rfl,rfl,hs.to _ _,Nat.zero_le _⟩ ?_);rintro _ _ w5 ⟨k,h6,hm7,rfl,hs,hk⟩;refine av ?_;cases hb8:(decide ((k:Int)<(ps.length:Int)))
  ·
   have phb8:=oF hb8;refine lB 13 hb8 (ah (cY (CG.exit ?_)))
   show CG _ _ _ _ _ _ _ _
   exact ab hs [.v 4 qF] (ae hs [] qF rfl)
  have phb8:=oT hb8;refine lB 13 hb8 (ah (cl (cK (cQ (kZ (av (lX 14 A ps.length c 9 (k:Nat) k ((hs.f.2.1).ok oM) ?_)))))));refine lH 15 (pX (ps.getD k aU)) hs ((hs.f.2.1).el k oM) (lA 6 51 ([iV 0,iV 0,qF,uV 0,eS,uV 0,eS,eS,sZ]) hs (fun b9 _ _ hs=>lP 0 0 (pC (ps.getD k aU)) hs (fun _ hs=>aG (lL hs [.o 16 (pX (ps.getD k aU)) 0 0 9,.m 17 1] (lI 18 (most-1) ?_)))));refine ai 19 hs (ih (ps.getD k aU) (ks.getD k bz) (most-1) _ _ hs.g ((hs.f.1).at_ k oM) (hW k oM) oM oM) (fun _ za hs=>ag (cK (kQ (bn 20 ((k:Nat)+1) (k+1) ?_))));refine lL hs [.m 12 20] (lD ?_);intro a_ ka;replace hs:=hs.drop 1 0;refine ⟨_,_,?_,⟨k+1,za,rfl,rfl,hs.to _ _,oM⟩,ka.to _ kR⟩
  omega
 have phb4:=oT hb4;refine lB 8 hb4 (ak (ab hs [.v 4 qT] (lN (kX ?_))))
 exfalso;omega
theorem pm (sm:ByteArray→Prop):∀ (d:Nat) (p:PTm) (t:Tm) (most:Int) (w:World) (h:Hp),G w h→TmH d h p t→SmT sm d t→(d:Int)≤most→most≤1000→Calls Tryz.prog 40 #[fe p,iV most] w (Ret w h (fun v _=>v=.bool false))
  | 0,_,_,_,_,_,_,x,_,_,_=>x.elim
  | d+1,p,t,most,w,h,g,x,wf,hm,hm2=>by
    obtain ⟨op,n,q,s,A,c,ps,ks,rfl,rfl,hc,hK,hKs⟩:=x.open;obtain ⟨s1,s2,s3,s4,s5,s6⟩:=wf;have s1_:ks.length≤3:=s1;exact tp sm d (fun p t most w h=>pm sm d p t most w h) op n q s A c ps ks hc (by have:=hKs.len;omega) s1 s2 s3 s4 s5 s6 most hm hm2 w h g hK hKs
theorem ut  (isb:ByteArray→Bool)(sm:ByteArray→Prop)(hIs:∀ s,sm s→∀ (w:World) (h:Hp),G w h→Calls Tryz.prog 72 #[.string s] w (Ret w h (fun v _=>∃ b,v=.bool b∧b=isb s)))(d:Nat)(ih:∀ (p:PTm) (t:Tm) (w:World) (h:Hp),G w h→TmH d h p t→SmT sm d t →  Calls Tryz.prog 41 #[fe p] w (Ret w h (fun v _=>∃ bb,v=.bool bb∧(bb=true↔WfT (fun s=>isb s=true) d t))))(op n:Int)(q:Rat)(s:ByteArray)(A:Option Addr)(c:Nat)(ps:List PTm)(ks:List Tm)(hc:ps.length≤c)(hlp:ps.length≤3)(hk3:ks.length≤3)(hop : -1000≤op∧op≤1000)(hn : -1000≤n∧n≤1000)(hq:LQ 1 q)(hsm:sm s)(hW:∀ i,i<ks.length→SmT sm d (ks.getD i bz))(w:World)(h:Hp)(g:G w h)(hK:SlO 9 dg aU h A ps)(hKs:Tms d h ps ks):CR 41 #[pW op n q s A ps.length c] w h (fun v _=>∃ bb,v=.bool bb∧(bb=true↔WfT (fun s=>isb s=true) (d+1) (.mk op n q s ks))):=by
 have hs:=(((sS g).aS hK).add (K:=fun h_=>Tms d h_ ps ks) hKs);have hln:=(hs.f.1).len;have hsg:q.num.sign=0↔q.num=0:=Int.sign_eq_zero_iff_zero;refine go Tryz.func41 [(0,pW op n q s A ps.length c)] rfl (av (lA 1 51 (pG op n q s A ps.length c) hs (fun b1 w2 h3 hs=>lL hs [.v 2 qF] (ah (cQ (cR 7 [] mixed hs ar ?_))))));refine eV 0 5 (pB b1) (eO 1 6 [(0,0,1)] (iV op) hs (eV 3 8 (qP b1 8) (eO 4 9 [(0,8,1)] (qS A ps.length c) hs (eV 5 10 (nV ps.length) (aq 2 7 hs (fun _ _ hs=>pS op _ _ hs.g) (fun w4 h5 hs=>?_))))));cases hb6:((fs op:Int) != (ps.length:Int))
 ·
  have phb6:=aY hb6;refine eB 6 11 hb6 (ce hs (fun w7 h8 hs=>?_));refine tN (cY (cK (cQ (CG.join (fun Γ w_=>∃ (zm:Bool) (h_:Hp),Γ=[(1,pB b1),(2,qF),(20,.bool zm)]∧SS w h w_ h_ [⟨b1,51,pG op n q s A ps.length c⟩] [] [fun h_=>Tms d h_ ps ks,fun h_=>SlO 9 dg aU h_ A ps]∧(zm=true→¬(op=1∨q.num=0))∧(zm=false→(op=1∨q.num=0))) ?_ ?_))))
  ·
   refine kQ (lL hs [.v 12 (pB b1),.o 13 (iV op) 0 0 1] ?_);cases hb9:((op:Int) != (1:Int))
   ·
    have phb9:=aY hb9;refine lB 14 hb9 (lL hs [.m 15 14] (lG 16 ?_));refine lG 17 (lG 18 (lG 19 (lL hs [.v 20 qF] (lD ?_))));intro a_ ka;exact ⟨_,⟨false,h8,rfl,hs.to _ _,(fun h_=>absurd h_ kD),(fun _=>by omega)⟩,ka.to _ kR⟩
   have phb9:=ay hb9;refine lB 14 hb9 (lL hs [.m 15 14,.v 16 (qP b1 2),.o 17 (qv q) 0 2 5] (ai 18 hs (ir q (hq.mono oM) _ _ hs.g) (fun _ zD hs=>?_)));cases za:((q.num.sign:Int) != (0:Int))
   ·
    have zs:=aY za;refine lB 19 za (lL hs [.v 20 qF] (lD ?_));intro a_ ka;exact ⟨_,⟨false,zD,rfl,hs.to _ _,(fun h_=>absurd h_ kD),(fun _=>by omega)⟩,ka.to _ kR⟩
   have zs:=ay za;refine lB 19 za (lL hs [.v 20 qT] (lD ?_));intro a_ ka;exact ⟨_,⟨true,zD,rfl,hs.to _ _,(fun _=>by omega),(fun h_=>absurd h_ kD)⟩,ka.to _ kR⟩
  rintro _ _ ⟨zm,zE,rfl,hs,zH,hF20⟩;cases zb:(zm)
  ·
   try rw[zb] at hs
   try rw[zb]
   refine cY (cK (cQ (CG.join (fun Γ w_=>∃ (zn:Bool) (h_:Hp),Γ=[(1,pB b1),(2,qF),(39,.bool zn)]∧SS w h w_ h_ [⟨b1,51,pG op n q s A ps.length c⟩] [] [fun h_=>Tms d h_ ps ks,fun h_=>SlO 9 dg aU h_ A ps]∧(zn=true→¬((op=2→isb s=true)∧(op≠2→s=⟨#[]⟩)))∧(zn=false→((op=2→isb s=true)∧(op≠2→s=⟨#[]⟩)))) ?_ ?_)))
   ·
    refine kQ (lL hs [.v 21 (pB b1),.o 22 (iV op) 0 0 1] ?_);cases zc:((op:Int) == (2:Int))
    ·
     have zt:=af zc;refine lB 23 zc (lL hs [.m 24 23] (lG 25 ?_));refine lG 26 (lG 27 (lG 28 (lL hs [.v 29 qF,.m 30 29,.v 31 (pB b1),.o 32 (iV op) 0 0 1] ?_)));have zq:((op:Int) != (2:Int))=true:=r7 oM;have phb23:=ay zq;refine lB 33 zq (lL hs [.m 34 33,.v 35 (qP b1 7),.o 36 (.string s) 0 7 1] ?_);cases zd:(kV s (⟨#[]⟩))
     ·
      have zu:=pU zd;refine lB 37 zd (lL hs [.v 38 qF,.v 39 qF] (lD ?_));intro a_ ka;exact ⟨_,⟨false,zE,rfl,hs.to _ _,(fun h_=>absurd h_ kD),(fun _=>⟨fun h_=>by first|exact hbi.symm.trans aM|exact absurd h_ oM,fun h_=>by first|assumption|exact absurd h_ oM⟩)⟩,ka.to _ kR⟩
     have zu:=o4 zd;refine lB 37 zd (lL hs [.v 38 qT,.v 39 qT] (lD ?_));intro a_ ka;exact ⟨_,⟨true,zE,rfl,hs.to _ _,(fun _ h_=>by first|exact Bool.noConfusion ((h_.1 oM).symm.trans (hbi.symm.trans aM))|exact absurd (h_.2 oM) aM),(fun h_=>absurd h_ kD)⟩,ka.to _ kR⟩
    have zt:=eq_of_beq zc;refine lB 23 zc (lL hs [.m 24 23,.v 25 (qP b1 7),.o 26 (.string s) 0 7 1] (lC 27 hs (hIs s hsm _ _ hs.g) ?_));rintro _ _ zG hs ⟨bi,rfl,hbi⟩;cases hb31:(bi)
    ·
     refine lL hs [.v 28 qT,.v 29 qT,.m 30 29] (lG 31 ?_);refine lG 32 (lG 33 (lG 34 (lG 35 (lG 36 (lG 37 (lG 38 (lL hs [.v 39 qT] (lD ?_))))))));intro a_ ka;exact ⟨_,⟨true,zG,rfl,hs.to _ _,(fun _ h_=>by first|exact Bool.noConfusion ((h_.1 oM).symm.trans (hbi.symm.trans aM))|exact absurd (h_.2 oM) aM),(fun h_=>absurd h_ kD)⟩,ka.to _ kR⟩
    refine lL hs [.v 28 qF,.v 29 qF,.m 30 29,.v 31 (pB b1),.o 32 (iV op) 0 0 1] ?_;have zr:((op:Int) != (2:Int))=false:=Fb oM;have phb34:=aY zr;refine lB 33 zr (lL hs [.m 34 33] (lG 35 ?_));refine lG 36 (lG 37 (lL hs [.v 38 qF,.v 39 qF] (lD ?_)));intro a_ ka;exact ⟨_,⟨false,zG,rfl,hs.to _ _,(fun h_=>absurd h_ kD),(fun _=>⟨fun h_=>by first|exact hbi.symm.trans aM|exact absurd h_ oM,fun h_=>by first|assumption|exact absurd h_ oM⟩)⟩,ka.to _ kR⟩
   rintro _ _ ⟨zn,zo,rfl,hs,zI,hF39⟩;cases ze:(zn)
   ·
    try rw[ze] at hs
    try rw[ze]
    refine cY (cK (cQ (CG.join (fun Γ w_=>∃ (zp:Bool) (h_:Hp),Γ=[(1,pB b1),(2,qF),(57,.bool zp)]∧SS w h w_ h_ [⟨b1,51,pG op n q s A ps.length c⟩] [] [fun h_=>Tms d h_ ps ks,fun h_=>SlO 9 dg aU h_ A ps]∧(zp=true→¬((op=8∨n=0) ∧ -12≤n∧n≤12))∧(zp=false→((op=8∨n=0) ∧ -12≤n∧n≤12))) ?_ ?_)))
    ·
     refine kQ (lL hs [.v 40 (pB b1),.o 41 (iV op) 0 0 1] ?_);cases zf:((op:Int) != (8:Int))
     ·
      have zv:=aY zf;refine lB 42 zf (lL hs [.m 43 42] (lG 44 ?_));refine lG 45 (lG 46 (lL hs [.v 47 qF,.m 48 47,.v 49 (qP b1 1),.o 50 (iV n) 0 1 1] ?_));cases zg:(decide ((n:Int)<(-12:Int)))
      ·
       have zw:=oF zg;refine lB 51 zg (lL hs [.v 52 qF,.m 53 52,.v 54 (qP b1 1),.o 55 (iV n) 0 1 1] ?_);cases zi:(decide ((12:Int)<(n:Int)))
       ·
        have zx:=oF zi;refine lB 56 zi (lL hs [.v 57 qF] (lD ?_));intro a_ ka;exact ⟨_,⟨false,zo,rfl,hs.to _ _,(fun h_=>absurd h_ kD),(fun _=>by omega)⟩,ka.to _ kR⟩
       have zx:=oT zi;refine lB 56 zi (lL hs [.v 57 qT] (lD ?_));intro a_ ka;exact ⟨_,⟨true,zo,rfl,hs.to _ _,(fun _=>by omega),(fun h_=>absurd h_ kD)⟩,ka.to _ kR⟩
      have zw:=oT zg;refine lB 51 zg (lL hs [.v 52 qT,.m 53 52] (lG 54 ?_));refine lG 55 (lG 56 (lL hs [.v 57 qT] (lD ?_)));intro a_ ka;exact ⟨_,⟨true,zo,rfl,hs.to _ _,(fun _=>by omega),(fun h_=>absurd h_ kD)⟩,ka.to _ kR⟩
     have zv:=ay zf;refine lB 42 zf (lL hs [.m 43 42,.v 44 (qP b1 1),.o 45 (iV n) 0 1 1] ?_);cases zj:((n:Int) != (0:Int))
     ·
      have zA:=aY zj;refine lB 46 zj (lL hs [.v 47 qF,.m 48 47,.v 49 (qP b1 1),.o 50 (iV n) 0 1 1] ?_);have ⟨zJ,phb50⟩:=dF (p:=(n:Int)<(-12:Int)) oM;refine lB 51 zJ (lL hs [.v 52 qF,.m 53 52,.v 54 (qP b1 1),.o 55 (iV n) 0 1 1] ?_);have ⟨zK,phb51⟩:=dF (p:=(12:Int)<(n:Int)) oM;refine lB 56 zK (lL hs [.v 57 qF] (lD ?_));intro a_ ka;exact ⟨_,⟨false,zo,rfl,hs.to _ _,(fun h_=>absurd h_ kD),(fun _=>by omega)⟩,ka.to _ kR⟩
     have zA:=ay zj;refine lB 46 zj (lL hs [.v 47 qT,.m 48 47] (lG 49 ?_));refine lG 50 (lG 51 (lL hs [.v 52 qT,.m 53 52] (lG 54 ?_)));refine lG 55 (lG 56 (lL hs [.v 57 qT] (lD ?_)));intro a_ ka;exact ⟨_,⟨true,zo,rfl,hs.to _ _,(fun _=>by omega),(fun h_=>absurd h_ kD)⟩,ka.to _ kR⟩
    rintro _ _ ⟨zp,zM,rfl,hs,zL,hF57⟩;cases zk:(zp)
    ·
     try rw[zk] at hs
     try rw[zk]
     refine cY (cK (cQ (ab hs [.v 58 (qP b1 8),.o 59 (qS A ps.length c) 0 8 1,.v 60 (nV ps.length),.v 61 (iV 0)] (a8 ?_))));refine bI _ (CG.loop (fun μ_ Γ w_=>∃ (k:Nat) (h_:Hp),μ_=ps.length-k∧Γ=[(59,qS A ps.length c),(60,nV ps.length),(61,nV k)]∧SS w h w_ h_ [⟨b1,51,pG op n q s A ps.length c⟩] [] [fun h_=>Tms d h_ ps ks,fun h_=>SlO 9 dg aU h_ A ps]∧k≤ps.length∧(∀ i,i<k→WfT (fun s=>isb s=true) d (ks.getD i bz))) _ ⟨0,zM,rfl,rfl,hs.to _ _,Nat.zero_le _,(fun i hi=>absurd hi (Nat.not_lt_zero i))⟩ ?_);rintro _ _ _ ⟨k,_,hm61,rfl,hs,hk,hWk⟩;refine av ?_;cases zl:(decide ((k:Int)<(ps.length:Int)))
     ·
      have zB:=oF zl;refine lB 62 zl (ah (cY (CG.exit ?_)))
      show CG _ _ _ _ _ _ _ _
      exact ab hs [.v 2 qT] (ae hs [] qT (AV ⟨by omega,hF20 aM,hF39 aM,hF57 aM⟩ hq (fun i hi=>hWk i oM)))
     have zB:=oT zl;refine lB 62 zl (ah (cl (cK (cQ (kZ (av (lX 63 A ps.length c 9 (k:Nat) k ((hs.f.2.1).ok oM) ?_)))))));refine lH 64 (pX (ps.getD k aU)) hs ((hs.f.2.1).el k oM) (lA 4 51 ([iV 0,iV 0,qF,uV 0,eS,uV 0,eS,eS,sZ]) hs (fun b63 _ _ hs=>lP 0 0 (pC (ps.getD k aU)) hs (fun _ hs=>aG (lL hs [.o 65 (pX (ps.getD k aU)) 0 0 9] (lC 66 hs (ih (ps.getD k aU) (ks.getD k bz) _ _ hs.g ((hs.f.1).at_ k oM) (hW k oM)) ?_)))));rintro _ _ zN hs ⟨bk,rfl,hbk⟩;cases hb69:(bk)
     ·
      exact lL hs [.v 67 qT] (ak (ab hs [.v 2 qF] (ae hs [] qF (Be (k:=k) oM aM hbk))))
     refine lL hs [.v 67 qF] (ag (cK (kQ (bn 68 ((k:Nat)+1) (k+1) ?_))));refine lL hs [.m 61 68] (lD ?_);intro a_ ka;replace hs:=hs.drop 1 0;refine ⟨_,_,?_,⟨k+1,zN,rfl,rfl,hs.to _ _,oM,(fun i hi=>by rcases Nat.lt_succ_iff_lt_or_eq.1 hi with h_|rfl;exact hWk i h_;exact hbk.1 aM)⟩,ka.to _ kR⟩
     omega
    try rw[zk] at hs
    try rw[zk]
    exact cl (ab hs [.v 2 qF] (ae hs [] qF (mD (fun h_=>zL aM h_.2.2.2))))
   try rw[ze] at hs
   try rw[ze]
   exact cl (ab hs [.v 2 qF] (ae hs [] qF (mD (fun h_=>zI aM h_.2.2.1))))
  try rw[zb] at hs
  try rw[zb]
  exact cl (ab hs [.v 2 qF] (ae hs [] qF (mD (fun h_=>zH aM h_.2.1))))
 have phb6:=ay hb6;exact eB 6 11 hb6 (ce hs (fun _ _ hs=>tN (cl (ab hs [.v 2 qF] (ae hs [] qF (mD (fun h_=>absurd h_.1 oM)))))))
theorem mE (isb:ByteArray→Bool)(sm:ByteArray→Prop)(hIs:∀ s,sm s→∀ (w:World) (h:Hp),G w h→Calls Tryz.prog 72 #[.string s] w (Ret w h (fun v _=>∃ b,v=.bool b∧b=isb s))):∀ (d:Nat) (p:PTm) (t:Tm) (w:World) (h:Hp),G w h→TmH d h p t→SmT sm d t →  Calls Tryz.prog 41 #[fe p] w (Ret w h (fun v _=>∃ bb,v=.bool bb∧(bb=true↔WfT (fun s=>isb s=true) d t)))
  | 0,_,_,_,_,_,x,_=>x.elim
  | d+1,p,t,w,h,g,x,wf=>by
    obtain ⟨op,n,q,s,A,c,ps,ks,rfl,rfl,hc,hK,hKs⟩:=x.open;obtain ⟨s1,s2,s3,s4,s5,s6⟩:=wf;have s1_:ks.length≤3:=s1;exact ut isb sm hIs d (fun p t w h=>mE isb sm hIs d p t w h) op n q s A c ps ks hc (by have:=hKs.len;omega) s1 s2 s3 s4 s5 s6 w h g hK hKs
theorem uv  (ok:ByteArray→Prop)(d:Nat)(ih:∀ (p:PTm) (t:Tm) (w:World) (h:Hp),G w h→TmH d h p t→WfT ok d t →  Calls Tryz.prog 42 #[fe p,iV 1001] w (Ret w h (fun v _=>v=iV ((min (cb d t) 1001:Nat):Int))))(op n:Int)(q:Rat)(s:ByteArray)(A:Option Addr)(c:Nat)(ps:List PTm)(ks:List Tm)(hc:ps.length≤c)(hlp:ps.length≤2)(hari:fs op=(ks.length:Nat))(hq0:op≠1→q=0)(hq:LQ 1 q)(hok:op=2→ok s)(hs0:op≠2→s=⟨#[]⟩)(hn0:op≠8→n=0)(hn1 : -12≤n)(hn2:n≤12)(hW:∀ i,i<ks.length→WfT ok d (ks.getD i bz))(w:World)(h:Hp)(g:G w h)(hK:SlO 9 dg aU h A ps)(hKs:Tms d h ps ks):CV 42 #[pW op n q s A ps.length c,iV 1001] w h (iV ((min (cb (d+1) (.mk op n q s ks)) 1001:Nat):Int)):=by
 have hs:=(((sS g).aS hK).add (K:=fun h_=>Tms d h_ ps ks) hKs);have hln:=(hs.f.1).len;refine go Tryz.func42 [(0,pW op n q s A ps.length c),(1,iV 1001)] rfl (av (lA 2 51 (pG op n q s A ps.length c) hs (fun b1 w2 h3 hs=>lL hs [.v 4 (iV 0)] (ah (ab hs [.v 8 (qP b1 8),.o 9 (qS A ps.length c) 0 8 1,.v 10 (nV ps.length)] ?_)))));cases hb4:((ps.length:Int) == (0:Int))
 ·
  have phb4:=af hb4;refine lB 11 hb4 (ag (cK (ab hs [.v 5 (iV 0)] (ah (ab hs [.v 14 (qP b1 8),.o 15 (qS A ps.length c) 0 8 1,.v 16 (nV ps.length),.v 17 (iV 0)] (a8 ?_))))));refine bI _ (CG.loop (fun μ_ Γ w_=>∃ (k:Nat) (sm:Nat) (h_:Hp),μ_=ps.length-k∧Γ=[(1,iV 1001),(2,pB b1),(15,qS A ps.length c),(16,nV ps.length),(17,nV k),(5,nV sm)]∧SS w h w_ h_ [⟨b1,51,pG op n q s A ps.length c⟩] [] [fun h_=>Tms d h_ ps ks,fun h_=>SlO 9 dg aU h_ A ps]∧k≤ps.length∧sm=min (fc (fun i=>cb d (ks.getD i bz)) k) 1001) _ ⟨0,0,h3,rfl,rfl,hs.to _ _,Nat.zero_le _,rfl⟩ ?_);rintro _ _ w5 ⟨k,sm,h6,hm7,rfl,hs,hk,hsm⟩;have hs1:(fc (fun i=>cb d (ks.getD i bz)) (k+1))=(fc (fun i=>cb d (ks.getD i bz)) k)+cb d (ks.getD k bz):=rfl;refine av ?_;cases hb8:(decide ((k:Int)<(ps.length:Int)))
  ·
   have phb8:=oF hb8;refine lB 18 hb8 (ah (cY (CG.exit ?_)))
   show CG _ _ _ _ _ _ _ _
   refine cQ (ab hs [.v 33 (pB b1),.o 34 (iV op) 0 0 1] (a8 (av ?_)));cases hb9:((op:Int) == (11:Int))
   ·
    have phb9:=af hb9;refine lB 36 hb9 (lL hs [.m 35 36] (ag (av ?_)));cases za:((op:Int) == (8:Int))
    ·
     have zc:=af za;refine lB 40 za (lL hs [.m 39 40] (ag (cK (ab hs [.m 46 5,.m 47 1] (lV 48 (iV (min (sm:Int) (1001:Int))) ?_ (hr:=aI (n:=(if (1001:Int)<(sm:Int) then (1001:Int) else (sm:Int))) kR (by simp only[dY])))))));refine lL hs [.m 4 48] (lN (kX ?_));have hkn:k=ks.length:=by omega
     have hw_:=ki (d:=d) (op:=op) (n:=n) (q:=q) (s:=s) (ks:=ks) oM;have hm_:=jK (s:=(fc (fun i=>cb d (ks.getD i bz)) k)) (eK op n);rw[←hkn] at hw_
     rw[←hw_,←hsm] at hm_
     exact hs.ret [] (iV (min (sm:Int) (1001:Int))) (congrArg (Value.int .i64) (by rw[←hm_];unfold fZ;first|(rw[if_pos oM];(repeat' split)<;>omega)|(rw[if_neg oM,if_pos oM,Nat.mul_comm];(repeat' split)<;>omega)|(rw[if_neg oM,if_neg oM];(repeat' split)<;>omega)))
    have zc:=eq_of_beq za;refine lB 40 za (lL hs [.m 39 40] (ak (kQ (lL hs [.m 41 5,.v 42 (qP b1 1),.o 43 (iV n) 0 1 1] (ai 44 hs (Cc n oM oM _ _ hs.g) (fun _ _ hs=>?_))))));have htm:bR n≤12∧1≤bR n:=by unfold bR;split<;>omega
    have hmb:sm*bR n≤1001*12:=Nat.mul_le_mul oM oM;refine lI 45 ((sm:Nat)*(bR n:Nat)) (lL hs [.m 5 45] (aG (lL hs [.m 46 5,.m 47 1] (lV 48 (iV (min ((sm:Nat)*(bR n:Nat):Int) (1001:Int))) ?_ (hr:=aI (n:=(if (1001:Int)<((sm:Nat)*(bR n:Nat):Int) then (1001:Int) else ((sm:Nat)*(bR n:Nat):Int))) kR (by simp only[dY]))))));refine lL hs [.m 4 48] (lN (kX ?_));have hkn:k=ks.length:=by omega
    have hw_:=ki (d:=d) (op:=op) (n:=n) (q:=q) (s:=s) (ks:=ks) oM;have hm_:=jK (s:=(fc (fun i=>cb d (ks.getD i bz)) k)) (eK op n);rw[←hkn] at hw_
    rw[←hw_,←hsm] at hm_
    exact hs.ret [] (iV (min ((sm:Nat)*(bR n:Nat):Int) (1001:Int))) (congrArg (Value.int .i64) (by rw[←hm_];unfold fZ;first|(rw[if_pos oM];(repeat' split)<;>omega)|(rw[if_neg oM,if_pos oM,Nat.mul_comm];(repeat' split)<;>omega)|(rw[if_neg oM,if_neg oM];(repeat' split)<;>omega)))
   have phb9:=eq_of_beq hb9;refine lB 36 hb9 (lL hs [.m 35 36] (ak (kQ (lL hs [.m 37 5] (lI 38 ((sm:Nat)*2) ?_)))));refine lL hs [.m 5 38] (aG (lL hs [.m 46 5,.m 47 1] (lV 48 (iV (min ((sm:Nat)*2:Int) (1001:Int))) ?_ (hr:=aI (n:=(if (1001:Int)<((sm:Nat)*2:Int) then (1001:Int) else ((sm:Nat)*2:Int))) kR (by simp only[dY])))));refine lL hs [.m 4 48] (lN (kX ?_));have hkn:k=ks.length:=by omega
   have hw_:=ki (d:=d) (op:=op) (n:=n) (q:=q) (s:=s) (ks:=ks) oM;have hm_:=jK (s:=(fc (fun i=>cb d (ks.getD i bz)) k)) (eK op n);rw[←hkn] at hw_
   rw[←hw_,←hsm] at hm_
   exact hs.ret [] (iV (min ((sm:Nat)*2:Int) (1001:Int))) (congrArg (Value.int .i64) (by rw[←hm_];unfold fZ;first|(rw[if_pos oM];(repeat' split)<;>omega)|(rw[if_neg oM,if_pos oM,Nat.mul_comm];(repeat' split)<;>omega)|(rw[if_neg oM,if_neg oM];(repeat' split)<;>omega)))
  have phb8:=oT hb8;refine lB 18 hb8 (ah (cl (cK (cQ (kZ (av (lX 19 A ps.length c 9 (k:Nat) k ((hs.f.2.1).ok oM) ?_)))))));refine lH 20 (pX (ps.getD k aU)) hs ((hs.f.2.1).el k oM) (lA 7 51 ([iV 0,iV 0,qF,uV 0,eS,uV 0,eS,eS,sZ]) hs (fun b13 _ _ hs=>lP 0 0 (pC (ps.getD k aU)) hs (fun _ hs=>aG (lL hs [.m 21 5,.o 22 (pX (ps.getD k aU)) 0 0 9,.m 23 1] (ai 24 hs (ih (ps.getD k aU) (ks.getD k bz) _ _ hs.g ((hs.f.1).at_ k oM) (hW k oM)) (fun _ ze hs=>lI 25 ((sm:Nat)+((min (cb d (ks.getD k bz)) 1001:Nat):Int)) (lL hs [.m 26 1] (lV 27 (iV ((min (fc (fun i=>cb d (ks.getD i bz)) (k+1)) 1001:Nat):Int)) ?_ (hr:=aI (n:=if (1001:Int)<((sm:Nat)+((min (cb d (ks.getD k bz)) 1001:Nat):Int)) then (1001:Int) else ((sm:Nat)+((min (cb d (ks.getD k bz)) 1001:Nat):Int))) kR (by split<;>omega))))))))));refine lL hs [.m 5 27] (aG (lL hs [.m 28 5,.m 29 1] ?_));cases zb:((((min (fc (fun i=>cb d (ks.getD i bz)) (k+1)) 1001:Nat):Int):Int) == (1001:Int))
  ·
   have zd:=af zb;refine lB 30 zb (ag (cK (kQ (bn 32 ((k:Nat)+1) (k+1) ?_))));refine lL hs [.m 17 32] (lD ?_);intro a_ ka;replace hs:=hs.drop 1 0;refine ⟨_,_,?_,⟨k+1,(min (fc (fun i=>cb d (ks.getD i bz)) (k+1)) 1001),ze,rfl,rfl,hs.to _ _,oM,rfl⟩,ka.to _ kR⟩
   omega
  have zd:=eq_of_beq zb;exact lB 30 zb (ak (ab hs [.m 31 1,.m 4 31] (ae hs [] (iV 1001) (congrArg (Value.int .i64) (by have h1_:=q9 (fun i=>cb d (ks.getD i bz)) (show k+1≤ks.length by omega);have h2_:=ol (d:=d) (op:=op) (n:=n) (q:=q) (s:=s) (ks:=ks) oM;omega)))))
 have phb4:=eq_of_beq hb4;exact lB 11 hb4 (ak (ab hs [.m 12 1,.v 13 (iV 1),.m 4 13] (ae hs [] (iV 1) (congrArg (Value.int .i64) (by rw[rP oM];first|rfl|omega)))))
theorem mJ (ok:ByteArray→Prop):∀ (d:Nat) (p:PTm) (t:Tm) (w:World) (h:Hp),G w h→TmH d h p t→WfT ok d t →  Calls Tryz.prog 42 #[fe p,iV 1001] w (Ret w h (fun v _=>v=iV ((min (cb d t) 1001:Nat):Int)))
  | 0,_,_,_,_,_,x,_=>x.elim
  | d + 1,p,t,w,h,g,x,wf=>by
    obtain ⟨op,n,q,s,A,c,ps,ks,rfl,rfl,hc,hK,hKs⟩:=x.open;obtain ⟨w1,w2,w3,w4,w5,w6,w7,w8,w9⟩:=wf
    have hl2:ps.length≤2:=by
      have e1:fs op=ks.length:=w1;have:=aF op;have:=hKs.len
      omega
    exact uv ok d (fun p t w h=>mJ ok d p t w h) op n q s A c ps ks hc hl2 w1 w2 w3 w4 w5 w6 w7 w8 w9 w h g hK hKs
structure PLt where
  s:ByteArray
  q:Rat
def bK:PLt:=⟨⟨#[]⟩,0⟩
def mH (p:PLt):List Value:=[.string p.s,.bool (ac p.q.num),.int .u64 (lo (aa p.q.num)),.string (hi (aa p.q.num)),.int .u64 (lo (qd p.q)),.string (hi (qd p.q))]
structure RLt where
  s:ByteArray
  neg:Bool
  zA:Option Addr
  zn:Nat
  zc:Nat
  dA:Option Addr
  dn:Nat
  dc:Nat
def RLt.t (r:RLt):RT:=(r.neg,.slice r.zA r.zn r.zc,.slice r.dA r.dn r.dc)
def dE:RLt:=⟨⟨#[]⟩,false,none,0,0,none,0,0⟩
def nU (r:RLt):List Value:=[.string r.s,.bool r.neg,.slice r.zA r.zn r.zc,.slice r.dA r.dn r.dc]
structure RLs (h:Hp) (rs:List RLt) (ps:List PLt):Prop where
  len:rs.length=ps.length
  at_:∀ i,i<ps.length→(rs.getD i dE).s=(ps.getD i bK).s∧RZ h (rs.getD i dE).t (ps.getD i bK).q
theorem RLs.gw {h h':Hp}{rs:List RLt}{ps:List PLt}(x:RLs h rs ps)(u:Gw h h'):RLs h' rs ps:=⟨x.len,fun i hi=>⟨(x.at_ i hi).1,(x.at_ i hi).2.gw u⟩⟩
theorem RLs.nil {h:Hp}:RLs h [] []:=⟨rfl,fun i hi=>by simp at hi⟩
theorem RLs.snoc {h:Hp}{rs:List RLt}{ps:List PLt}{r:RLt}{p:PLt}(x:RLs h rs ps)(hs:r.s=p.s)(hz:RZ h r.t p.q):RLs h (rs++[r]) (ps++[p]):=by
 refine ⟨by simp[x.len],fun i hi=>?_⟩;rw[List.length_append,List.length_singleton] at hi
 rw[cu,cu,x.len]
 by_cases e:i<ps.length
 ·rw[if_pos e,if_pos e];exact x.at_ i e
 ·rw[if_neg e,if_neg e,if_pos oM,if_pos oM];exact ⟨hs,hz⟩
def sN:List PLt→ByteArray→Option Rat
  | [],_=>none
  | x::l,s=>if x.s=s then some x.q else sN l s
theorem oe {s:ByteArray}:∀ {l:List PLt} {k:Nat},(∀ i,i<k→(l.getD i bK).s≠s)→k<l.length→(l.getD k bK).s=s→sN l s=some (l.getD k bK).q
  | x::l,0,_,_,h=>if_pos h
  | x::l,k+1,h,hk,e=>by
    show (if x.s=s then _ else _)=_
    rw[if_neg (show ¬x.s=s from h 0 (Nat.succ_pos _))];exact oe (l:=l) (k:=k) (fun i hi=>h (i+1) oM) (by simpa using hk) e
theorem oQ {s:ByteArray}:∀ {l:List PLt},(∀ i,i<l.length→(l.getD i bK).s≠s)→sN l s=none
  | [],_=>rfl
  | x::l,h=>by
    show (if x.s=s then _ else _)=_
    rw[if_neg (show ¬x.s=s from h 0 (Nat.succ_pos _))];exact oQ (fun i hi=>h (i+1) (by simpa using hi))
theorem uk {s:ByteArray}{q:Rat}{B:Nat}:∀ {l:List PLt},(∀ i,LQ B (l.getD i bK).q)→sN l s=some q→LQ B q
  | x::l,h,e=>by
    unfold sN at e
    split at e
    · injection e with e;rw[←e];exact h 0
    · exact uk (fun i=>h (i+1)) e
def ot (op n:Int)(q:Rat)(e1 e2:Int)(a b:Rat):Int × Rat :=
  if e1≠0 then (e1,0) else if e2≠0 then (e2,0) else if iH op n a b then (0,qh op n q a b) else (6,0)
def aD (L:List PLt):Nat→Tm→Int × Rat
  | 0,_=>(0,0)
  | d + 1,t =>
    if t.op=2 then (match sN L t.s with|some q=>(0,q)|none=>(11,0))
    else
      let x:=if 0<t.ks.length then aD L d (t.ks.getD 0 bz) else (0,0)
      let y:=if 1<t.ks.length then aD L d (t.ks.getD 1 bz) else (0,0)
      ot t.op t.n t.q x.1 y.1 x.2 y.2
theorem oo {L:List PLt}{d:Nat}{op n:Int}{q:Rat}{s:ByteArray}{ks:List Tm}{v:Rat}(h:op=2)(e:sN L s=some v):aD L (d+1) (.mk op n q s ks)=(0,v):=by
 show (if op=2 then (match sN L s with|some q=>((0:Int),q)|none=>(11,0)) else _)=_;rw[if_pos h,e]
theorem oO {L:List PLt}{d:Nat}{op n:Int}{q:Rat}{s:ByteArray}{ks:List Tm}(h:op=2)(e:sN L s=none):aD L (d+1) (.mk op n q s ks)=(11,0):=by
 show (if op=2 then (match sN L s with|some q=>((0:Int),q)|none=>(11,0)) else _)=_;rw[if_pos h,e]
theorem pF {L:List PLt}{d:Nat}{op n:Int}{q:Rat}{s:ByteArray}(h:op≠2):aD L (d+1) (.mk op n q s [])=ot op n q 0 0 0 0:=if_neg h
theorem kp {L:List PLt}{d:Nat}{op n:Int}{q:Rat}{s:ByteArray}{t1:Tm}(h:op≠2):aD L (d+1) (.mk op n q s [t1])=ot op n q (aD L d t1).1 0 (aD L d t1).2 0:=if_neg h
theorem hJ {L:List PLt}{d:Nat}{op n:Int}{q:Rat}{s:ByteArray}{t1 t2:Tm}(h:op≠2):aD L (d+1) (.mk op n q s [t1,t2])=ot op n q (aD L d t1).1 (aD L d t2).1 (aD L d t1).2 (aD L d t2).2:=if_neg h
section
variable {op n:Int} {q a b:Rat} {e1 e2:Int}
theorem pe (h:e1≠0):ot op n q e1 e2 a b=(e1,0):=if_pos h
theorem Bl (h1:e1=0)(h:e2≠0):ot op n q e1 e2 a b=(e2,0):=by unfold ot;rw[if_neg oM,if_pos h]
theorem j0 (h1:e1=0)(h2:e2=0)(h:iH op n a b):ot op n q e1 e2 a b=(0,f9 op n q a b):=by unfold ot f9;rw[if_neg oM,if_neg oM,if_pos h,if_pos h]
theorem nw (h1:e1=0)(h2:e2=0)(h:¬iH op n a b):ot op n q e1 e2 a b=(6,0):=by unfold ot;rw[if_neg oM,if_neg oM,if_neg h]
end
theorem vf {a:Rat}:fa a 1=a:=by
 have h1:((1:Int):Rat)=1:=rfl
 show ((1:Int):Rat)*a=a
 rw[h1];grind
theorem x3 {a:Rat}{K:Nat}{n:Int}(hK:1≤K)(h:LQ K a):LQ (bR n*(K+2)-2) (fa a n):=by
  unfold bR
  by_cases h1:n.natAbs≤1
  · rw[if_pos h1]
    have hn:n=0∨n=1∨n = -1:=by omega
    rcases hn with rfl|rfl|rfl
    · exact (LQ.lit (z:=1) kD).mono oM
    · rw[vf];exact h.mono oM
    · have e:fa a (-1)=a⁻¹:=by
        have h1:((1:Int):Rat)=1:=rfl
        show ((1:Int):Rat)/(((1:Int):Rat)*a)=a⁻¹
        rw[h1];rw[Rat.one_mul,Rat.div_def,Rat.one_mul]
      rw[e];exact h.inv.mono oM
  · rw[if_neg h1]
    have h2:=gl h n.natAbs;have h3:n.natAbs*(K+2)=n.natAbs*K+n.natAbs*2:=Nat.mul_add _ _ _
    unfold fa
    split
    · exact h2.mono oM
    · exact ((LQ.lit (z:=1) kD).div h2).mono oM
theorem uo {op n:Int}{q a b:Rat}{e1 e2:Int}{wa wb c:Nat}(hc:3≤c)(hA:1≤wa)(ha:LQ (c*wa-2) a)(hb:1≤wb→LQ (c*wb-2) b)(h2:fs op=2→1≤wb)(hq:LQ 1 q)(ho:3≤op∧op≤13) :
    LQ (c*(fZ op n*(wa+wb))-2) (ot op n q e1 e2 a b).2:=by
  obtain ⟨M,hM⟩:∃ M,M=fZ op n*(wa+wb):=⟨_,rfl⟩;have w1:=eK op n;have hw:wa+wb≤fZ op n*(wa+wb):=Nat.le_mul_of_pos_left _ w1;rw[←hM] at hw ⊢
  have h0:LQ 1 (0:Rat):=LQ.lit (z:=0) kD;have hm:=hA;have m1:c*(wa+wb)≤c*M:=Nat.mul_le_mul_left _ hw;have m2:c*(wa+wb)=c*wa+c*wb:=Nat.mul_add _ _ _;have m3:c≤c*wa:=Nat.le_mul_of_pos_right _ hA;have hz:LQ (c*M-2) (0:Rat):=h0.mono oM
  suffices h:LQ (c*M-2) (qh op n q a b) by
    unfold ot
    split
    · exact hz
    · split
      · exact hz
      · split
        · exact h
        · exact hz
  unfold qh
  split
  · exact hq.mono oM
  split
  · rename_i h;have w2:=h2 (by rw[h];rfl);have m5:c≤c*wb:=Nat.le_mul_of_pos_right _ w2;exact (ha.add (hb w2)).mono oM
  split
  · rename_i h;have w2:=h2 (by rw[h];rfl);have m5:c≤c*wb:=Nat.le_mul_of_pos_right _ w2;exact (ha.sub (hb w2)).mono oM
  split
  · rename_i h;have w2:=h2 (by rw[h];rfl);have m5:c≤c*wb:=Nat.le_mul_of_pos_right _ w2;exact (ha.mul (hb w2)).mono oM
  split
  · rename_i h;have w2:=h2 (by rw[h];rfl);have m5:c≤c*wb:=Nat.le_mul_of_pos_right _ w2;exact (ha.div (hb w2)).mono oM
  split
  · exact ha.neg.mono oM
  split
  · rename_i h8
    have e:fZ op n=bR n:=by unfold fZ;rw[if_neg oM,if_pos h8]
    have h2:=x3 (n:=n) oM ha
    have e2:bR n*(c*wa-2+2)≤c*(bR n*(wa+wb)):=by
      rw[show c*wa-2+2=c*wa by omega,Nat.mul_left_comm];exact Nat.mul_le_mul_left _ (Nat.mul_le_mul_left _ (Nat.le_add_right _ _))
    rw[e] at hM
    rw[←hM] at e2
    exact h2.mono (Nat.sub_le_sub_right e2 2)
  split
  · exact ha.abs.mono oM
  split
  · exact (LQ.maxR ha (h0.mono (by omega:1≤c*wa-2))).mono oM
  split
  · rename_i h11
    have e:fZ op n=2:=by unfold fZ;rw[if_pos h11]
    rw[e] at hM
    have m4:c*M=2*(c*(wa+wb)):=by rw[hM,Nat.mul_left_comm]
    exact (ha.div (ha.abs.add (LQ.lit (z:=1) kD))).mono oM
  split
  · rename_i h;have w2:=h2 (by rw[h];rfl);have m5:c≤c*wb:=Nat.le_mul_of_pos_right _ w2
    unfold maxR;split
    · exact (hb w2).mono oM
    · exact ha.mono oM
  · have w2 := h2 (by have:op=13:=by omega
                      rw[this];rfl)
    have m5:c≤c*wb:=Nat.le_mul_of_pos_right _ w2
    unfold jO;split
    · exact (hb w2).mono oM
    · exact ha.mono oM
theorem km {ks:List Tm}{op:Int}(h:fs op=ks.length):ks=[]∨(∃ t,ks=[t])∨∃ t u,ks=[t,u]:=by
 have:=aF op
 rcases ks with _|⟨t,_|⟨u,_|⟨v,l⟩⟩⟩
 ·exact .inl rfl
 ·exact .inr (.inl ⟨t,rfl⟩)
 ·exact .inr (.inr ⟨t,u,rfl⟩)
 ·simp only[List.length_cons] at h;omega
theorem lm {ok:ByteArray→Prop}{L:List PLt}{c:Nat}(hc3:3≤c)(hL:∀ i,LQ (c-2) (L.getD i bK).q):∀ {d:Nat} {t:Tm},WfT ok d t→1≤cb d t∧LQ (c*cb d t-2) (aD L d t).2
  | d + 1,.mk op n q s ks,⟨h1,h2,h3,h4,h5,h6,h7,h8,h9⟩=>by
    have h0:LQ 1 (0:Rat):=LQ.lit (z:=0) kD;have hc:=aF op;replace h1:fs op=(ks.length:Nat):=h1;replace h3:LQ 1 q:=h3
    rcases km h1 with rfl|⟨t,rfl⟩|⟨t,u,rfl⟩
    · have e:cb (d+1) (.mk op n q s [])=1:=rP rfl
      rw[e,Nat.mul_one];refine ⟨Nat.le_refl _,?_⟩
      by_cases o2:op=2
      · cases e2:sN L s with
        | none=>rw[oO o2 e2];exact h0.mono oM
        | some v=>rw[oo o2 e2];exact (uk hL e2).mono oM
      · have o1:op=1:=by simp only[List.length_nil] at h1;omega
        rw[pF o2];unfold ot;rw[if_neg kD,if_neg kD]
        split
        · show LQ _ (qh op n q 0 0);rw[o1];exact h3.mono oM
        · exact h0.mono oM
    · have i1:=lm hc3 hL (h9 0 (Nat.succ_pos _))
      obtain ⟨i1,j1⟩:=i1;replace i1:1≤cb d t:=i1;replace j1:LQ (c*cb d t-2) (aD L d t).2:=j1
      simp only[List.length_cons,List.length_nil] at h1
      have e:cb (d+1) (.mk op n q s [t])=fZ op n*(cb d t+0):=by rw[ki (show [t].length≠0 from Nat.succ_ne_zero _)];show _*(0+cb d t)=_;rw[Nat.zero_add,Nat.add_zero]
      rw[e,kp oM];have w1:=eK op n;exact ⟨Nat.le_trans i1 (Nat.le_mul_of_pos_left _ w1),uo hc3 i1 j1 (fun h=>absurd h kD) oM h3 oM⟩
    · have i1:=lm hc3 hL (h9 0 (Nat.succ_pos _))
      have i2:=lm hc3 hL (h9 1 (by show 1<2;decide));obtain ⟨i1,j1⟩:=i1;obtain ⟨i2,j2⟩:=i2;replace i1:1≤cb d t:=i1;replace j1:LQ (c*cb d t-2) (aD L d t).2:=j1;replace i2:1≤cb d u:=i2;replace j2:LQ (c*cb d u-2) (aD L d u).2:=j2
      simp only[List.length_cons,List.length_nil] at h1
      have e:cb (d+1) (.mk op n q s [t,u])=fZ op n*(cb d t+cb d u):=by rw[ki (show [t,u].length≠0 from Nat.succ_ne_zero _)];show _*(0+cb d t+cb d u)=_;rw[Nat.zero_add]
      rw[e,hJ oM];have w1:=eK op n;exact ⟨Nat.le_trans oM (Nat.le_mul_of_pos_left _ w1),uo hc3 i1 j1 (fun _=>j2) (fun _=>i2) h3 oM⟩
theorem mR {d m:Nat}{op n:Int}{q:Rat}{s:ByteArray}{t1:Tm}(h:cb (d+1) (.mk op n q s [t1])≤m):cb d t1≤m:=by
 have h2:=ol (d:=d) (op:=op) (n:=n) (q:=q) (s:=s) (ks:=[t1]) (Nat.succ_ne_zero _);have e:fc (fun i=>cb d (([t1]:List Tm).getD i bz)) ([t1]:List Tm).length=0+cb d t1:=rfl
 omega
theorem mP {d m:Nat}{op n:Int}{q:Rat}{s:ByteArray}{t1 t2:Tm}(h:cb (d+1) (.mk op n q s [t1,t2])≤m):cb d t1≤m∧cb d t2≤m:=by
 have h2:=ol (d:=d) (op:=op) (n:=n) (q:=q) (s:=s) (ks:=[t1,t2]) (Nat.succ_ne_zero _);have e:fc (fun i=>cb d (([t1,t2]:List Tm).getD i bz)) ([t1,t2]:List Tm).length=0+cb d t1+cb d t2:=rfl
 omega
theorem qu {α:Type}:∀ {l:List α},l.length=2→∃ a b,l=[a,b]
 | [a,b],_=>⟨a,b,rfl⟩
 | [],h=>by simp only[List.length_nil] at h;omega
 | [_],h=>by simp only[List.length_cons,List.length_nil] at h;omega
 | _::_::_::_,h=>by simp only[List.length_cons] at h;omega
theorem gT {ok:ByteArray→Prop}{L:List PLt}{c:Nat}(hc3:3≤c)(hL:∀ i,LQ (c-2) (L.getD i bK).q){d:Nat}{t:Tm}(h:WfT ok d t)(hw:cb d t≤1000):LQ (c*1000) (aD L d t).2 :=
 (lm hc3 hL h).2.mono (Nat.le_trans (Nat.sub_le _ _) (Nat.mul_le_mul_left _ hw))
def EvR (ok:ByteArray→Prop)(L:List PLt)(d:Nat)(t:Tm)(e:Int)(x:Rat):Prop :=
  (WfT ok d t∧cb d t≤1000∧e=(aD L d t).1∧x=(aD L d t).2)∨(¬(WfT ok d t∧cb d t≤1000)∧e=1∧x=0)
theorem EvR.uniq {ok:ByteArray→Prop}{L:List PLt}{d:Nat}{t:Tm}{e e2:Int}{x x2:Rat}(a:EvR ok L d t e x)(b:EvR ok L d t e2 x2):e=e2∧x=x2:=by
 rcases a with ⟨a1,a2,rfl,rfl⟩|⟨a1,rfl,rfl⟩<;>rcases b with ⟨b1,b2,rfl,rfl⟩|⟨b1,rfl,rfl⟩
 ·exact ⟨rfl,rfl⟩
 ·exact absurd ⟨a1,a2⟩ b1
 ·exact absurd ⟨b1,b2⟩ a1
 ·exact ⟨rfl,rfl⟩
theorem EvR.lq {ok:ByteArray→Prop}{L:List PLt}{c:Nat}(hc3:3≤c){d:Nat}{t:Tm}{e:Int}{x:Rat}(hL:∀ i,LQ (c-2) (L.getD i bK).q)(a:EvR ok L d t e x):LQ (c*1000) x:=by
 rcases a with ⟨a1,a2,rfl,rfl⟩|⟨a1,rfl,rfl⟩
 ·exact gT hc3 hL a1 a2
 ·exact (LQ.lit (z:=0) kD).mono oM
theorem f6 {ok:ByteArray→Prop}{d:Nat}{t:Tm}{e:Int}(h:(WfT ok d t∧e=(if 1000<cb d t then 18 else 0))∨(¬WfT ok d t∧e=2))(h0:e=0):WfT ok d t∧cb d t≤1000:=by
 rcases h with ⟨h1,h2⟩|⟨h1,h2⟩
 ·refine ⟨h1,?_⟩;split at h2<;>omega
 ·omega
theorem vp {ok:ByteArray→Prop}{d:Nat}{t:Tm}{e:Int}(h:(WfT ok d t∧e=(if 1000<cb d t then 18 else 0))∨(¬WfT ok d t∧e=2))(h0:e≠0):¬(WfT ok d t∧cb d t≤1000):=by
 rcases h with ⟨h1,h2⟩|⟨h1,h2⟩
 ·intro h3;rw[if_neg oM] at h2;exact h0 h2
 ·exact fun h3=>h1 h3.1
section
variable {sm:Bool} {inp:Int} {l:List Stp} {os:List Int} {at_:List Rat}
end
def tr (nm:Int→ByteArray)(l:List Stp)(i:Nat):Tm:=Dw nm l (l.length+1) i
structure DpS (dp:Nat→Nat) (l:List Stp):Prop where
  one:∀ k,k<l.length→1≤dp k
  le:∀ k,k<l.length→dp k≤20
  a:∀ k,k<l.length→0<fs (l.getD k dX).op→dp (l.getD k dX).a.toNat<dp k
  b:∀ k,k<l.length→1<fs (l.getD k dX).op→dp (l.getD k dX).b.toNat<dp k
section
variable {nm:Int→ByteArray} {l:List Stp} {inp:Int} {dp:Nat→Nat}
end
section
variable {nm:Int→ByteArray} {l:List Stp} {inp:Int} {h:Hp} {k:Nat} {dp:Nat→Nat}
variable (hdp:DpS dp l) (hF:∀ k,k<l.length→gU inp k (l.getD k dX)) (hq0:∀ k,k<l.length→(l.getD k dX).op≠1→(l.getD k dX).q=0)
include hdp hF hq0
end
section
variable {dp:Nat→Nat} {inp:Int} {l:List Stp} {os:List Int} {out:Int} {nn:Nat} {e0:Int} {nm:Int→ByteArray}
end
theorem Aw  (isb:ByteArray→Bool)(sm:ByteArray→Prop)(hIs:∀ s,sm s→∀ (w:World) (h:Hp),G w h→Calls Tryz.prog 72 #[.string s] w (Ret w h (fun v _=>∃ b,v=.bool b∧b=isb s)))(d:Nat)(p:PTm)(t:Tm)(hd:d≤24)(w:World)(h:Hp)(g:G w h)(hT:TmH d h p t)(hS:SmT sm d t):CR 20 #[pX p] w h (fun v _=>∃ e:Int,v=iV e∧((WfT (fun s=>isb s=true) d t∧e=(if 1000<cb d t then 18 else 0))∨(¬WfT (fun s=>isb s=true) d t∧e=2))):=by
 have hs:=((sS g).add (K:=fun h_=>TmH d h_ p t) hT);refine go Tryz.func20 [(0,pX p)] rfl (av (lA 1 51 (pC p) hs (fun b1 w2 h3 hs=>lL hs [.v 2 (iV 0)] (ah (ab hs [.o 3 (pX p) 0 0 9] (ai 4 hs (pm sm d p t 24 _ _ hs.g hs.f.1 hS oM oM) (fun w4 h5 hs=>ag (cK (cQ (ab hs [.o 5 (pX p) 0 0 9] (lC 6 hs (mE isb sm hIs d p t _ _ hs.g hs.f.1 hS) ?_)))))))))));rintro _ w6 h7 hs ⟨bf,rfl,hbf⟩;cases hb8:(bf)
 ·
  exact lL hs [.v 7 qT] (ak (ab hs [.v 2 (iV 2)] (ae hs [] (iV 2) (⟨_,rfl,.inr ⟨fun h_=>Bool.noConfusion ((hbf.2 h_).symm.trans aM),rfl⟩⟩))))
 refine lL hs [.v 7 qF] (ag (cK (cQ (ab hs [.o 8 (pX p) 0 0 9] (ai 9 hs (mJ (fun s=>isb s=true) d p t _ _ hs.g hs.f.1 (hbf.1 aM)) (fun w9 _ hs=>?_))))));cases za:(decide ((1000:Int)<(((min (cb d t) 1001:Nat):Int):Int)))
 ·
  have zb:=oF za;exact lB 10 za (ag (cK (ab hs [.v 2 (iV 0)] (ae hs [] (iV 0) (⟨_,rfl,.inl ⟨hbf.1 aM,by split<;>omega⟩⟩)))))
 have zb:=oT za;exact lB 10 za (ak (ab hs [.v 2 (iV 18)] (ae hs [] (iV 18) (⟨_,rfl,.inl ⟨hbf.1 aM,by split<;>omega⟩⟩))))
theorem o9 (isb:ByteArray→Bool)(sm:ByteArray→Prop)(hIs:∀ s,sm s→∀ (w:World) (h:Hp),G w h→Calls Tryz.prog 72 #[.string s] w (Ret w h (fun v _=>∃ b,v=.bool b∧b=isb s)))(hsm:∀ s,isb s=true→sm s)(h0:sm ⟨#[]⟩)(d:Nat)(p:PTm)(t:Tm)(hd:d≤24)(w:World)(h:Hp)(g:G w h)(hT:TmH d h p t)(hW:WfT (fun s=>isb s=true) d t):Calls Tryz.prog 20 #[fe p] w (Ret w h (fun v _=>v=iV (if 1000<cb d t then 18 else 0))) :=
 (Aw isb sm hIs d p t hd w h g hT (hW.sm hsm h0)).mono fun e w' ⟨v,h',e1,u,e2,e3,e4⟩=>⟨v,h',e1,u,by
  rcases e4 with ⟨_,e4⟩|⟨e4,_⟩
  ·rw[e3,e4]
  ·exact absurd hW e4⟩
theorem wE (a:Rat)(n:Int)(K:Nat)(hK:14*K+20≤100000000)(ha:LQ K a)(hn : -13≤n∧n≤13)(hs:0≤n)(w:World)(h:Hp)(g:G w h)(tb:Tab h):CV 79 #[qv a,iV n] w h (.tuple #[qv (fa a n),.bool true]):=by
 have hs:=((sS g).aB tb);obtain ⟨m,hm⟩:∃ m:Nat,m=n.natAbs:=⟨_,rfl⟩;have hm13:m≤13:=by omega
 refine go Tryz.func79 [(0,qv a),(1,iV n)] rfl (av (lA 2 45 (qc a) hs (fun b1 w2 h3 hs=>lA 4 45 ([qF,uV 0,eS,uV 0,eS]) hs (fun b4 w5 h6 hs=>lL hs [.v 5 qF] (aG (ai 7 hs (Bh 1 oM oM _ _ hs.g) (fun w7 h8 hs=>lA 6 45 ([qF,uV 0,eS,uV 0,eS]) hs (fun b9 _ zd hs=>lP 0 0 (qc ((1:Int):Rat)) hs (fun _ hs=>ah (ab hs [.m 8 1,.m 9 1] (lI 10 (0-n) ?_)))))))))));refine lV 11 (iV (max (n:Int) (0-n:Int))) ?_ (hr:=aI (n:=(if (0-n:Int)>(n:Int) then (0-n:Int) else (n:Int))) kR (by simp only[qi]));refine lL hs [.v 12 (iV 0)] (a8 ?_);refine bI _ (CG.loop (fun μ_ Γ w_=>∃ (k:Nat) (h_:Hp),μ_=m-k∧Γ=[(1,iV n),(2,pB b1),(4,pB b4),(5,qF),(6,pB b9),(11,iV (max (n:Int) (0-n:Int))),(12,nV k)]∧SS w h w_ h_ [⟨b9,45,qc (bV a k)⟩,⟨b4,45,[qF,uV 0,eS,uV 0,eS]⟩,⟨b1,45,qc a⟩] [] [fun h_=>Tab h_]∧k≤m) _ ⟨0,zd,rfl,rfl,hs.to _ _,Nat.zero_le _⟩ ?_);rintro _ _ _ ⟨k,_,hm15,rfl,hs,hk⟩;have hkK:k*K≤13*K:=Nat.mul_le_mul_right _ oM;have hpk:=gl ha k;refine av ?_;cases za:(decide ((k:Int)<(max (n:Int) (0-n:Int):Int)))
 ·
  have zb:=oF za;refine lB 13 za (ah (cY (CG.exit ?_)))
  show CG _ _ _ _ _ _ _ _
  refine cQ (ab hs [.m 18 1] ?_);have ⟨zc,phb17⟩:=dT (p:=(0:Int)≤(n:Int)) oM;exact lB 19 zc (ak (ab hs [.o 20 (qv (bV a k)) 0 0 5] (lP 1 0 (qc (bV a k)) hs (fun _ hs=>lL hs [.v 5 qT] (ae hs [(1,0,5)] (.tuple #[qv (bV a k),qT]) (by unfold fa;rw[if_pos oM,show n.natAbs=k by omega]))))))
 have zb:=oT za;refine lB 13 za (ah (cl (cK (cQ (kZ (kQ (lL hs [.o 14 (qv (bV a k)) 0 0 5,.o 15 (qv a) 2 0 5] ?_)))))));have hq19:=LQ.mul hpk ha;refine ai 16 hs (uh (bV a k) a (LQ.mono hpk oM) (LQ.mono ha oM) _ _ hs.g hs.f.1) (fun _ ze hs=>lP 0 0 (qc ((bV a k)*a)) hs (fun _ hs=>lN (kQ (bn 17 ((k:Nat)+1) (k+1) ?_))));refine lL hs [.m 12 17] (lD ?_);intro a_ ka;refine ⟨_,_,?_,⟨k+1,ze,rfl,rfl,hs.to _ _,oM⟩,ka.to _ kR⟩
 omega
theorem xm (a:Rat)(n:Int)(K:Nat)(hK:14*K+20≤100000000)(ha:LQ K a)(hn : -13≤n∧n≤13)(hs:n<0)(ha0:a≠0)(w:World)(h:Hp)(g:G w h)(tb:Tab h):CV 79 #[qv a,iV n] w h (.tuple #[qv (fa a n),.bool true]):=by
 have hs:=((sS g).aB tb);obtain ⟨m,hm⟩:∃ m:Nat,m=n.natAbs:=⟨_,rfl⟩;have hm13:m≤13:=by omega
 refine go Tryz.func79 [(0,qv a),(1,iV n)] rfl (av (lA 2 45 (qc a) hs (fun b1 w2 h3 hs=>lA 4 45 ([qF,uV 0,eS,uV 0,eS]) hs (fun b4 w5 h6 hs=>lL hs [.v 5 qF] (aG (ai 7 hs (Bh 1 oM oM _ _ hs.g) (fun w7 h8 hs=>lA 6 45 ([qF,uV 0,eS,uV 0,eS]) hs (fun b9 _ zd hs=>lP 0 0 (qc ((1:Int):Rat)) hs (fun _ hs=>ah (ab hs [.m 8 1,.m 9 1] (lI 10 (0-n) ?_)))))))))));refine lV 11 (iV (max (n:Int) (0-n:Int))) ?_ (hr:=aI (n:=(if (0-n:Int)>(n:Int) then (0-n:Int) else (n:Int))) kR (by simp only[qi]));refine lL hs [.v 12 (iV 0)] (a8 ?_);refine bI _ (CG.loop (fun μ_ Γ w_=>∃ (k:Nat) (h_:Hp),μ_=m-k∧Γ=[(1,iV n),(2,pB b1),(4,pB b4),(5,qF),(6,pB b9),(11,iV (max (n:Int) (0-n:Int))),(12,nV k)]∧SS w h w_ h_ [⟨b9,45,qc (bV a k)⟩,⟨b4,45,[qF,uV 0,eS,uV 0,eS]⟩,⟨b1,45,qc a⟩] [] [fun h_=>Tab h_]∧k≤m) _ ⟨0,zd,rfl,rfl,hs.to _ _,Nat.zero_le _⟩ ?_);rintro _ _ _ ⟨k,_,hm15,rfl,hs,hk⟩;have hkK:k*K≤13*K:=Nat.mul_le_mul_right _ oM;have hpk:=gl ha k;refine av ?_;cases za:(decide ((k:Int)<(max (n:Int) (0-n:Int):Int)))
 ·
  have zb:=oF za;refine lB 13 za (ah (cY (CG.exit ?_)))
  show CG _ _ _ _ _ _ _ _
  refine cQ (ab hs [.m 18 1] ?_);have ⟨zc,phb17⟩:=dF (p:=(0:Int)≤(n:Int)) oM;refine lB 19 zc (ag (cK (cQ (cR 5 [] mixed hs ar ?_))));refine eO 1 22 [(0,0,5)] (qv (bV a k)) hs (aq 0 21 hs (fun _ _ hs=>Bh 1 oM oM _ _ hs.g) (fun _ _ hs=>?_));have hq20:=LQ.div (LQ.lit (z:=1) kD) hpk;exact aq 2 23 hs (fun _ _ hs=>rV ((1:Int):Rat) (bV a k) (LQ.mono (LQ.lit (z:=1) kD) oM) (LQ.mono hpk oM) (l5 (l8 ha0 k)) _ _ hs.g hs.f.1) (fun _ _ hs=>eV 3 24 (qv (((1:Int):Rat)/(bV a k))) (eV 4 25 qT (ce hs (fun _ _ hs=>tP 5 1 0 (qc (((1:Int):Rat)/(bV a k))) hs (fun _ hs=>tV 6 5 qT (tN (kX (hs.ret [(1,0,5)] (.tuple #[qv (((1:Int):Rat)/(bV a k)),qT]) (by unfold fa;rw[if_neg oM,show n.natAbs=k by omega])))))))))
 have zb:=oT za;refine lB 13 za (ah (cl (cK (cQ (kZ (kQ (lL hs [.o 14 (qv (bV a k)) 0 0 5,.o 15 (qv a) 2 0 5] ?_)))))));have hq26:=LQ.mul hpk ha;refine ai 16 hs (uh (bV a k) a (LQ.mono hpk oM) (LQ.mono ha oM) _ _ hs.g hs.f.1) (fun _ ze hs=>lP 0 0 (qc ((bV a k)*a)) hs (fun _ hs=>lN (kQ (bn 17 ((k:Nat)+1) (k+1) ?_))));refine lL hs [.m 12 17] (lD ?_);intro a_ ka;refine ⟨_,_,?_,⟨k+1,ze,rfl,rfl,hs.to _ _,oM⟩,ka.to _ kR⟩
 omega
theorem xN (a:Rat)(n:Int)(K:Nat)(hK:14*K+20≤100000000)(ha:LQ K a)(hn : -13≤n∧n≤13)(hs:n<0)(ha0:a=0)(w:World)(h:Hp)(g:G w h)(tb:Tab h):CV 79 #[qv a,iV n] w h (.tuple #[qv 0,.bool false]):=by
 have hs:=((sS g).aB tb);obtain ⟨m,hm⟩:∃ m:Nat,m=n.natAbs:=⟨_,rfl⟩;have hm13:m≤13:=by omega
 refine go Tryz.func79 [(0,qv a),(1,iV n)] rfl (av (lA 2 45 (qc a) hs (fun b1 w2 h3 hs=>lA 4 45 ([qF,uV 0,eS,uV 0,eS]) hs (fun b4 w5 h6 hs=>lL hs [.v 5 qF] (aG (ai 7 hs (Bh 1 oM oM _ _ hs.g) (fun w7 h8 hs=>lA 6 45 ([qF,uV 0,eS,uV 0,eS]) hs (fun b9 _ zd hs=>lP 0 0 (qc ((1:Int):Rat)) hs (fun _ hs=>ah (ab hs [.m 8 1,.m 9 1] (lI 10 (0-n) ?_)))))))))));refine lV 11 (iV (max (n:Int) (0-n:Int))) ?_ (hr:=aI (n:=(if (0-n:Int)>(n:Int) then (0-n:Int) else (n:Int))) kR (by simp only[qi]));refine lL hs [.v 12 (iV 0)] (a8 ?_);refine bI _ (CG.loop (fun μ_ Γ w_=>∃ (k:Nat) (h_:Hp),μ_=m-k∧Γ=[(1,iV n),(2,pB b1),(4,pB b4),(5,qF),(6,pB b9),(11,iV (max (n:Int) (0-n:Int))),(12,nV k)]∧SS w h w_ h_ [⟨b9,45,qc (bV a k)⟩,⟨b4,45,[qF,uV 0,eS,uV 0,eS]⟩,⟨b1,45,qc a⟩] [] [fun h_=>Tab h_]∧k≤m) _ ⟨0,zd,rfl,rfl,hs.to _ _,Nat.zero_le _⟩ ?_);rintro _ _ _ ⟨k,_,hm15,rfl,hs,hk⟩;have hkK:k*K≤13*K:=Nat.mul_le_mul_right _ oM;have hpk:=gl ha k;refine av ?_;cases za:(decide ((k:Int)<(max (n:Int) (0-n:Int):Int)))
 ·
  have zb:=oF za;refine lB 13 za (ah (cY (CG.exit ?_)))
  show CG _ _ _ _ _ _ _ _
  refine cQ (ab hs [.m 18 1] ?_);have ⟨zc,phb17⟩:=dF (p:=(0:Int)≤(n:Int)) oM;refine lB 19 zc (ag (cK (cQ (cR 5 [] mixed hs ar ?_))));exact eO 1 22 [(0,0,5)] (qv (bV a k)) hs (aq 0 21 hs (fun _ _ hs=>Bh 1 oM oM _ _ hs.g) (fun _ _ hs=>aq 2 23 hs (fun _ _ hs=>AA ((1:Int):Rat) (bV a k) (by rw[ha0];exact qZ oM) _ _ hs.g) (fun _ _ hs=>eV 3 24 (qv 0) (eV 4 25 qF (ce hs (fun _ _ hs=>tP 5 1 0 (qc 0) hs (fun _ hs=>tV 6 5 qF (tN (kX (hs.ret [(1,0,5)] (.tuple #[qv 0,qF]) rfl))))))))))
 have zb:=oT za;refine lB 13 za (ah (cl (cK (cQ (kZ (kQ (lL hs [.o 14 (qv (bV a k)) 0 0 5,.o 15 (qv a) 2 0 5] ?_)))))));have hq25:=LQ.mul hpk ha;refine ai 16 hs (uh (bV a k) a (LQ.mono hpk oM) (LQ.mono ha oM) _ _ hs.g hs.f.1) (fun _ ze hs=>lP 0 0 (qc ((bV a k)*a)) hs (fun _ hs=>lN (kQ (bn 17 ((k:Nat)+1) (k+1) ?_))));refine lL hs [.m 12 17] (lD ?_);intro a_ ka;refine ⟨_,_,?_,⟨k+1,ze,rfl,rfl,hs.to _ _,oM⟩,ka.to _ kR⟩
 omega
theorem Ds (a:Rat)(n:Int)(K:Nat)(hK:14*K+20≤100000000)(ha:LQ K a)(hn : -13≤n∧n≤13)(ho:n<0→a≠0)(w:World)(h:Hp)(g:G w h)(tb:Tab h):CV 79 #[qv a,iV n] w h (.tuple #[qv (fa a n),.bool true]):=by
 by_cases hs:0≤n
 ·exact wE a n K hK ha hn hs w h g tb
 ·exact xm a n K hK ha hn oM (ho oM) w h g tb
theorem wF (s:PTm)(a b:Rat)(K:Nat)(hK:14*K+20≤100000000)(ha:LQ K a)(hb:LQ K b)(hq:LQ 1 s.q)(hK1:1≤K)(hop:1≤s.op∧s.op≤13∧s.op≠2)(hn:s.op=8 → -12≤s.n∧s.n≤12)(hok:iH s.op s.n a b)(w:World)(h:Hp)(g:G w h)(tb:Tab h):CV 43 #[pX s,qv a,qv b] w h (.tuple #[qv (qh s.op s.n s.q a b),.bool true]):=by
 have hs:=((sS g).aB tb);refine go Tryz.func43 [(0,pX s),(1,qv a),(2,qv b)] rfl (av (lA 3 51 (pC s) hs (fun b1 w2 h3 hs=>lA 4 45 (qc a) hs (fun b4 w5 h6 hs=>lA 5 45 (qc b) hs (fun b7 w8 h9 hs=>lA 6 45 ([qF,uV 0,eS,uV 0,eS]) hs (fun b10 _ _ hs=>lL hs [.v 7 qF] (ah (ab hs [.v 8 (pB b1),.o 9 (iV s.op) 3 0 1] (a8 (av ?_))))))))));cases za:((s.op:Int) == (1:Int))
 ·
  have zp:=af za;refine lB 11 za (lL hs [.m 10 11] (ag (av ?_)));cases zb:((s.op:Int) == (3:Int))
  ·
   have zq:=af zb;refine lB 15 zb (lL hs [.m 14 15] (ag (av ?_)));cases zc:((s.op:Int) == (4:Int))
   ·
    have zr:=af zc;refine lB 20 zc (lL hs [.m 19 20] (ag (av ?_)));cases zd:((s.op:Int) == (5:Int))
    ·
     have zs:=af zd;refine lB 25 zd (lL hs [.m 24 25] (ag (av ?_)));cases ze:((s.op:Int) == (6:Int))
     ·
      have zt:=af ze;refine lB 30 ze (lL hs [.m 29 30] (ag (av ?_)));cases zf:((s.op:Int) == (7:Int))
      ·
       have zu:=af zf;refine lB 37 zf (lL hs [.m 36 37] (ag (av ?_)));cases zg:((s.op:Int) == (8:Int))
       ·
        have zv:=af zg;refine lB 41 zg (lL hs [.m 40 41] (ag (av ?_)));cases zi:((s.op:Int) == (9:Int))
        ·
         have zw:=af zi;refine lB 49 zi (lL hs [.m 48 49] (ag (av ?_)));cases zj:((s.op:Int) == (10:Int))
         ·
          have zx:=af zj;refine lB 53 zj (lL hs [.m 52 53] (ag (av ?_)));cases zk:((s.op:Int) == (11:Int))
          ·
           have zA:=af zk;refine lB 58 zk (lL hs [.m 57 58] (ag (av ?_)));cases zl:((s.op:Int) == (12:Int))
           ·
            have zB:=af zl;refine lB 68 zl (lL hs [.m 67 68] (ag (av ?_)));cases zm:((s.op:Int) == (13:Int))
            ·
             have zD:=af zm;refine lB 73 zm (lL hs [.m 72 73] (ag (cK (ab hs [.v 77 (.agg #[qF,uV 0,eS,uV 0,eS])] (lP 0 0 ([qF,uV 0,eS,uV 0,eS]) hs (fun _ hs=>lL hs [.v 7 qF] (lN (kX ?_))))))))
             exfalso;omega
            have zD:=eq_of_beq zm;exact lB 73 zm (lL hs [.m 72 73] (ak (ab hs [.o 74 (qv a) 2 0 5,.o 75 (qv b) 1 0 5] (ai 76 hs (FD a b (LQ.mono ha oM) (LQ.mono hb oM) _ _ hs.g) (fun _ _ hs=>lP 0 0 (qc (jO a b)) hs (fun _ hs=>lL hs [.v 7 qT] (ae hs [(0,0,5)] (.tuple #[qv (jO a b),qT]) (by rw[show s.op=13 by omega];rfl))))))))
           have zB:=eq_of_beq zl;exact lB 68 zl (lL hs [.m 67 68] (ak (ab hs [.o 69 (qv a) 2 0 5,.o 70 (qv b) 1 0 5] (ai 71 hs (Eb a b (LQ.mono ha oM) (LQ.mono hb oM) _ _ hs.g) (fun _ _ hs=>lP 0 0 (qc (maxR a b)) hs (fun _ hs=>lL hs [.v 7 qT] (ae hs [(0,0,5)] (.tuple #[qv (maxR a b),qT]) (by rw[show s.op=12 by omega];rfl))))))))
          have zA:=eq_of_beq zk;refine lB 58 zk (lL hs [.m 57 58] (ak (cQ (cR 8 [] mixed hs ar ?_))));refine eO 0 59 [(2,0,5)] (qv a) hs (eO 1 60 [(2,0,5)] (qv a) hs ?_);have zn:LQ (K) (db a):=LQ.abs ha;refine aq 2 61 hs (fun _ _ hs=>EM a (LQ.mono ha oM) _ _ hs.g) (fun _ _ hs=>aq 3 62 hs (fun _ _ hs=>Bh 1 oM oM _ _ hs.g) (fun _ _ hs=>?_));have zo:=LQ.add zn (LQ.lit (z:=1) kD);refine aq 4 63 hs (fun _ _ hs=>CK (db a) ((1:Int):Rat) (LQ.mono zn oM) (LQ.mono (LQ.lit (z:=1) kD) oM) _ _ hs.g hs.f.1) (fun _ _ hs=>?_);have hq40:=LQ.div ha zo;exact aq 5 64 hs (fun _ _ hs=>rV a ((db a)+((1:Int):Rat)) (LQ.mono ha oM) (LQ.mono zo oM) (oy a) _ _ hs.g hs.f.1) (fun _ _ hs=>eV 6 65 (qv (a/((db a)+((1:Int):Rat)))) (eV 7 66 qT (ce hs (fun _ _ hs=>tP 8 0 0 (qc (a/((db a)+((1:Int):Rat)))) hs (fun _ hs=>tV 9 7 qT (tN (kX (hs.ret [(0,0,5)] (.tuple #[qv (a/((db a)+((1:Int):Rat))),qT]) (by rw[show s.op=11 by omega];rfl)))))))))
         have zx:=eq_of_beq zj;exact lB 53 zj (lL hs [.m 52 53] (ak (ab hs [.o 54 (qv a) 2 0 5,.v 55 (qv 0)] (ai 56 hs (Eb a 0 (LQ.mono ha oM) (LQ.mono (LQ.lit (z:=0) kD) oM) _ _ hs.g) (fun _ _ hs=>lP 0 0 (qc (maxR a 0)) hs (fun _ hs=>lL hs [.v 7 qT] (ae hs [(0,0,5)] (.tuple #[qv (maxR a 0),qT]) (by rw[show s.op=10 by omega];rfl))))))))
        have zw:=eq_of_beq zi;refine lB 49 zi (lL hs [.m 48 49] (ak (ab hs [.o 50 (qv a) 2 0 5] ?_)));have hq49:LQ (K) (db a):=LQ.abs ha;exact ai 51 hs (EM a (LQ.mono ha oM) _ _ hs.g) (fun _ _ hs=>lP 0 0 (qc (db a)) hs (fun _ hs=>lL hs [.v 7 qT] (ae hs [(0,0,5)] (.tuple #[qv (db a),qT]) (by rw[show s.op=9 by omega];rfl))))
       have zv:=eq_of_beq zg;exact lB 41 zg (lL hs [.m 40 41] (ak (ab hs [.o 42 (qv a) 2 0 5,.v 43 (qP b1 1),.o 44 (iV s.n) 3 1 1] (ai 45 hs (Ds a s.n K hK ha (by have:=hn oM;omega) (hok.2 oM) _ _ hs.g hs.f.1) (fun _ _ hs=>lL hs [.v 46 (qv (fa a s.n)),.v 47 qT] (lP 0 0 (qc (fa a s.n)) hs (fun _ hs=>lL hs [.m 7 47] (ae hs [(0,0,5)] (.tuple #[qv (fa a s.n),qT]) (by rw[show s.op=8 by omega];rfl)))))))))
      have zu:=eq_of_beq zf;refine lB 37 zf (lL hs [.m 36 37] (ak (ab hs [.o 38 (qv a) 2 0 5] ?_)));have hq56:LQ (K) (-a):=LQ.neg ha;exact ai 39 hs (Ff a (LQ.mono ha oM) _ _ hs.g) (fun _ _ hs=>lP 0 0 (qc (-a)) hs (fun _ hs=>lL hs [.v 7 qT] (ae hs [(0,0,5)] (.tuple #[qv (-a),qT]) (by rw[show s.op=7 by omega];rfl))))
     have zt:=eq_of_beq ze;refine lB 30 ze (lL hs [.m 29 30] (ak (ab hs [.o 31 (qv a) 2 0 5,.o 32 (qv b) 1 0 5] ?_)));have hq60:=LQ.div ha hb;exact ai 33 hs (rV a b (LQ.mono ha oM) (LQ.mono hb oM) (l5 (hok.1 oM)) _ _ hs.g hs.f.1) (fun _ _ hs=>lL hs [.v 34 (qv (a/b)),.v 35 qT] (lP 0 0 (qc (a/b)) hs (fun _ hs=>lL hs [.m 7 35] (ae hs [(0,0,5)] (.tuple #[qv (a/b),qT]) (by rw[show s.op=6 by omega];rfl)))))
    have zs:=eq_of_beq zd;refine lB 25 zd (lL hs [.m 24 25] (ak (ab hs [.o 26 (qv a) 2 0 5,.o 27 (qv b) 1 0 5] ?_)));have hq64:=LQ.mul ha hb;exact ai 28 hs (uh a b (LQ.mono ha oM) (LQ.mono hb oM) _ _ hs.g hs.f.1) (fun _ _ hs=>lP 0 0 (qc (a*b)) hs (fun _ hs=>lL hs [.v 7 qT] (ae hs [(0,0,5)] (.tuple #[qv (a*b),qT]) (by rw[show s.op=5 by omega];rfl))))
   have zr:=eq_of_beq zc;refine lB 20 zc (lL hs [.m 19 20] (ak (ab hs [.o 21 (qv a) 2 0 5,.o 22 (qv b) 1 0 5] ?_)));have hq68:=LQ.sub ha hb;exact ai 23 hs (FH a b (LQ.mono ha oM) (LQ.mono hb oM) _ _ hs.g hs.f.1) (fun _ _ hs=>lP 0 0 (qc (a-b)) hs (fun _ hs=>lL hs [.v 7 qT] (ae hs [(0,0,5)] (.tuple #[qv (a-b),qT]) (by rw[show s.op=4 by omega];rfl))))
  have zq:=eq_of_beq zb;refine lB 15 zb (lL hs [.m 14 15] (ak (ab hs [.o 16 (qv a) 2 0 5,.o 17 (qv b) 1 0 5] ?_)));have hq72:=LQ.add ha hb;exact ai 18 hs (CK a b (LQ.mono ha oM) (LQ.mono hb oM) _ _ hs.g hs.f.1) (fun _ _ hs=>lP 0 0 (qc (a+b)) hs (fun _ hs=>lL hs [.v 7 qT] (ae hs [(0,0,5)] (.tuple #[qv (a+b),qT]) (by rw[show s.op=3 by omega];rfl))))
 have zp:=eq_of_beq za;exact lB 11 za (lL hs [.m 10 11] (ak (ab hs [.v 12 (qP b1 2),.o 13 (qv s.q) 3 2 5] (lP 0 0 (qc s.q) hs (fun _ hs=>lL hs [.v 7 qT] (ae hs [(0,0,5)] (.tuple #[qv s.q,qT]) (by rw[show s.op=1 by omega];rfl)))))))
theorem vZ (s:PTm)(a b:Rat)(K:Nat)(hK:14*K+20≤100000000)(ha:LQ K a)(hb:LQ K b)(hq:LQ 1 s.q)(hK1:1≤K)(hop:s.op=6)(hz6:b=0)(w:World)(h:Hp)(g:G w h)(tb:Tab h):CV 43 #[pX s,qv a,qv b] w h (.tuple #[qv 0,.bool false]):=by
 have hs:=((sS g).aB tb);refine go Tryz.func43 [(0,pX s),(1,qv a),(2,qv b)] rfl (av (lA 3 51 (pC s) hs (fun b1 w2 h3 hs=>lA 4 45 (qc a) hs (fun b4 w5 h6 hs=>lA 5 45 (qc b) hs (fun b7 w8 h9 hs=>lA 6 45 ([qF,uV 0,eS,uV 0,eS]) hs (fun b10 _ _ hs=>lL hs [.v 7 qF] (ah (ab hs [.v 8 (pB b1),.o 9 (iV s.op) 3 0 1] (a8 (av ?_))))))))));have za:((s.op:Int) == (1:Int))=false:=cw oM;have phb13:=af za;refine lB 11 za (lL hs [.m 10 11] (ag (av ?_)));have zb:((s.op:Int) == (3:Int))=false:=cw oM;have phb14:=af zb;refine lB 15 zb (lL hs [.m 14 15] (ag (av ?_)));have zc:((s.op:Int) == (4:Int))=false:=cw oM;have phb15:=af zc;refine lB 20 zc (lL hs [.m 19 20] (ag (av ?_)));have zd:((s.op:Int) == (5:Int))=false:=cw oM;have phb16:=af zd;refine lB 25 zd (lL hs [.m 24 25] (ag (av ?_)));have ze:((s.op:Int) == (6:Int))=true:=jg oM;have phb17:=eq_of_beq ze;exact lB 30 ze (lL hs [.m 29 30] (ak (ab hs [.o 31 (qv a) 2 0 5,.o 32 (qv b) 1 0 5] (ai 33 hs (AA a b hz6 _ _ hs.g) (fun _ _ hs=>lL hs [.v 34 (qv 0),.v 35 qF] (lP 0 0 (qc 0) hs (fun _ hs=>lL hs [.m 7 35] (ae hs [(0,0,5)] (.tuple #[qv 0,qF]) rfl))))))))
theorem xo (s:PTm)(a b:Rat)(K:Nat)(hK:14*K+20≤100000000)(ha:LQ K a)(hb:LQ K b)(hq:LQ 1 s.q)(hK1:1≤K)(hop:s.op=8)(hn : -12≤s.n∧s.n<0)(hz8:a=0)(w:World)(h:Hp)(g:G w h)(tb:Tab h):CV 43 #[pX s,qv a,qv b] w h (.tuple #[qv 0,.bool false]):=by
 have hs:=((sS g).aB tb);refine go Tryz.func43 [(0,pX s),(1,qv a),(2,qv b)] rfl (av (lA 3 51 (pC s) hs (fun b1 w2 h3 hs=>lA 4 45 (qc a) hs (fun b4 w5 h6 hs=>lA 5 45 (qc b) hs (fun b7 w8 h9 hs=>lA 6 45 ([qF,uV 0,eS,uV 0,eS]) hs (fun b10 _ _ hs=>lL hs [.v 7 qF] (ah (ab hs [.v 8 (pB b1),.o 9 (iV s.op) 3 0 1] (a8 (av ?_))))))))));have za:((s.op:Int) == (1:Int))=false:=cw oM;have phb13:=af za;refine lB 11 za (lL hs [.m 10 11] (ag (av ?_)));have zb:((s.op:Int) == (3:Int))=false:=cw oM;have phb14:=af zb;refine lB 15 zb (lL hs [.m 14 15] (ag (av ?_)));have zc:((s.op:Int) == (4:Int))=false:=cw oM;have phb15:=af zc;refine lB 20 zc (lL hs [.m 19 20] (ag (av ?_)));have zd:((s.op:Int) == (5:Int))=false:=cw oM;have phb16:=af zd;refine lB 25 zd (lL hs [.m 24 25] (ag (av ?_)));have ze:((s.op:Int) == (6:Int))=false:=cw oM;have phb17:=af ze;refine lB 30 ze (lL hs [.m 29 30] (ag (av ?_)));have zf:((s.op:Int) == (7:Int))=false:=cw oM;have phb18:=af zf;refine lB 37 zf (lL hs [.m 36 37] (ag (av ?_)));have zg:((s.op:Int) == (8:Int))=true:=jg oM;have phb19:=eq_of_beq zg;exact lB 41 zg (lL hs [.m 40 41] (ak (ab hs [.o 42 (qv a) 2 0 5,.v 43 (qP b1 1),.o 44 (iV s.n) 3 1 1] (ai 45 hs (xN a s.n K hK ha oM oM hz8 _ _ hs.g hs.f.1) (fun _ _ hs=>lL hs [.v 46 (qv 0),.v 47 qF] (lP 0 0 (qc 0) hs (fun _ hs=>lL hs [.m 7 47] (ae hs [(0,0,5)] (.tuple #[qv 0,qF]) rfl))))))))
theorem oJ (s:PTm)(a b:Rat)(K:Nat)(hK:14*K+20≤100000000)(ha:LQ K a)(hb:LQ K b)(hq:LQ 1 s.q)(hK1:1≤K)(hop:1≤s.op∧s.op≤13∧s.op≠2)(hn:s.op=8 → -12≤s.n∧s.n≤12)(w:World)(h:Hp)(g:G w h)(tb:Tab h):CV 43 #[fe s,qv a,qv b] w h (.tuple #[qv (f9 s.op s.n s.q a b),.bool (decide (iH s.op s.n a b))]):=by
 by_cases hok:iH s.op s.n a b
 ·unfold f9;rw[if_pos hok,decide_eq_true hok];exact wF s a b K hK ha hb hq hK1 hop hn hok w h g tb
 ·unfold f9;rw[if_neg hok,decide_eq_false hok]
  by_cases h6:s.op=6∧b=0
  ·exact vZ s a b K hK ha hb hq hK1 h6.1 h6.2 w h g tb
  ·by_cases h8:s.op=8∧s.n<0∧a=0
   ·exact xo s a b K hK ha hb hq hK1 h8.1 ⟨(hn h8.1).1,h8.2.1⟩ h8.2.2 w h g tb
   ·exact absurd ⟨fun x y=>h6 ⟨x,y⟩,fun x y z=>h8 ⟨x,y,z⟩⟩ hok
theorem DQ {p:Prop}[Decidable p](h:(!decide p)=false):p:=by simpa using h
theorem EO {p:Prop}[Decidable p](h:(!decide p)=true):¬p:=by simpa using h
theorem xL (LA:Option Addr)(cL:Nat)(L:List PLt)(d:Nat)(hLl:L.length≤1000)(cc:Nat)(hc3:3≤cc)(hcm:cc≤7000)(hLq:∀ i,LQ (cc-2) (L.getD i bK).q)(n:Int)(q:Rat)(s:ByteArray)(A:Option Addr)(c:Nat)(ps:List PTm)(ks:List Tm)(w:World)(h:Hp)(g:G w h)(hK:SlO 9 dg aU h A ps)(hL:SlO 6 mH bK h LA L):CV 21 #[pW 2 n q s A ps.length c,.slice LA L.length cL] w h (.tuple #[qv (aD L (d+1) (.mk 2 n q s ks)).2,iV (aD L (d+1) (.mk 2 n q s ks)).1]):=by
 have hs:=(((sS g).aS hK).aS hL);refine go Tryz.func21 [(0,pW 2 n q s A ps.length c),(1,qS LA L.length cL)] rfl (av (lA 2 51 (pG 2 n q s A ps.length c) hs (fun b1 w2 h3 hs=>lA 4 45 ([qF,uV 0,eS,uV 0,eS]) hs (fun b4 w5 h6 hs=>lL hs [.v 5 (iV 0)] (ah (ab hs [.v 15 (pB b1),.o 16 (iV 2) 1 0 1,.v 17 qT] (ak (cQ (ab hs [.m 18 1,.v 19 (nV L.length),.v 20 (iV 0)] (a8 ?_))))))))));refine bI _ (CG.loop (fun μ_ Γ w_=>∃ (k:Nat) (h_:Hp),μ_=L.length-k∧Γ=[(1,qS LA L.length cL),(2,pB b1),(4,pB b4),(18,qS LA L.length cL),(19,nV L.length),(20,nV k)]∧SS w h w_ h_ [⟨b4,45,[qF,uV 0,eS,uV 0,eS]⟩,⟨b1,51,pG 2 n q s A ps.length c⟩] [] [fun h_=>SlO 6 mH bK h_ LA L,fun h_=>SlO 9 dg aU h_ A ps]∧k≤L.length∧(∀ i,i<k→(L.getD i bK).s≠s)) _ ⟨0,h6,rfl,rfl,hs.to _ _,Nat.zero_le _,(fun i hi=>absurd hi (Nat.not_lt_zero i))⟩ ?_);rintro _ _ w7 ⟨k,h8,hm9,rfl,hs,hk,hno⟩;refine av ?_;cases za:(decide ((k:Int)<(L.length:Int)))
 ·
  have zc:=oF za;refine lB 21 za (ah (cY (CG.exit ?_)))
  show CG _ _ _ _ _ _ _ _
  refine ab hs [.v 32 (.agg #[qF,uV 0,eS,uV 0,eS])] (lP 0 0 ([qF,uV 0,eS,uV 0,eS]) hs (fun _ hs=>lL hs [.v 5 (iV 11)] (lN (kX ?_))));have hkn:k=L.length:=by omega
  rw[hkn] at hno
  exact hs.ret [(0,0,5)] (.tuple #[.agg #[qF,uV 0,eS,uV 0,eS],iV 11]) (by rw[oO rfl (oQ hno)];rfl)
 have zc:=oT za;refine lB 21 za (ah (cl (cK (cQ (kZ (av (lX 22 LA L.length cL 6 (k:Nat) k ((hs.f.1).ok oM) ?_)))))));refine lH 23 (.agg #[.string ((L.getD k bK).s),.bool (ac ((L.getD k bK).q).num),uV (lo (aa ((L.getD k bK).q).num)),.string (hi (aa ((L.getD k bK).q).num)),uV (lo (qd ((L.getD k bK).q))),.string (hi (qd ((L.getD k bK).q)))]) hs ((hs.f.1).el k oM) (lA 7 72 ([eS,qF,uV 0,eS,uV 0,eS]) hs (fun ze _ zf hs=>lP 0 0 ([.string ((L.getD k bK).s),.bool (ac ((L.getD k bK).q).num),uV (lo (aa ((L.getD k bK).q).num)),.string (hi (aa ((L.getD k bK).q).num)),uV (lo (qd ((L.getD k bK).q))),.string (hi (qd ((L.getD k bK).q)))]) hs (fun _ hs=>aG (lL hs [.v 24 (pB ze),.o 25 (.string ((L.getD k bK).s)) 0 0 1,.v 26 (qP b1 7),.o 27 (.string s) 2 7 1] ?_))));cases zb:(jj ((L.getD k bK).s) s)
 ·
  have zd:=fX zb;refine lB 28 zb (ag (cK (kQ (bn 31 ((k:Nat)+1) (k+1) ?_))));refine lL hs [.m 20 31] (lD ?_);intro a_ ka;replace hs:=hs.drop 1 0;refine ⟨_,_,?_,⟨k+1,zf,rfl,rfl,hs.to _ _,oM,(fun i hi=>by rcases Nat.lt_succ_iff_lt_or_eq.1 hi with h_|rfl;exact hno i h_;assumption)⟩,ka.to _ kR⟩
  omega
 have zd:=fY zb;exact lB 28 zb (ak (ab hs [.v 29 (qP ze 1),.o 30 (qv ((L.getD k bK).q)) 0 1 5] (lP 1 0 (qc ((L.getD k bK).q)) hs (fun _ hs=>lL hs [.v 5 (iV 0)] (ae hs [(1,0,5)] (.tuple #[qv ((L.getD k bK).q),iV 0]) (by rw[oo rfl (oe hno oM aM)]))))))
theorem xI  (ok:ByteArray→Prop)(d:Nat)(LA:Option Addr)(cL:Nat)(L:List PLt)(hLl:L.length≤1000)(cc:Nat)(hc3:3≤cc)(hcm:cc≤7000)(hLq:∀ i,LQ (cc-2) (L.getD i bK).q)(ih:∀ (p:PTm) (t:Tm) (w:World) (h:Hp),G w h→TmH d h p t→WfT ok d t→cb d t≤1000→SlO 6 mH bK h LA L→Tab h→Calls Tryz.prog 21 #[fe p,.slice LA L.length cL] w (Ret w h (fun v _=>v=.tuple #[qv (aD L d t).2,iV (aD L d t).1])))(op n:Int)(q:Rat)(s:ByteArray)(A:Option Addr)(c:Nat)(hop:1≤op∧op≤13∧op≠2)(hn : -12≤n∧n≤12)(hq:LQ 1 q)(w:World)(h:Hp)(g:G w h)(hK:SlO 9 dg aU h A ([]:List PTm))(hL:SlO 6 mH bK h LA L)(tb:Tab h):CV 21 #[pW op n q s A 0 c,.slice LA L.length cL] w h (.tuple #[qv (aD L (d+1) (.mk op n q s ([]:List Tm))).2,iV (aD L (d+1) (.mk op n q s ([]:List Tm))).1]):=by
 have hs:=((((sS g).aS hK).aS hL).aB tb);have hln:([]:List PTm).length=0:=rfl;refine go Tryz.func21 [(0,pW op n q s A 0 c),(1,qS LA L.length cL)] rfl (av (lA 2 51 (pG op n q s A 0 c) hs (fun b1 w2 h3 hs=>lA 4 45 ([qF,uV 0,eS,uV 0,eS]) hs (fun b4 w5 h6 hs=>lL hs [.v 5 (iV 0)] (ah (ab hs [.v 15 (pB b1),.o 16 (iV op) 1 0 1] ?_))))));have hb7:((op:Int) == (2:Int))=false:=cw oM;have phb7:=af hb7;refine lB 17 hb7 (ag (cK (av (lA 8 102 ([qF,uV 0,eS,uV 0,eS,qF,uV 0,eS,uV 0,eS]) hs (fun b8 w9 _ hs=>ah (ab hs [.v 33 (qP b1 8),.o 34 (qS A 0 c) 2 8 1,.v 35 (iV 0),.v 36 (iV 0)] (a8 (cU ?_))))))));refine cN (ab hs [.v 37 qF] (ah (cY (CG.exit ?_))))
 show CG _ _ _ _ _ _ _ _
 refine ab hs [.o 56 (pW op n q s A 0 c) 2 0 9,.v 57 (pB b8),.o 58 (qv 0) 0 0 5,.v 59 (qP b8 5),.o 60 (qv 0) 0 5 5] (ai 61 hs (oJ (⟨op,n,q,s,A,0,c⟩:PTm) 0 0 (cc*1000) oM (rN oM) (rN oM) hq oM (by show 1≤op∧op≤13∧op≠2;omega) (by show op=8 → -12≤n∧n≤12;omega) _ _ hs.g hs.f.1) (fun _ _ hs=>lL hs [.m 55 61,.v 62 (qv (f9 op n q 0 0)),.v 63 (.bool (decide (iH op n 0 0)))] (lA 13 45 ([qF,uV 0,eS,uV 0,eS]) hs (fun b13 _ _ hs=>lP 0 0 (qc (f9 op n q 0 0)) hs (fun _ hs=>lL hs [.m 14 63] (ah (ab hs [.m 64 14] ?_)))))));cases za:(!(decide (iH op n 0 0)))
 ·
  exact lB 65 za (ag (cK (ab hs [.o 67 (qv (f9 op n q 0 0)) 0 0 5] (lP 2 0 (qc (f9 op n q 0 0)) hs (fun _ hs=>lL hs [.v 5 (iV 0)] (ae hs [(2,0,5)] (.tuple #[qv (f9 op n q 0 0),iV 0]) (by rw[pF oM,j0 oM oM (DQ aM)])))))))
 exact lB 65 za (ak (ab hs [.v 66 (.agg #[qF,uV 0,eS,uV 0,eS])] (lP 2 0 ([qF,uV 0,eS,uV 0,eS]) hs (fun _ hs=>lL hs [.v 5 (iV 6)] (ae hs [(2,0,5)] (.tuple #[.agg #[qF,uV 0,eS,uV 0,eS],iV 6]) (by rw[pF oM,nw oM oM (EO aM)];rfl))))))
theorem wk  (ok:ByteArray→Prop)(d:Nat)(LA:Option Addr)(cL:Nat)(L:List PLt)(hLl:L.length≤1000)(cc:Nat)(hc3:3≤cc)(hcm:cc≤7000)(hLq:∀ i,LQ (cc-2) (L.getD i bK).q)(ih:∀ (p:PTm) (t:Tm) (w:World) (h:Hp),G w h→TmH d h p t→WfT ok d t→cb d t≤1000→SlO 6 mH bK h LA L→Tab h→Calls Tryz.prog 21 #[fe p,.slice LA L.length cL] w (Ret w h (fun v _=>v=.tuple #[qv (aD L d t).2,iV (aD L d t).1])))(op n:Int)(q:Rat)(s:ByteArray)(A:Option Addr)(c:Nat)(p1:PTm)(t1:Tm)(hw1:WfT ok d t1)(hg1:cb d t1≤1000)(hv1:LQ (cc*1000) (aD L d t1).2)(hop:1≤op∧op≤13∧op≠2)(hn : -12≤n∧n≤12)(hq:LQ 1 q)(w:World)(h:Hp)(g:G w h)(hK:SlO 9 dg aU h A ([p1]:List PTm))(hp1:TmH d h p1 t1)(hL:SlO 6 mH bK h LA L)(tb:Tab h):CV 21 #[pW op n q s A 1 c,.slice LA L.length cL] w h (.tuple #[qv (aD L (d+1) (.mk op n q s ([t1]:List Tm))).2,iV (aD L (d+1) (.mk op n q s ([t1]:List Tm))).1]):=by
 have hs:=(((((sS g).aS hK).add (K:=fun h_=>TmH d h_ p1 t1) hp1).aS hL).aB tb);have hln:([p1]:List PTm).length=1:=rfl;refine go Tryz.func21 [(0,pW op n q s A 1 c),(1,qS LA L.length cL)] rfl (av (lA 2 51 (pG op n q s A 1 c) hs (fun b1 w2 h3 hs=>lA 4 45 ([qF,uV 0,eS,uV 0,eS]) hs (fun b4 w5 h6 hs=>lL hs [.v 5 (iV 0)] (ah (ab hs [.v 15 (pB b1),.o 16 (iV op) 1 0 1] ?_))))));have hb7:((op:Int) == (2:Int))=false:=cw oM;have phb7:=af hb7;refine lB 17 hb7 (ag (cK (av (lA 8 102 ([qF,uV 0,eS,uV 0,eS,qF,uV 0,eS,uV 0,eS]) hs (fun b8 w9 _ hs=>ah (ab hs [.v 33 (qP b1 8),.o 34 (qS A 1 c) 2 8 1,.v 35 (iV 1),.v 36 (iV 0)] (a8 (cU ?_))))))));refine cN (ab hs [.v 37 qT] (ah (cl (cK (cQ (kZ (ab hs [.m 38 36] (lX 39 A 1 c 9 0 0 ((hs.f.r.2.1).ok oM) ?_))))))));refine lH 40 (pX (([p1]:List PTm).getD 0 aU)) hs ((hs.f.r.2.1).el 0 oM) (lA 10 51 ([iV 0,iV 0,qF,uV 0,eS,uV 0,eS,eS,sZ]) hs (fun zd _ _ hs=>lL hs [.m 9 38] (lP 0 0 (pC (([p1]:List PTm).getD 0 aU)) hs (fun _ hs=>aG (lL hs [.o 42 (pX (([p1]:List PTm).getD 0 aU)) 0 0 9,.m 43 1] (ai 44 hs (ih (([p1]:List PTm).getD 0 aU) t1 _ _ hs.g hs.f.r.1 hw1 hg1 hs.f.2.1 hs.f.1) (fun _ _ hs=>lL hs [.m 41 44,.v 45 (qv ((aD L d t1).2)),.v 46 (iV ((aD L d t1).1))] (lA 11 45 ([qF,uV 0,eS,uV 0,eS]) hs (fun ze _ _ hs=>lP 0 0 (qc ((aD L d t1).2)) hs (fun _ hs=>lL hs [.m 12 46] (ah (ab hs [.m 47 12] ?_))))))))))));cases za:(((aD L d t1).1:Int) != (0:Int))
 ·
  have zc:=aY za;refine lB 48 za (ag (cK (kQ (lL hs [.m 51 9,.o 52 (qv ((aD L d t1).2)) 0 0 5,.v 53 (pB b8)] (lP 2 0 (qc ((aD L d t1).2)) hs (fun _ hs=>lN (kQ (lL hs [.v 54 (iV 1),.m 36 54] (lD (CL.to [(1,qS LA L.length cL),(2,pB b1),(4,pB b4),(5,iV 0),(8,pB b8),(34,qS A 1 c),(35,iV 1),(36,iV 1),(37,qT),(38,iV 0),(39,.pointer (some ⟨(aB A),aO A+0*9,none⟩)),(40,pX (([p1]:List PTm).getD 0 aU)),(10,pB zd),(9,iV 0),(42,pX (([p1]:List PTm).getD 0 aU)),(43,qS LA L.length cL),(44,.tuple #[qv ((aD L d t1).2),iV ((aD L d t1).1)]),(41,.tuple #[qv ((aD L d t1).2),iV ((aD L d t1).1)]),(45,qv ((aD L d t1).2)),(46,iV ((aD L d t1).1)),(11,pB ze),(12,iV ((aD L d t1).1)),(47,iV ((aD L d t1).1)),(48,qF),(51,iV 0),(52,qv ((aD L d t1).2)),(53,pB b8),(54,iV 1)] ?_))))))))));replace hs:=hs.to [⟨ze,45,qc ((aD L d t1).2)⟩,⟨zd,51,pC (([p1]:List PTm).getD 0 aU)⟩,⟨b8,102,[.bool (ac ((aD L d t1).2).num),uV (lo (aa ((aD L d t1).2).num)),.string (hi (aa ((aD L d t1).2).num)),uV (lo (qd ((aD L d t1).2))),.string (hi (qd ((aD L d t1).2))),qF,uV 0,eS,uV 0,eS]⟩,⟨b4,45,[qF,uV 0,eS,uV 0,eS]⟩,⟨b1,51,pG op n q s A 1 c⟩] [];refine cN (ab hs [.v 37 qF] (ah (cY (CG.exit ?_))))
  show CG _ _ _ _ _ _ _ _
  refine ab hs [.o 56 (pW op n q s A 1 c) 4 0 9,.v 57 (pB b8),.o 58 (qv ((aD L d t1).2)) 2 0 5,.v 59 (qP b8 5),.o 60 (qv 0) 2 5 5] (ai 61 hs (oJ (⟨op,n,q,s,A,1,c⟩:PTm) ((aD L d t1).2) 0 (cc*1000) oM hv1 (rN oM) hq oM (by show 1≤op∧op≤13∧op≠2;omega) (by show op=8 → -12≤n∧n≤12;omega) _ _ hs.g hs.f.1) (fun _ _ hs=>lL hs [.m 55 61,.v 62 (qv (f9 op n q ((aD L d t1).2) 0)),.v 63 (.bool (decide (iH op n ((aD L d t1).2) 0)))] (lA 13 45 ([qF,uV 0,eS,uV 0,eS]) hs (fun zf _ _ hs=>lP 0 0 (qc (f9 op n q ((aD L d t1).2) 0)) hs (fun _ hs=>lL hs [.m 14 63] (ah (ab hs [.m 64 14] ?_)))))));cases zb:(!(decide (iH op n ((aD L d t1).2) 0)))
  ·
   refine lB 65 zb (lN (bI [(4,pB b4),(5,iV 0),(13,pB zf),(65,qF)] ?_));exact cY (cK (ab hs [.o 67 (qv (f9 op n q ((aD L d t1).2) 0)) 0 0 5] (lP 4 0 (qc (f9 op n q ((aD L d t1).2) 0)) hs (fun _ hs=>lL hs [.v 5 (iV 0)] (ae hs [(4,0,5)] (.tuple #[qv (f9 op n q ((aD L d t1).2) 0),iV 0]) (by rw[kp oM,j0 oM oM (DQ aM)]))))))
  refine lB 65 zb (lN (bI [(4,pB b4),(5,iV 0),(13,pB zf),(65,qT)] ?_));exact cl (ab hs [.v 66 (.agg #[qF,uV 0,eS,uV 0,eS])] (lP 4 0 ([qF,uV 0,eS,uV 0,eS]) hs (fun _ hs=>lL hs [.v 5 (iV 6)] (ae hs [(4,0,5)] (.tuple #[.agg #[qF,uV 0,eS,uV 0,eS],iV 6]) (by rw[kp oM,nw oM oM (EO aM)];rfl)))))
 have zc:=ay za;exact lB 48 za (ak (ab hs [.v 49 (.agg #[qF,uV 0,eS,uV 0,eS]),.m 50 12] (lP 3 0 ([qF,uV 0,eS,uV 0,eS]) hs (fun _ hs=>lL hs [.m 5 50] (ae hs [(3,0,5)] (.tuple #[.agg #[qF,uV 0,eS,uV 0,eS],iV ((aD L d t1).1)]) (by rw[kp oM,pe oM];rfl))))))
theorem Ap  (ok:ByteArray→Prop)(d:Nat)(LA:Option Addr)(cL:Nat)(L:List PLt)(hLl:L.length≤1000)(cc:Nat)(hc3:3≤cc)(hcm:cc≤7000)(hLq:∀ i,LQ (cc-2) (L.getD i bK).q)(ih:∀ (p:PTm) (t:Tm) (w:World) (h:Hp),G w h→TmH d h p t→WfT ok d t→cb d t≤1000→SlO 6 mH bK h LA L→Tab h→Calls Tryz.prog 21 #[fe p,.slice LA L.length cL] w (Ret w h (fun v _=>v=.tuple #[qv (aD L d t).2,iV (aD L d t).1])))(op n:Int)(q:Rat)(s:ByteArray)(A:Option Addr)(c:Nat)(p1:PTm)(t1:Tm)(hw1:WfT ok d t1)(hg1:cb d t1≤1000)(hv1:LQ (cc*1000) (aD L d t1).2)(p2:PTm)(t2:Tm)(hw2:WfT ok d t2)(hg2:cb d t2≤1000)(hv2:LQ (cc*1000) (aD L d t2).2)(hop:1≤op∧op≤13∧op≠2)(hn : -12≤n∧n≤12)(hq:LQ 1 q)(w:World)(h:Hp)(g:G w h)(hK:SlO 9 dg aU h A ([p1,p2]:List PTm))(hp1:TmH d h p1 t1)(hp2:TmH d h p2 t2)(hL:SlO 6 mH bK h LA L)(tb:Tab h):CV 21 #[pW op n q s A 2 c,.slice LA L.length cL] w h (.tuple #[qv (aD L (d+1) (.mk op n q s ([t1,t2]:List Tm))).2,iV (aD L (d+1) (.mk op n q s ([t1,t2]:List Tm))).1]):=by
 have hs:=((((((sS g).aS hK).add (K:=fun h_=>TmH d h_ p1 t1) hp1).add (K:=fun h_=>TmH d h_ p2 t2) hp2).aS hL).aB tb);have hln:([p1,p2]:List PTm).length=2:=rfl;refine go Tryz.func21 [(0,pW op n q s A 2 c),(1,qS LA L.length cL)] rfl (av (lA 2 51 (pG op n q s A 2 c) hs (fun b1 w2 h3 hs=>lA 4 45 ([qF,uV 0,eS,uV 0,eS]) hs (fun b4 w5 h6 hs=>lL hs [.v 5 (iV 0)] (ah (ab hs [.v 15 (pB b1),.o 16 (iV op) 1 0 1] ?_))))));have hb7:((op:Int) == (2:Int))=false:=cw oM;have phb7:=af hb7;refine lB 17 hb7 (ag (cK (av (lA 8 102 ([qF,uV 0,eS,uV 0,eS,qF,uV 0,eS,uV 0,eS]) hs (fun b8 w9 _ hs=>ah (ab hs [.v 33 (qP b1 8),.o 34 (qS A 2 c) 2 8 1,.v 35 (iV 2),.v 36 (iV 0)] (a8 (cU ?_))))))));refine cN (ab hs [.v 37 qT] (ah (cl (cK (cQ (kZ (ab hs [.m 38 36] (lX 39 A 2 c 9 0 0 ((hs.f.q.1).ok oM) ?_))))))));refine lH 40 (pX (([p1,p2]:List PTm).getD 0 aU)) hs ((hs.f.q.1).el 0 oM) (lA 10 51 ([iV 0,iV 0,qF,uV 0,eS,uV 0,eS,eS,sZ]) hs (fun zc _ _ hs=>lL hs [.m 9 38] (lP 0 0 (pC (([p1,p2]:List PTm).getD 0 aU)) hs (fun _ hs=>aG (lL hs [.o 42 (pX (([p1,p2]:List PTm).getD 0 aU)) 0 0 9,.m 43 1] (ai 44 hs (ih (([p1,p2]:List PTm).getD 0 aU) t1 _ _ hs.g hs.f.r.2.1 hw1 hg1 hs.f.2.1 hs.f.1) (fun _ _ hs=>lL hs [.m 41 44,.v 45 (qv ((aD L d t1).2)),.v 46 (iV ((aD L d t1).1))] (lA 11 45 ([qF,uV 0,eS,uV 0,eS]) hs (fun zd _ _ hs=>lP 0 0 (qc ((aD L d t1).2)) hs (fun _ hs=>lL hs [.m 12 46] (ah (ab hs [.m 47 12] ?_))))))))))));cases za:(((aD L d t1).1:Int) != (0:Int))
 ·
  have zf:=aY za;refine lB 48 za (ag (cK (kQ (lL hs [.m 51 9,.o 52 (qv ((aD L d t1).2)) 0 0 5,.v 53 (pB b8)] (lP 2 0 (qc ((aD L d t1).2)) hs (fun _ hs=>lN (kQ (lL hs [.v 54 (iV 1),.m 36 54] (lD (CL.to [(1,qS LA L.length cL),(2,pB b1),(4,pB b4),(5,iV 0),(8,pB b8),(34,qS A 2 c),(35,iV 2),(36,iV 1),(37,qT),(38,iV 0),(39,.pointer (some ⟨(aB A),aO A+0*9,none⟩)),(40,pX (([p1,p2]:List PTm).getD 0 aU)),(10,pB zc),(9,iV 0),(42,pX (([p1,p2]:List PTm).getD 0 aU)),(43,qS LA L.length cL),(44,.tuple #[qv ((aD L d t1).2),iV ((aD L d t1).1)]),(41,.tuple #[qv ((aD L d t1).2),iV ((aD L d t1).1)]),(45,qv ((aD L d t1).2)),(46,iV ((aD L d t1).1)),(11,pB zd),(12,iV ((aD L d t1).1)),(47,iV ((aD L d t1).1)),(48,qF),(51,iV 0),(52,qv ((aD L d t1).2)),(53,pB b8),(54,iV 1)] ?_))))))))));replace hs:=hs.to [⟨zd,45,qc ((aD L d t1).2)⟩,⟨zc,51,pC (([p1,p2]:List PTm).getD 0 aU)⟩,⟨b8,102,[.bool (ac ((aD L d t1).2).num),uV (lo (aa ((aD L d t1).2).num)),.string (hi (aa ((aD L d t1).2).num)),uV (lo (qd ((aD L d t1).2))),.string (hi (qd ((aD L d t1).2))),qF,uV 0,eS,uV 0,eS]⟩,⟨b4,45,[qF,uV 0,eS,uV 0,eS]⟩,⟨b1,51,pG op n q s A 2 c⟩] [];refine cN (ab hs [.v 37 qT] (ah (cl (cK (cQ (kZ (ab hs [.m 38 36] (lX 39 A 2 c 9 1 1 ((hs.f.q.1).ok oM) ?_))))))));refine lH 40 (pX (([p1,p2]:List PTm).getD 1 aU)) hs ((hs.f.q.1).el 1 oM) (lA 10 51 ([iV 0,iV 0,qF,uV 0,eS,uV 0,eS,eS,sZ]) hs (fun zi _ _ hs=>lL hs [.m 9 38] (lP 0 0 (pC (([p1,p2]:List PTm).getD 1 aU)) hs (fun _ hs=>aG (lL hs [.o 42 (pX (([p1,p2]:List PTm).getD 1 aU)) 0 0 9,.m 43 1] (ai 44 hs (ih (([p1,p2]:List PTm).getD 1 aU) t2 _ _ hs.g hs.f.r.1 hw2 hg2 hs.f.2.1 hs.f.1) (fun _ _ hs=>lL hs [.m 41 44,.v 45 (qv ((aD L d t2).2)),.v 46 (iV ((aD L d t2).1))] (lA 11 45 ([qF,uV 0,eS,uV 0,eS]) hs (fun zj _ _ hs=>lP 0 0 (qc ((aD L d t2).2)) hs (fun _ hs=>lL hs [.m 12 46] (ah (ab hs [.m 47 12] ?_))))))))))));cases zb:(((aD L d t2).1:Int) != (0:Int))
  ·
   have zg:=aY zb;refine lB 48 zb (ag (cK (kQ (lL hs [.m 51 9,.o 52 (qv ((aD L d t2).2)) 0 0 5,.v 53 (qP b8 5)] (lP 4 5 (qc ((aD L d t2).2)) hs (fun _ hs=>lN (kQ (lL hs [.v 54 (iV 2),.m 36 54] (lD (CL.to [(1,qS LA L.length cL),(2,pB b1),(4,pB b4),(5,iV 0),(8,pB b8),(34,qS A 2 c),(35,iV 2),(36,iV 2),(37,qT),(38,iV 1),(39,.pointer (some ⟨(aB A),aO A+1*9,none⟩)),(40,pX (([p1,p2]:List PTm).getD 1 aU)),(10,pB zi),(9,iV 1),(42,pX (([p1,p2]:List PTm).getD 1 aU)),(43,qS LA L.length cL),(44,.tuple #[qv ((aD L d t2).2),iV ((aD L d t2).1)]),(41,.tuple #[qv ((aD L d t2).2),iV ((aD L d t2).1)]),(45,qv ((aD L d t2).2)),(46,iV ((aD L d t2).1)),(11,pB zj),(12,iV ((aD L d t2).1)),(47,iV ((aD L d t2).1)),(48,qF),(51,iV 1),(52,qv ((aD L d t2).2)),(53,qP b8 5),(54,iV 2)] ?_))))))))));replace hs:=hs.to [⟨zj,45,qc ((aD L d t2).2)⟩,⟨zi,51,pC (([p1,p2]:List PTm).getD 1 aU)⟩,⟨zd,45,qc ((aD L d t1).2)⟩,⟨zc,51,pC (([p1,p2]:List PTm).getD 0 aU)⟩,⟨b8,102,[.bool (ac ((aD L d t1).2).num),uV (lo (aa ((aD L d t1).2).num)),.string (hi (aa ((aD L d t1).2).num)),uV (lo (qd ((aD L d t1).2))),.string (hi (qd ((aD L d t1).2))),.bool (ac ((aD L d t2).2).num),uV (lo (aa ((aD L d t2).2).num)),.string (hi (aa ((aD L d t2).2).num)),uV (lo (qd ((aD L d t2).2))),.string (hi (qd ((aD L d t2).2)))]⟩,⟨b4,45,[qF,uV 0,eS,uV 0,eS]⟩,⟨b1,51,pG op n q s A 2 c⟩] [];refine cN (ab hs [.v 37 qF] (ah (cY (CG.exit ?_))))
   show CG _ _ _ _ _ _ _ _
   refine ab hs [.o 56 (pW op n q s A 2 c) 6 0 9,.v 57 (pB b8),.o 58 (qv ((aD L d t1).2)) 4 0 5,.v 59 (qP b8 5),.o 60 (qv ((aD L d t2).2)) 4 5 5] (ai 61 hs (oJ (⟨op,n,q,s,A,2,c⟩:PTm) ((aD L d t1).2) ((aD L d t2).2) (cc*1000) oM hv1 hv2 hq oM (by show 1≤op∧op≤13∧op≠2;omega) (by show op=8 → -12≤n∧n≤12;omega) _ _ hs.g hs.f.1) (fun _ _ hs=>lL hs [.m 55 61,.v 62 (qv (f9 op n q ((aD L d t1).2) ((aD L d t2).2))),.v 63 (.bool (decide (iH op n ((aD L d t1).2) ((aD L d t2).2))))] (lA 13 45 ([qF,uV 0,eS,uV 0,eS]) hs (fun zk _ _ hs=>lP 0 0 (qc (f9 op n q ((aD L d t1).2) ((aD L d t2).2))) hs (fun _ hs=>lL hs [.m 14 63] (ah (ab hs [.m 64 14] ?_)))))));cases ze:(!(decide (iH op n ((aD L d t1).2) ((aD L d t2).2))))
   ·
    refine lB 65 ze (lN (bI [(4,pB b4),(5,iV 0),(13,pB zk),(65,qF)] ?_));exact cY (cK (ab hs [.o 67 (qv (f9 op n q ((aD L d t1).2) ((aD L d t2).2))) 0 0 5] (lP 6 0 (qc (f9 op n q ((aD L d t1).2) ((aD L d t2).2))) hs (fun _ hs=>lL hs [.v 5 (iV 0)] (ae hs [(6,0,5)] (.tuple #[qv (f9 op n q ((aD L d t1).2) ((aD L d t2).2)),iV 0]) (by rw[hJ oM,j0 oM oM (DQ aM)]))))))
   refine lB 65 ze (lN (bI [(4,pB b4),(5,iV 0),(13,pB zk),(65,qT)] ?_));exact cl (ab hs [.v 66 (.agg #[qF,uV 0,eS,uV 0,eS])] (lP 6 0 ([qF,uV 0,eS,uV 0,eS]) hs (fun _ hs=>lL hs [.v 5 (iV 6)] (ae hs [(6,0,5)] (.tuple #[.agg #[qF,uV 0,eS,uV 0,eS],iV 6]) (by rw[hJ oM,nw oM oM (EO aM)];rfl)))))
  have zg:=ay zb;exact lB 48 zb (ak (ab hs [.v 49 (.agg #[qF,uV 0,eS,uV 0,eS]),.m 50 12] (lP 5 0 ([qF,uV 0,eS,uV 0,eS]) hs (fun _ hs=>lL hs [.m 5 50] (ae hs [(5,0,5)] (.tuple #[.agg #[qF,uV 0,eS,uV 0,eS],iV ((aD L d t2).1)]) (by rw[hJ oM,Bl oM oM];rfl))))))
 have zf:=ay za;exact lB 48 za (ak (ab hs [.v 49 (.agg #[qF,uV 0,eS,uV 0,eS]),.m 50 12] (lP 3 0 ([qF,uV 0,eS,uV 0,eS]) hs (fun _ hs=>lL hs [.m 5 50] (ae hs [(3,0,5)] (.tuple #[.agg #[qF,uV 0,eS,uV 0,eS],iV ((aD L d t1).1)]) (by rw[hJ oM,pe oM];rfl))))))
theorem tq (ok:ByteArray→Prop)(LA:Option Addr)(cL:Nat)(L:List PLt)(hLl:L.length≤1000)(cc:Nat)(hc3:3≤cc)(hcm:cc≤7000)(hLq:∀ i,LQ (cc-2) (L.getD i bK).q):∀ (d:Nat) (p:PTm) (t:Tm) (w:World) (h:Hp),G w h→TmH d h p t→WfT ok d t→cb d t≤1000→SlO 6 mH bK h LA L→Tab h→Calls Tryz.prog 21 #[fe p,.slice LA L.length cL] w (Ret w h (fun v _=>v=.tuple #[qv (aD L d t).2,iV (aD L d t).1]))
  | 0,_,_,_,_,_,x,_,_,_,_=>x.elim
  | d + 1,p,t,w,h,g,x,wf,hw,hL,tb=>by
    obtain ⟨op,n,q,s,A,c,ps,ks,rfl,rfl,hc,hK,hKs⟩:=x.open;obtain ⟨w1,w2,w3,w4,w5,w6,w7,w8,w9⟩:=wf;replace w1:fs op=(ks.length:Nat):=w1;replace w9:∀ i,i<ks.length→WfT ok d (ks.getD i bz):=w9;have hac:=aF op;have ih:=fun p t w h=>tq ok LA cL L hLl cc hc3 hcm hLq d p t w h
    by_cases o2:op=2
    · subst o2;exact xL LA cL L d hLl cc hc3 hcm hLq n q s A c ps ks w h g hK hL
    · rcases km w1 with rfl|⟨t1,rfl⟩|⟨t1,t2,rfl⟩
      · have e0:ps=[]:=List.eq_nil_of_length_eq_zero hKs.len
        subst e0
        simp only[List.length_nil] at w1
        exact xI ok d LA cL L hLl cc hc3 hcm hLq ih op n q s A c oM ⟨w7,w8⟩ w3 w h g hK hL tb
      · obtain ⟨p1,rfl⟩:=List.length_eq_one_iff.1 (show ps.length=1 from hKs.len)
        simp only[List.length_cons,List.length_nil] at w1
        have f1:WfT ok d t1:=w9 0 (Nat.succ_pos _);have g1:cb d t1≤1000:=mR hw;exact wk ok d LA cL L hLl cc hc3 hcm hLq ih op n q s A c p1 t1 f1 g1 (gT hc3 hLq f1 g1) oM ⟨w7,w8⟩ w3 w h g hK (hKs.at_ 0 (Nat.succ_pos _)) hL tb
      · obtain ⟨p1,p2,rfl⟩:=qu (show ps.length=2 from hKs.len)
        simp only[List.length_cons,List.length_nil] at w1
        have f1:WfT ok d t1:=w9 0 (Nat.succ_pos _);have f2:WfT ok d t2:=w9 1 (by show 1<2;decide);obtain ⟨g1,g2⟩:=mP hw;exact Ap ok d LA cL L hLl cc hc3 hcm hLq ih op n q s A c p1 t1 f1 g1 (gT hc3 hLq f1 g1) p2 t2 f2 g2 (gT hc3 hLq f2 g2) oM ⟨w7,w8⟩ w3 w h g hK (hKs.at_ 0 (Nat.succ_pos _)) (hKs.at_ 1 (by show 1<2;decide)) hL tb
theorem DL (isb:ByteArray→Bool)(sm:ByteArray→Prop)(hIs:∀ s,sm s→∀ (w:World) (h:Hp),G w h→Calls Tryz.prog 72 #[.string s] w (Ret w h (fun v _=>∃ b,v=.bool b∧b=isb s)))(LA:Option Addr)(cL:Nat)(L:List PLt)(hLl:L.length≤1000)(cc:Nat)(hc3:3≤cc)(hcm:cc≤7000)(hLq:∀ i,LQ (cc-2) (L.getD i bK).q)(d:Nat)(p:PTm)(t:Tm)(hd:d≤24)(w:World)(h:Hp)(g:G w h)(hT:TmH d h p t)(hS:SmT sm d t)(hL:SlO 6 mH bK h LA L)(tb:Tab h):CR 8 #[pX p,.slice LA L.length cL] w h (fun v _=>∃ (e:Int) (x:Rat),v=.tuple #[qv x,iV e]∧EvR (fun s=>isb s=true) L d t e x):=by
 have hs:=((((sS g).add (K:=fun h_=>TmH d h_ p t) hT).aS hL).aB tb);refine go Tryz.func8 [(0,pX p),(1,qS LA L.length cL)] rfl (av (lA 2 51 (pC p) hs (fun b1 w2 h3 hs=>lA 4 45 ([qF,uV 0,eS,uV 0,eS]) hs (fun b4 w5 h6 hs=>lL hs [.v 5 (iV 0)] (ah (ab hs [.o 6 (pX p) 1 0 9] (lC 7 hs (Aw isb sm hIs d p t hd _ _ hs.g hs.f.r.1 hS) ?_)))))));rintro _ w7 h8 hs ⟨ec,rfl,hec⟩;cases hb9:((ec:Int) != (0:Int))
 ·
  have phb9:=aY hb9;exact lB 8 hb9 (ag (cK (ab hs [.o 10 (pX p) 1 0 9,.m 11 1] (ai 12 hs (tq (fun s=>isb s=true) LA cL L hLl cc hc3 hcm hLq d p t _ _ hs.g hs.f.r.1 (f6 hec oM).1 (f6 hec oM).2 hs.f.2.1 hs.f.1) (fun _ _ hs=>lL hs [.v 13 (qv ((aD L d t).2)),.v 14 (iV ((aD L d t).1))] (lP 0 0 (qc ((aD L d t).2)) hs (fun _ hs=>lL hs [.m 5 14] (ae hs [(0,0,5)] (.tuple #[qv ((aD L d t).2),iV ((aD L d t).1)]) (⟨_,_,rfl,.inl ⟨(f6 hec oM).1,(f6 hec oM).2,rfl,rfl⟩⟩)))))))))
 have phb9:=ay hb9;exact lB 8 hb9 (ak (ab hs [.v 9 (.agg #[qF,uV 0,eS,uV 0,eS])] (lP 0 0 ([qF,uV 0,eS,uV 0,eS]) hs (fun _ hs=>lL hs [.v 5 (iV 1)] (ae hs [(0,0,5)] (.tuple #[.agg #[qF,uV 0,eS,uV 0,eS],iV 1]) (⟨_,_,rfl,.inr ⟨vp hec oM,rfl,rfl⟩⟩))))))
theorem Er (op:Int)(w:World)(h:Hp)(g:G w h):CV 84 #[iV op] w h (iV (fs op)):=by
 have hs:=sS g;refine go Tryz.func84 [(0,iV op)] rfl (ab hs [.v 2 (iV 0)] (ah (ab hs [.m 3 0] (a8 (cQ (av ?_))))));cases hb1:((op:Int) == (1:Int))
 ·
  have phb1:=af hb1;refine lB 5 hb1 (lL hs [.m 4 5] (ag (kQ ?_)));cases hb2:((op:Int) == (2:Int))
  ·
   have phb2:=af hb2;refine lB 6 hb2 (lL hs [.m 4 6] (ag (cQ (av ?_))));cases hb3:((op:Int) == (7:Int))
   ·
    have phb3:=af hb3;refine lB 8 hb3 (lL hs [.m 7 8] (ag (av ?_)));cases hb4:((op:Int) == (8:Int))
    ·
     have phb4:=af hb4;refine lB 9 hb4 (lL hs [.m 7 9] (ag (av ?_)));cases hb5:((op:Int) == (9:Int))
     ·
      have phb5:=af hb5;refine lB 10 hb5 (lL hs [.m 7 10] (ag (av ?_)));cases hb6:((op:Int) == (10:Int))
      ·
       have phb6:=af hb6;refine lB 11 hb6 (lL hs [.m 7 11] (ag (kQ ?_)));cases hb7:((op:Int) == (11:Int))
       ·
        have phb7:=af hb7;refine lB 12 hb7 (lL hs [.m 7 12] (ag (cQ (av ?_))));cases hb8:((op:Int) == (3:Int))
        ·
         have phb8:=af hb8;refine lB 14 hb8 (lL hs [.m 13 14] (ag (av ?_)));cases hb9:((op:Int) == (4:Int))
         ·
          have phb9:=af hb9;refine lB 15 hb9 (lL hs [.m 13 15] (ag (av ?_)));cases za:((op:Int) == (5:Int))
          ·
           have ze:=af za;refine lB 16 za (lL hs [.m 13 16] (ag (av ?_)));cases zb:((op:Int) == (6:Int))
           ·
            have zf:=af zb;refine lB 17 zb (lL hs [.m 13 17] (ag (av ?_)));cases zc:((op:Int) == (12:Int))
            ·
             have zg:=af zc;refine lB 18 zc (lL hs [.m 13 18] (ag (kQ ?_)));cases zd:((op:Int) == (13:Int))
             ·
              have zi:=af zd;exact lB 19 zd (lL hs [.m 13 19] (ag (cK (ab hs [.v 2 (iV (-1))] (ae hs [] (iV (-1)) (congrArg (Value.int .i64) (by have:=aF op;omega)))))))
             have zi:=eq_of_beq zd;exact lB 19 zd (lL hs [.m 13 19] (ak (ab hs [.v 2 (iV 2)] (ae hs [] (iV 2) (congrArg (Value.int .i64) (by have:=aF op;omega))))))
            have zg:=eq_of_beq zc;exact lB 18 zc (lL hs [.m 13 18] (ak (cK (cl (ab hs [.v 2 (iV 2)] (ae hs [] (iV 2) (congrArg (Value.int .i64) (by have:=aF op;omega))))))))
           have zf:=eq_of_beq zb;exact lB 17 zb (lL hs [.m 13 17] (ak (cK (cl (ab hs [.v 2 (iV 2)] (ae hs [] (iV 2) (congrArg (Value.int .i64) (by have:=aF op;omega))))))))
          have ze:=eq_of_beq za;exact lB 16 za (lL hs [.m 13 16] (ak (cK (cl (ab hs [.v 2 (iV 2)] (ae hs [] (iV 2) (congrArg (Value.int .i64) (by have:=aF op;omega))))))))
         have phb9:=eq_of_beq hb9;exact lB 15 hb9 (lL hs [.m 13 15] (ak (cK (cl (ab hs [.v 2 (iV 2)] (ae hs [] (iV 2) (congrArg (Value.int .i64) (by have:=aF op;omega))))))))
        have phb8:=eq_of_beq hb8;exact lB 14 hb8 (lL hs [.m 13 14] (ak (cK (cl (ab hs [.v 2 (iV 2)] (ae hs [] (iV 2) (congrArg (Value.int .i64) (by have:=aF op;omega))))))))
       have phb7:=eq_of_beq hb7;exact lB 12 hb7 (lL hs [.m 7 12] (ak (ab hs [.v 2 (iV 1)] (ae hs [] (iV 1) (congrArg (Value.int .i64) (by have:=aF op;omega))))))
      have phb6:=eq_of_beq hb6;exact lB 11 hb6 (lL hs [.m 7 11] (ak (cK (cl (ab hs [.v 2 (iV 1)] (ae hs [] (iV 1) (congrArg (Value.int .i64) (by have:=aF op;omega))))))))
     have phb5:=eq_of_beq hb5;exact lB 10 hb5 (lL hs [.m 7 10] (ak (cK (cl (ab hs [.v 2 (iV 1)] (ae hs [] (iV 1) (congrArg (Value.int .i64) (by have:=aF op;omega))))))))
    have phb4:=eq_of_beq hb4;exact lB 9 hb4 (lL hs [.m 7 9] (ak (cK (cl (ab hs [.v 2 (iV 1)] (ae hs [] (iV 1) (congrArg (Value.int .i64) (by have:=aF op;omega))))))))
   have phb3:=eq_of_beq hb3;exact lB 8 hb3 (lL hs [.m 7 8] (ak (cK (cl (ab hs [.v 2 (iV 1)] (ae hs [] (iV 1) (congrArg (Value.int .i64) (by have:=aF op;omega))))))))
  have phb2:=eq_of_beq hb2;exact lB 6 hb2 (lL hs [.m 4 6] (ak (ab hs [.v 2 (iV 0)] (ae hs [] (iV 0) (congrArg (Value.int .i64) (by have:=aF op;omega))))))
 have phb1:=eq_of_beq hb1;exact lB 5 hb1 (lL hs [.m 4 5] (ak (cK (cl (ab hs [.v 2 (iV 0)] (ae hs [] (iV 0) (congrArg (Value.int .i64) (by have:=aF op;omega))))))))
theorem xn (z:Int)(A:Option Addr)(c:Nat)(w:World)(h:Hp)(g:G w h)(hA:S3 A (lim (aa z)) h):CV 141 #[.agg #[.bool (ac z),.slice A ((lim (aa z)).length) c]] w h (iV z.sign):=by
 have hs:=((sS g).aS hA);have hlz:0<(lim (aa z)).length↔0<aa z:=bG
 unfold aa at hlz
 refine go Tryz.func141 [(0,.agg #[.bool (ac z),qS A ((lim (aa z)).length) c])] rfl (av (lA 1 26 ([.bool (ac z),qS A ((lim (aa z)).length) c]) hs (fun b1 w2 h3 hs=>lL hs [.v 2 (iV 0)] (ah (kZ (ab hs [.v 4 (qP b1 1),.o 5 (qS A ((lim (aa z)).length) c) 0 1 1,.v 6 (nV ((lim (aa z)).length))] ?_))))));cases hb4:((((lim (aa z)).length:Nat):Int) == (0:Int))
 ·
  have phb4:=af hb4;refine lB 7 hb4 (lL hs [.m 3 7] (ag (ab hs [.v 9 (pB b1),.o 10 (.bool (ac z)) 0 0 1,.m 8 10] (lN ?_))));cases hb5:(ac z)
  ·
   try rw[hb5] at hs
   try rw[hb5]
   have phb5:=a6 hb5;exact cY (cK (ab hs [.v 2 (iV 1)] (ae hs [] (iV 1) (congrArg (Value.int .i64) (by first|(rw[show z=0 by (unfold aa at *;omega)];rfl)|exact (Int.sign_eq_neg_one_of_neg oM).symm|exact (Int.sign_eq_one_of_pos (by unfold aa at *;omega)).symm)))))
  try rw[hb5] at hs
  try rw[hb5]
  have phb5:=bc hb5;exact cl (ab hs [.v 2 (iV (-1))] (ae hs [] (iV (-1)) (congrArg (Value.int .i64) (by first|(rw[show z=0 by (unfold aa at *;omega)];rfl)|exact (Int.sign_eq_neg_one_of_neg oM).symm|exact (Int.sign_eq_one_of_pos (by unfold aa at *;omega)).symm))))
 have phb4:=eq_of_beq hb4;exact lB 7 hb4 (lL hs [.m 3 7] (ak (ab hs [.v 2 (iV 0)] (ae hs [] (iV 0) (congrArg (Value.int .i64) (by first|(rw[show z=0 by (unfold aa at *;omega)];rfl)|exact (Int.sign_eq_neg_one_of_neg oM).symm|exact (Int.sign_eq_one_of_pos (by unfold aa at *;omega)).symm))))))
theorem FP (z:Int)(A:Option Addr)(c n:Nat)(D:Option Addr)(d:Nat)(hc:(lim (aa z)).length≤c)(hd:(lim n).length≤d)(w:World)(h:Hp)(g:G w h)(hA:S3 A (lim (aa z)) h)(hD:S3 D (lim n) h):CV 91 #[.agg #[.bool (ac z),.slice A ((lim (aa z)).length) c,.slice D ((lim n).length) d]] w h (iV z.sign):=by
 have hs:=(((sS g).aS hA).aS hD);exact go Tryz.func91 [(0,.agg #[.bool (ac z),qS A ((lim (aa z)).length) c,qS D ((lim n).length) d])] rfl (av (lA 1 28 ([.bool (ac z),qS A ((lim (aa z)).length) c,qS D ((lim n).length) d]) hs (fun b1 w2 h3 hs=>lL hs [.v 2 (iV 0)] (aG (lL hs [.v 3 (pB b1),.o 4 (.agg #[.bool (ac z),qS A ((lim (aa z)).length) c]) 0 0 2] (ai 5 hs (xn z A c _ _ hs.g hs.f.2.1) (fun w4 h5 hs=>lL hs [.m 2 5] (ae hs [] (iV z.sign) rfl))))))))
theorem AM (z:Int)(A:Option Addr)(c n:Nat)(D:Option Addr)(d:Nat)(hc:(lim (aa z)).length≤c)(hd:(lim n).length≤d)(w:World)(h:Hp)(g:G w h)(hA:S3 A (lim (aa z)) h)(hD:S3 D (lim n) h):CV 86 #[.agg #[.bool (ac z),.slice A ((lim (aa z)).length) c,.slice D ((lim n).length) d]] w h (.bool (decide (n=0∨z=0))):=by
 have hs:=(((sS g).aS hA).aS hD);have hln:0<(lim n).length↔0<n:=bG;refine go Tryz.func86 [(0,.agg #[.bool (ac z),qS A ((lim (aa z)).length) c,qS D ((lim n).length) d])] rfl (av (lA 1 28 ([.bool (ac z),qS A ((lim (aa z)).length) c,qS D ((lim n).length) d]) hs (fun b1 w2 h3 hs=>lL hs [.v 2 qF] (aG (lL hs [.v 3 (qP b1 2),.o 4 (qS D ((lim n).length) d) 0 2 1,.v 5 (nV ((lim n).length))] ?_)))));cases hb4:((((lim n).length:Nat):Int) == (0:Int))
 ·
  have phb4:=af hb4;refine lB 6 hb4 (lL hs [.m 7 6,.o 8 (.agg #[.bool (ac z),qS A ((lim (aa z)).length) c,qS D ((lim n).length) d]) 0 0 3] (ai 9 hs (FP z A c n D d hc hd _ _ hs.g hs.f.2.1 hs.f.1) (fun w5 h6 hs=>?_)));have hsg:z.sign=0↔z=0:=Int.sign_eq_zero_iff_zero;cases hb7:((z.sign:Int) == (0:Int))
  ·
   have phb7:=af hb7;exact lB 10 hb7 (lL hs [.v 11 qF,.m 2 11] (ae hs [] qF (congrArg Value.bool (decide_eq_false oM).symm)))
  have phb7:=eq_of_beq hb7;exact lB 10 hb7 (lL hs [.v 11 qT,.m 2 11] (ae hs [] qT (congrArg Value.bool (decide_eq_true oM).symm)))
 have phb4:=eq_of_beq hb4;refine lB 6 hb4 (lL hs [.m 7 6] (lG 8 ?_));exact lG 9 (lG 10 (lL hs [.v 11 qT,.m 2 11] (ae hs [] qT (congrArg Value.bool (decide_eq_true oM).symm))))
def d8 (op n sum:Int):Int:=if op=11 then 2*sum else if op=8∧n≠0 then sum*(if n<0 then 0-n else n) else sum
theorem tR {o:OSt}(hz:o.has=false→o.q=0)(h:mf o=0∨o.q.num=0):o.q=((0:Int):Rat):=by
 rcases h with h|h
 ·refine hz ?_
  have h2:=xY (o:=o);rw[h,eJ] at h2
  cases h3:o.has with
  | false=>rfl
  | true=>rw[h3] at h2;simp at h2
 ·exact Rat.num_eq_zero.1 h
theorem tM {o:OSt}(hz:o.has=false→o.q=0)(h:¬(mf o=0∨o.q.num=0)):mf o=o.q.den:=by
 refine Aj ?_;cases h3:o.has with
 | true=>rfl
 | false=>exact absurd (.inr (by rw[hz h3];rfl)) h
theorem tg {q:Rat}{n:Int}{m:Nat}(hq:q≠0)(hn:n<0)(hm:m=n.natAbs):bV (((1:Int):Rat)/q) m=fa q n:=by
  have h1:((1:Int):Rat)=1:=rfl
  have e:∀ k,bV (((1:Int):Rat)/q) k=((1:Int):Rat)/bV q k:=fun k=>by
    induction k with
    | zero=>show ((1:Int):Rat)=((1:Int):Rat)/((1:Int):Rat);rw[h1];grind
    | succ k ih =>
      show bV _ k*_=_/(bV q k*q)
      have:=l8 hq k;rw[ih,h1];grind
  unfold fa
  rw[if_neg oM,←hm,e]
theorem qw {a:Rat}:0<a.num.sign↔0<a:=by
 rw[Rat.lt_iff]
 rcases Int.lt_trichotomy a.num 0 with h|h|h
 ·rw[Int.sign_eq_neg_one_of_neg h];simp;omega
 ·rw[h];simp
 ·rw[Int.sign_eq_one_of_pos h];simpa using h
theorem Ad {op n:Int}{a b:Rat}(h:op=10)(hs:0<a.num.sign):a=qh op n 0 a b:=by
 subst h;have h1:=qw.1 hs
 show a=maxR a 0
 unfold maxR;rw[if_neg (by grind)]
theorem At {op n:Int}{a b:Rat}(h:op=10)(hs:¬0<a.num.sign):((0:Int):Rat)=qh op n 0 a b:=by
 subst h;have h1:¬0<a:=fun x=>hs (qw.2 x)
 show (0:Rat)=maxR a 0
 unfold maxR;split
 ·rfl
 ·grind
theorem Df {op n:Int}{a b:Rat}(h:op=11):a/(((1:Int):Rat)+db a)=qh op n 0 a b:=by
 subst h
 show _=a/(db a+((1:Int):Rat))
 rw[Rat.add_comm]
theorem xx {op n:Int}{a b:Rat}(h:op=12)(hc:0≤du a b):a=qh op n 0 a b:=by
 subst h
 show a=maxR a b
 unfold maxR;rw[if_neg (fun x=>by have:=jC.2 x;omega)]
theorem wT {op n:Int}{a b:Rat}(h:op=12)(hc:¬0≤du a b):b=qh op n 0 a b:=by
 subst h
 show b=maxR a b
 unfold maxR;rw[if_pos (jC.1 oM)]
theorem xG {op n:Int}{a b:Rat}(h:op=13)(hc:du a b≤0):a=qh op n 0 a b:=by
 subst h
 show a=jO a b
 unfold jO;rw[if_neg (fun x=>by have:=jp.2 x;omega)]
theorem wy {op n:Int}{a b:Rat}(h:op=13)(hc:¬du a b≤0):b=qh op n 0 a b:=by
 subst h
 show b=jO a b
 unfold jO;rw[if_pos (jp.1 oM)]
theorem vV (o:OSt)(A:Option Addr)(c:Nat)(D:Option Addr)(d:Nat)(hc:(lim (aa o.q.num)).length≤c)(hd:(lim (mf o)).length≤d)(hz:o.has=false→o.q=0)(w:World)(h:Hp)(g:G w h)(hA:S3 A (lim (aa o.q.num)) h)(hD:S3 D (lim (mf o)) h):CR 47 #[.agg #[.bool (ac o.q.num),.slice A ((lim (aa o.q.num)).length) c,.slice D ((lim (mf o)).length) d]] w h (fun v h1=>RQ h1 v o.q):=by
 have hs:=(((sS g).aS hA).aS hD);refine go Tryz.func47 [(0,.agg #[.bool (ac o.q.num),qS A ((lim (aa o.q.num)).length) c,qS D ((lim (mf o)).length) d])] rfl (av (lA 1 28 ([.bool (ac o.q.num),qS A ((lim (aa o.q.num)).length) c,qS D ((lim (mf o)).length) d]) hs (fun b1 w2 h3 hs=>lA 2 28 ([qF,sZ,sZ]) hs (fun b4 w5 h6 hs=>ah (ab hs [.o 3 (.agg #[.bool (ac o.q.num),qS A ((lim (aa o.q.num)).length) c,qS D ((lim (mf o)).length) d]) 1 0 3] (ai 4 hs (AM o.q.num A c (mf o) D d hc hd _ _ hs.g hs.f.2.1 hs.f.1) (fun w7 h8 hs=>?_)))))));cases hb9:(decide (mf o=0∨o.q.num=0))
 ·
  have phb9:=oF hb9;exact ag (cK (ab hs [.o 6 (.agg #[.bool (ac o.q.num),qS A ((lim (aa o.q.num)).length) c,qS D ((lim (mf o)).length) d]) 1 0 3] (lP 0 0 ([.bool (ac o.q.num),qS A ((lim (aa o.q.num)).length) c,qS D ((lim (mf o)).length) d]) hs (fun _ hs=>ae hs [(0,0,3)] (.agg #[.bool (ac o.q.num),qS A ((lim (aa o.q.num)).length) c,qS D ((lim (mf o)).length) d]) (by have hod:=tM hz (o:=o) oM;show RP _ _ o.q.num o.q.den;rw[←hod];exact ⟨A,c,D,d,rfl,hc,hd,hs.f.2.1,hs.f.1⟩)))))
 have phb9:=oT hb9;refine ak (av (lC 5 hs (kr 0 oM oM _ _ hs.g) ?_));rintro _ _ _ hs ⟨za,zb,zc,zd,rfl,ze,zf,zg,zi⟩;replace hs:=hs.aP zg zi;exact lP 0 0 (ct ((0:Int):Rat) za zb zc zd) hs (fun _ hs=>ae hs [(0,0,3)] (rG ((0:Int):Rat) za zb zc zd) (RQ.eq ⟨_,_,_,_,rfl,ze,zf,hs.f.2.1,hs.f.1⟩ (tR hz oM).symm))
theorem Bj (q:Rat)(A1:Option Addr)(c1:Nat)(D1:Option Addr)(d1:Nat)(hc1:(lim (aa q.num)).length≤c1)(hd1:(lim q.den).length≤d1)(n:Int)(K:Nat)(hK:14*K+20≤100000000)(hq:LQ K q)(hn : -13≤n∧n≤13)(h0:0≤n)(m:Nat)(hm:(m:Int)=n)(w:World)(h:Hp)(g:G w h)(hA1:S3 A1 (lim (aa q.num)) h)(hD1:S3 D1 (lim q.den) h):CR 94 #[rG q A1 c1 D1 d1,iV n] w h (fun v h1=>∃ x,v=.tuple #[x,.bool true]∧RQ h1 x (bV q m)):=by
 have hs:=(((sS g).aS hA1).aS hD1);refine go Tryz.func94 [(0,rG q A1 c1 D1 d1),(1,iV n)] rfl (av (lA 2 28 (ct q A1 c1 D1 d1) hs (fun b1 w2 h3 hs=>lA 4 28 ([qF,sZ,sZ]) hs (fun b4 w5 h6 hs=>lL hs [.v 5 qF] (ah (ab hs [.m 8 1] ?_))))));have ⟨hb7,phb7⟩:=dF (p:=(n:Int)<(0:Int)) oM;refine lB 9 hb7 (ag (cK (av (lC 22 hs (kr 1 oM oM _ _ hs.g) ?_))));rintro _ _ _ hs ⟨A8,c9,zb,zd,rfl,zk,zl,zm,zn⟩;replace hs:=hs.aP zm zn;refine lA 6 28 ([qF,sZ,sZ]) hs (fun ze _ zs hs=>lP 0 0 (ct ((1:Int):Rat) A8 c9 zb zd) hs (fun _ hs=>ah (ab hs [.v 7 (iV 0)] (a8 ?_))));replace hs:=hs.aS hs.f.1;replace hs:=hs.aS hs.f.r.1;refine bI _ (CG.loop (fun μ_ Γ w_=>∃ (k:Nat) (AS:Option Addr) (cS:Nat) (DS:Option Addr) (dS:Nat) (h_:Hp),μ_=m-k∧Γ=[(1,iV n),(2,pB b1),(4,pB b4),(5,qF),(6,pB ze),(7,nV k)]∧SS w h w_ h_ [⟨ze,28,ct (bV q k) AS cS DS dS⟩,⟨b4,28,[qF,sZ,sZ]⟩,⟨b1,28,ct q A1 c1 D1 d1⟩] [] [S3 AS (lim (aa (bV q k).num)),S3 DS (lim (bV q k).den),S3 zb (lim ((1:Int):Rat).den),S3 A8 (lim (aa ((1:Int):Rat).num)),S3 D1 (lim q.den),S3 A1 (lim (aa q.num))]∧k≤m∧(lim (aa (bV q k).num)).length≤cS∧(lim (bV q k).den).length≤dS) _ ⟨0,A8,c9,zb,zd,zs,rfl,rfl,hs.to _ _,Nat.zero_le _,zk,zl⟩ ?_);rintro _ _ _ ⟨k,AS,cS,DS,dS,_,hm24,rfl,hs,hk,hcS,hdS⟩;have hkK:k*K≤13*K:=Nat.mul_le_mul_right _ oM;have hpk:=gl hq k;refine cQ (ab hs [.m 23 7,.m 24 1] ?_);cases za:(decide ((k:Int)<(n:Int)))
 ·
  have zc:=oF za;refine lB 25 za (ag (CG.exit ?_))
  show CG _ _ _ _ _ _ _ _
  exact ab hs [.o 31 (rG (bV q k) AS cS DS dS) 0 0 3] (lP 1 0 (ct (bV q k) AS cS DS dS) hs (fun _ hs=>lL hs [.v 5 qT] (ae hs [(1,0,3)] (.tuple #[rG (bV q k) AS cS DS dS,qT]) (⟨_,rfl,(by rw[show m=k by omega];exact ⟨_,_,_,_,rfl,hcS,hdS,hs.f.1,hs.f.2.1⟩)⟩))))
 have zc:=oT za;refine lB 25 za (ak (cK (cQ (kZ (kQ (lL hs [.o 28 (rG (bV q k) AS cS DS dS) 0 0 3,.o 29 (rG q A1 c1 D1 d1) 2 0 3] ?_))))));have hq27:=LQ.mul hpk hq;refine lC 30 hs (DI (bV q k) AS cS DS dS hcS hdS (nl hpk) (nD hpk) q A1 c1 D1 d1 hc1 hd1 (nl hq) (nD hq) _ _ hs.g hs.f.1 hs.f.2.1 hs.f.q.2.1 hs.f.q.1) ?_;rintro _ _ zt hs ⟨zf,zg,zi,zj,rfl,zo,zp,zq,zr⟩;replace hs:=hs.aP zq zr;refine lP 0 0 (ct ((bV q k)*q) zf zg zi zj) hs (fun _ hs=>lN (kQ (lL hs [.m 26 7] (bn 27 ((k:Nat)+1) (k+1) ?_))));refine lL hs [.m 7 27] (lD ?_);intro a_ ka;replace hs:=((hs.tl.tl.tl.tl.aS hs.f.1).aS hs.f.2.1);refine ⟨_,_,?_,⟨k+1,zf,zg,zi,zj,zt,rfl,rfl,hs.to _ _,oM,zo,zp⟩,ka.to _ kR⟩
 omega
theorem EA (q:Rat)(A1:Option Addr)(c1:Nat)(D1:Option Addr)(d1:Nat)(hc1:(lim (aa q.num)).length≤c1)(hd1:(lim q.den).length≤d1)(n:Int)(K:Nat)(hK:14*K+48≤100000000)(hq:LQ K q)(hn : -13≤n∧n≤13)(h0:n<0)(hq0:q≠0)(m:Nat)(hm:m=n.natAbs)(w:World)(h:Hp)(g:G w h)(hA1:S3 A1 (lim (aa q.num)) h)(hD1:S3 D1 (lim q.den) h):CR 94 #[rG q A1 c1 D1 d1,iV n] w h (fun v h1=>∃ x,v=.tuple #[x,.bool true]∧RQ h1 x (fa q n)):=by
 have hs:=(((sS g).aS hA1).aS hD1);have hqn:=l5 hq0;have hsz:q.num.sign=0↔q.num=0:=Int.sign_eq_zero_iff_zero;refine go Tryz.func94 [(0,rG q A1 c1 D1 d1),(1,iV n)] rfl (av (lA 2 28 (ct q A1 c1 D1 d1) hs (fun b1 w2 h3 hs=>lA 4 28 ([qF,sZ,sZ]) hs (fun b4 w5 h6 hs=>lL hs [.v 5 qF] (ah (ab hs [.m 8 1] ?_))))));have ⟨hb7,phb7⟩:=dT (p:=(n:Int)<(0:Int)) oM;refine lB 9 hb7 (ak (cQ (ab hs [.o 10 (rG q A1 c1 D1 d1) 1 0 3] (ai 11 hs (nu q A1 c1 D1 d1 hc1 hd1 (nl hq) (nD hq) _ _ hs.g hs.f.2.1 hs.f.1) (fun w8 h9 hs=>?_)))));have za:((q.num.sign:Int) == (0:Int))=false:=cw oM;have phb10:=af za;refine lB 12 za (ag (cK (cQ (cR 8 [] mixed hs ar ?_))));refine eO 1 15 [(1,0,3)] (rG q A1 c1 D1 d1) hs (eV 3 17 (iV n) (eI 4 18 (0-n) (eC 0 14 hs (fun _ _ hs=>kr 1 oM oM _ _ hs.g) ?_)));rintro _ _ _ _ _ hs ⟨zs,zt,zu,zv,rfl,zf,zg,zi,zj⟩;replace hs:=hs.aP zi zj;have hq21:=LQ.div (LQ.lit (z:=1) kD) hq;refine eC 2 16 hs (fun _ _ hs=>BY ((1:Int):Rat) zs zt zu zv zf zg (nl (LQ.lit (z:=1) kD)) (nD (LQ.lit (z:=1) kD)) q A1 c1 D1 d1 hc1 hd1 (nl hq) (nD hq) hqn _ _ hs.g hs.f.2.1 hs.f.1 hs.f.r.2.1 hs.f.r.1) ?_;rintro _ _ _ _ _ hs ⟨zw,zx,zA,zB,rfl,zk,zl,zm,zn⟩;replace hs:=hs.aP zm zn;refine eC 5 19 hs (fun _ _ hs=>Bj (((1:Int):Rat)/q) zw zx zA zB zk zl (0-n) (K+2) oM (LQ.mono ((LQ.lit (z:=1) kD).div hq) oM) oM oM m oM _ _ hs.g hs.f.2.1 hs.f.1) ?_;rintro _ _ _ _ _ hs ⟨_,rfl,zb,zc,zd,ze,rfl,zo,zp,zq,zr⟩;replace hs:=hs.aP zq zr;exact eV 6 20 (rG (bV (((1:Int):Rat)/q) m) zb zc zd ze) (eV 7 21 qT (ce hs (fun _ _ hs=>tP 8 0 0 (ct (bV (((1:Int):Rat)/q) m) zb zc zd ze) hs (fun _ hs=>tV 9 5 qT (tN (kX (hs.ret [(0,0,3)] (.tuple #[rG (bV (((1:Int):Rat)/q) m) zb zc zd ze,qT]) (⟨_,rfl,RQ.eq ⟨_,_,_,_,rfl,zo,zp,hs.f.2.1,hs.f.1⟩ (tg hq0 oM hm)⟩))))))))
theorem DM (q:Rat)(A1:Option Addr)(c1:Nat)(D1:Option Addr)(d1:Nat)(hc1:(lim (aa q.num)).length≤c1)(hd1:(lim q.den).length≤d1)(n:Int)(K:Nat)(hK:14*K+48≤100000000)(hq:LQ K q)(hn : -13≤n∧n≤13)(h0:n<0)(hq0:q=0)(w:World)(h:Hp)(g:G w h)(hA1:S3 A1 (lim (aa q.num)) h)(hD1:S3 D1 (lim q.den) h):CR 94 #[rG q A1 c1 D1 d1,iV n] w h (fun v h1=>∃ x,v=.tuple #[x,.bool false]∧RQ h1 x ((0:Int):Rat)):=by
 have hs:=(((sS g).aS hA1).aS hD1);have hsz:q.num.sign=0:=by rw[hq0];rfl
 refine go Tryz.func94 [(0,rG q A1 c1 D1 d1),(1,iV n)] rfl (av (lA 2 28 (ct q A1 c1 D1 d1) hs (fun b1 w2 h3 hs=>lA 4 28 ([qF,sZ,sZ]) hs (fun b4 w5 h6 hs=>lL hs [.v 5 qF] (ah (ab hs [.m 8 1] ?_))))));have ⟨hb7,phb7⟩:=dT (p:=(n:Int)<(0:Int)) oM;refine lB 9 hb7 (ak (cQ (ab hs [.o 10 (rG q A1 c1 D1 d1) 1 0 3] (ai 11 hs (nu q A1 c1 D1 d1 hc1 hd1 (nl hq) (nD hq) _ _ hs.g hs.f.2.1 hs.f.1) (fun w8 h9 hs=>?_)))));have za:((q.num.sign:Int) == (0:Int))=true:=jg oM;have phb10:=eq_of_beq za;refine lB 12 za (ak (av (lC 13 hs (kr 0 oM oM _ _ hs.g) ?_)));rintro _ _ _ hs ⟨zb,zc,zd,ze,rfl,zf,zg,zi,zj⟩;replace hs:=hs.aP zi zj;exact lP 0 0 (ct ((0:Int):Rat) zb zc zd ze) hs (fun _ hs=>lL hs [.v 5 qF] (ae hs [(0,0,3)] (.tuple #[rG ((0:Int):Rat) zb zc zd ze,qF]) (⟨_,rfl,⟨_,_,_,_,rfl,zf,zg,hs.f.2.1,hs.f.1⟩⟩)))
theorem Ga (q:Rat)(A1:Option Addr)(c1:Nat)(D1:Option Addr)(d1:Nat)(hc1:(lim (aa q.num)).length≤c1)(hd1:(lim q.den).length≤d1)(n:Int)(K:Nat)(hK:14*K+48≤100000000)(hq:LQ K q)(hn : -13≤n∧n≤13)(ho:n<0→q≠0)(w:World)(h:Hp)(g:G w h)(hA1:S3 A1 (lim (aa q.num)) h)(hD1:S3 D1 (lim q.den) h):CR 94 #[rG q A1 c1 D1 d1,iV n] w h (fun v h1=>∃ x,v=.tuple #[x,.bool true]∧RQ h1 x (fa q n)):=by
 by_cases hs:0≤n
 ·have x:=Bj q A1 c1 D1 d1 hc1 hd1 n K oM hq hn hs n.toNat oM w h g hA1 hD1
  have e:fa q n=bV q n.toNat:=by unfold fa;rw[if_pos hs,show n.natAbs=n.toNat by omega]
  rw[e];exact x
 ·exact EA q A1 c1 D1 d1 hc1 hd1 n K hK hq hn oM (ho oM) n.natAbs rfl w h g hA1 hD1
theorem Fu (op n:Int)(a:Rat)(A1:Option Addr)(c1:Nat)(D1:Option Addr)(d1:Nat)(hc1:(lim (aa a.num)).length≤c1)(hd1:(lim a.den).length≤d1)(b:Rat)(A2:Option Addr)(c2:Nat)(D2:Option Addr)(d2:Nat)(hc2:(lim (aa b.num)).length≤c2)(hd2:(lim b.den).length≤d2)(K:Nat)(hK:14*K+48≤100000000)(ha:LQ K a)(hb:LQ K b)(hop:3≤op∧op≤13)(hn:op=8 → -12≤n∧n≤12)(hok:iH op n a b)(w:World)(h:Hp)(g:G w h)(hA1:S3 A1 (lim (aa a.num)) h)(hD1:S3 D1 (lim a.den) h)(hA2:S3 A2 (lim (aa b.num)) h)(hD2:S3 D2 (lim b.den) h):CR 48 #[iV op,iV n,rG a A1 c1 D1 d1,rG b A2 c2 D2 d2] w h (fun v h1=>∃ x,v=.tuple #[x,.bool true]∧RQ h1 x (qh op n 0 a b)):=by
 have hs:=(((((sS g).aS hA1).aS hD1).aS hA2).aS hD2);have hsz:b.num.sign=0↔b.num=0:=Int.sign_eq_zero_iff_zero;have hok6:=fun e=>l5 (hok.1 e)
 refine go Tryz.func48 [(0,iV op),(1,iV n),(2,rG a A1 c1 D1 d1),(3,rG b A2 c2 D2 d2)] rfl (av (lA 6 28 (ct a A1 c1 D1 d1) hs (fun b1 w2 h3 hs=>lA 7 28 (ct b A2 c2 D2 d2) hs (fun b4 w5 h6 hs=>lA 8 28 ([qF,sZ,sZ]) hs (fun b7 w8 h9 hs=>lL hs [.v 9 qF] (ah (ab hs [.m 10 0] (a8 (av ?_)))))))));cases zb:((op:Int) == (3:Int))
 ·
  have zX:=af zb;refine lB 12 zb (lL hs [.m 11 12] (ag (av ?_)));cases zc:((op:Int) == (4:Int))
  ·
   have ya:=af zc;refine lB 17 zc (lL hs [.m 16 17] (ag (av ?_)));cases zd:((op:Int) == (5:Int))
   ·
    have yb:=af zd;refine lB 22 zd (lL hs [.m 21 22] (ag (av ?_)));cases ze:((op:Int) == (6:Int))
    ·
     have yc:=af ze;refine lB 27 ze (lL hs [.m 26 27] (ag (av ?_)));cases zf:((op:Int) == (7:Int))
     ·
      have yd:=af zf;refine lB 36 zf (lL hs [.m 35 36] (ag (av ?_)));cases zg:((op:Int) == (8:Int))
      ·
       have ye:=af zg;refine lB 40 zg (lL hs [.m 39 40] (ag (av ?_)));cases zi:((op:Int) == (9:Int))
       ·
        have yf:=af zi;refine lB 47 zi (lL hs [.m 46 47] (ag (av ?_)));cases zj:((op:Int) == (10:Int))
        ·
         have yg:=af zj;refine lB 51 zj (lL hs [.m 50 51] (ag (av ?_)));cases zk:((op:Int) == (11:Int))
         ·
          have yi:=af zk;refine lB 58 zk (lL hs [.m 57 58] (ag (av ?_)));cases zl:((op:Int) == (12:Int))
          ·
           have yj:=af zl;refine lB 66 zl (lL hs [.m 65 66] (ag (cK (cQ (ab hs [.o 73 (rG a A1 c1 D1 d1) 2 0 3,.o 74 (rG b A2 c2 D2 d2) 1 0 3] (ai 75 hs (DR a A1 c1 D1 d1 hc1 hd1 (nl ha) (nD ha) b A2 c2 D2 d2 hc2 hd2 (nl hb) (nD hb) _ _ hs.g hs.f.r.2.1 hs.f.r.1 hs.f.2.1 hs.f.1) (fun _ _ hs=>?_)))))));cases zm:(decide ((du a b:Int)≤(0:Int)))
           ·
            have yk:=oF zm;exact lB 76 zm (ag (cK (ab hs [.o 78 (rG b A2 c2 D2 d2) 1 0 3] (lP 0 0 (ct b A2 c2 D2 d2) hs (fun _ hs=>lL hs [.v 9 qT] (ae hs [(0,0,3)] (.tuple #[rG b A2 c2 D2 d2,qT]) (⟨_,rfl,RQ.eq ⟨_,_,_,_,rfl,hc2,hd2,hs.f.2.1,hs.f.1⟩ (wy oM oM)⟩)))))))
           have yk:=oT zm;exact lB 76 zm (ak (ab hs [.o 77 (rG a A1 c1 D1 d1) 2 0 3] (lP 0 0 (ct a A1 c1 D1 d1) hs (fun _ hs=>lL hs [.v 9 qT] (ae hs [(0,0,3)] (.tuple #[rG a A1 c1 D1 d1,qT]) (⟨_,rfl,RQ.eq ⟨_,_,_,_,rfl,hc1,hd1,hs.f.r.2.1,hs.f.r.1⟩ (xG oM oM)⟩))))))
          have yj:=eq_of_beq zl;refine lB 66 zl (lL hs [.m 65 66] (ak (cQ (ab hs [.o 67 (rG a A1 c1 D1 d1) 2 0 3,.o 68 (rG b A2 c2 D2 d2) 1 0 3] (ai 69 hs (DR a A1 c1 D1 d1 hc1 hd1 (nl ha) (nD ha) b A2 c2 D2 d2 hc2 hd2 (nl hb) (nD hb) _ _ hs.g hs.f.r.2.1 hs.f.r.1 hs.f.2.1 hs.f.1) (fun _ _ hs=>?_))))));cases zn:(decide ((0:Int)≤(du a b:Int)))
          ·
           have yl:=oF zn;exact lB 70 zn (ag (cK (ab hs [.o 72 (rG b A2 c2 D2 d2) 1 0 3] (lP 0 0 (ct b A2 c2 D2 d2) hs (fun _ hs=>lL hs [.v 9 qT] (ae hs [(0,0,3)] (.tuple #[rG b A2 c2 D2 d2,qT]) (⟨_,rfl,RQ.eq ⟨_,_,_,_,rfl,hc2,hd2,hs.f.2.1,hs.f.1⟩ (wT oM oM)⟩)))))))
          have yl:=oT zn;exact lB 70 zn (ak (ab hs [.o 71 (rG a A1 c1 D1 d1) 2 0 3] (lP 0 0 (ct a A1 c1 D1 d1) hs (fun _ hs=>lL hs [.v 9 qT] (ae hs [(0,0,3)] (.tuple #[rG a A1 c1 D1 d1,qT]) (⟨_,rfl,RQ.eq ⟨_,_,_,_,rfl,hc1,hd1,hs.f.r.2.1,hs.f.r.1⟩ (xx oM oM)⟩))))))
         have yi:=eq_of_beq zk;refine lB 58 zk (lL hs [.m 57 58] (ak (cQ (cR 6 [] mixed hs ar ?_))));refine eO 0 59 [(2,0,3)] (rG a A1 c1 D1 d1) hs (eO 2 61 [(2,0,3)] (rG a A1 c1 D1 d1) hs (eC 1 60 hs (fun _ _ hs=>kr 1 oM oM _ _ hs.g) ?_));rintro _ _ _ _ _ hs ⟨ZI,ZJ,ZK,ZL,rfl,Zd,Ze,Zf,Zg⟩;replace hs:=hs.aP Zf Zg;have zp:LQ (K) (db a):=LQ.abs ha;refine eC 3 62 hs (fun _ _ hs=>Dz a A1 c1 D1 d1 hc1 hd1 (nl ha) (nD ha) _ _ hs.g hs.f.q.2.1 hs.f.q.1) ?_;rintro _ _ _ _ _ hs ⟨ZM,ZN,ZO,ZP,rfl,Zi,Zj,Zk,Zl⟩;replace hs:=hs.aP Zk Zl;have zq:=LQ.add (LQ.lit (z:=1) kD) zp;refine eC 4 63 hs (fun _ _ hs=>Dn ((1:Int):Rat) ZI ZJ ZK ZL Zd Ze (nl (LQ.lit (z:=1) kD)) (nD (LQ.lit (z:=1) kD)) (db a) ZM ZN ZO ZP Zi Zj (nl zp) (nD zp) _ _ hs.g hs.f.r.2.1 hs.f.r.1 hs.f.2.1 hs.f.1) ?_;rintro _ _ _ _ _ hs ⟨ZQ,ZR,ZS,ZT,rfl,Zm,Zn,Zo,Zp⟩;replace hs:=hs.aP Zo Zp;have hq62:=LQ.div ha zq;refine eC 5 64 hs (fun _ _ hs=>BY a A1 c1 D1 d1 hc1 hd1 (nl ha) (nD ha) (((1:Int):Rat)+(db a)) ZQ ZR ZS ZT Zm Zn (nl zq) (nD zq) (jL a) _ _ hs.g hs.f.q.q.2.1 hs.f.q.q.1 hs.f.2.1 hs.f.1) ?_;rintro _ _ _ _ _ hs ⟨yP,yQ,yR,yS,rfl,Zq,Zr,Zs,Zt⟩;replace hs:=hs.aP Zs Zt;exact ce hs (fun _ _ hs=>tP 6 0 0 (ct (a/(((1:Int):Rat)+(db a))) yP yQ yR yS) hs (fun _ hs=>tV 7 9 qT (tN (kX (hs.ret [(0,0,3)] (.tuple #[rG (a/(((1:Int):Rat)+(db a))) yP yQ yR yS,qT]) (⟨_,rfl,RQ.eq ⟨_,_,_,_,rfl,Zq,Zr,hs.f.2.1,hs.f.1⟩ (Df oM)⟩))))))
        have yg:=eq_of_beq zj;refine lB 51 zj (lL hs [.m 50 51] (ak (cQ (ab hs [.o 52 (rG a A1 c1 D1 d1) 2 0 3] (ai 53 hs (nu a A1 c1 D1 d1 hc1 hd1 (nl ha) (nD ha) _ _ hs.g hs.f.r.2.1 hs.f.r.1) (fun _ _ hs=>?_))))));cases zo:(decide ((0:Int)<(a.num.sign:Int)))
        ·
         have ym:=oF zo;refine lB 54 zo (ag (cK (av (lC 56 hs (kr 0 oM oM _ _ hs.g) ?_))));rintro _ _ _ hs ⟨yT,yU,yV,yW,rfl,Zu,Zv,Zw,Zx⟩;replace hs:=hs.aP Zw Zx;exact lP 0 0 (ct ((0:Int):Rat) yT yU yV yW) hs (fun _ hs=>lL hs [.v 9 qT] (ae hs [(0,0,3)] (.tuple #[rG ((0:Int):Rat) yT yU yV yW,qT]) (⟨_,rfl,RQ.eq ⟨_,_,_,_,rfl,Zu,Zv,hs.f.2.1,hs.f.1⟩ (At oM oM)⟩)))
        have ym:=oT zo;exact lB 54 zo (ak (ab hs [.o 55 (rG a A1 c1 D1 d1) 2 0 3] (lP 0 0 (ct a A1 c1 D1 d1) hs (fun _ hs=>lL hs [.v 9 qT] (ae hs [(0,0,3)] (.tuple #[rG a A1 c1 D1 d1,qT]) (⟨_,rfl,RQ.eq ⟨_,_,_,_,rfl,hc1,hd1,hs.f.r.2.1,hs.f.r.1⟩ (Ad oM oM)⟩))))))
       have yf:=eq_of_beq zi;refine lB 47 zi (lL hs [.m 46 47] (ak (ab hs [.o 48 (rG a A1 c1 D1 d1) 2 0 3] ?_)));have hq91:LQ (K) (db a):=LQ.abs ha;refine lC 49 hs (Dz a A1 c1 D1 d1 hc1 hd1 (nl ha) (nD ha) _ _ hs.g hs.f.r.2.1 hs.f.r.1) ?_;rintro _ _ _ hs ⟨yX,Za,Zb,Zc,rfl,ZA,ZB,ZC,ZD⟩;replace hs:=hs.aP ZC ZD;exact lP 0 0 (ct (db a) yX Za Zb Zc) hs (fun _ hs=>lL hs [.v 9 qT] (ae hs [(0,0,3)] (.tuple #[rG (db a) yX Za Zb Zc,qT]) (⟨_,rfl,RQ.eq ⟨_,_,_,_,rfl,ZA,ZB,hs.f.2.1,hs.f.1⟩ (by rw[show op=9 by omega];rfl)⟩)))
      have ye:=eq_of_beq zg;refine lB 40 zg (lL hs [.m 39 40] (ak (ab hs [.o 41 (rG a A1 c1 D1 d1) 2 0 3,.m 42 1] (lC 43 hs (Ga a A1 c1 D1 d1 hc1 hd1 n K hK ha oM (hok.2 oM) _ _ hs.g hs.f.r.2.1 hs.f.r.1) ?_))));rintro _ _ _ hs ⟨_,rfl,zr,zs,zt,zu,rfl,yn,yo,yp,yq⟩;replace hs:=hs.aP yp yq;exact lL hs [.v 44 (rG (fa a n) zr zs zt zu),.v 45 qT] (lP 0 0 (ct (fa a n) zr zs zt zu) hs (fun _ hs=>lL hs [.m 9 45] (ae hs [(0,0,3)] (.tuple #[rG (fa a n) zr zs zt zu,qT]) (⟨_,rfl,RQ.eq ⟨_,_,_,_,rfl,yn,yo,hs.f.2.1,hs.f.1⟩ (by rw[show op=8 by omega];rfl)⟩))))
     have yd:=eq_of_beq zf;refine lB 36 zf (lL hs [.m 35 36] (ak (ab hs [.o 37 (rG a A1 c1 D1 d1) 2 0 3] ?_)));have hq114:LQ (K) (-a):=LQ.neg ha;refine lC 38 hs (Ee a A1 c1 D1 d1 hc1 hd1 (nl ha) (nD ha) _ _ hs.g hs.f.r.2.1 hs.f.r.1) ?_;rintro _ _ _ hs ⟨zv,zw,zx,zA,rfl,yr,ys,yt,yu⟩;replace hs:=hs.aP yt yu;exact lP 0 0 (ct (-a) zv zw zx zA) hs (fun _ hs=>lL hs [.v 9 qT] (ae hs [(0,0,3)] (.tuple #[rG (-a) zv zw zx zA,qT]) (⟨_,rfl,RQ.eq ⟨_,_,_,_,rfl,yr,ys,hs.f.2.1,hs.f.1⟩ (by rw[show op=7 by omega];rfl)⟩)))
    have yc:=eq_of_beq ze;refine lB 27 ze (lL hs [.m 26 27] (ak (cQ (ab hs [.o 28 (rG b A2 c2 D2 d2) 1 0 3] (ai 29 hs (nu b A2 c2 D2 d2 hc2 hd2 (nl hb) (nD hb) _ _ hs.g hs.f.2.1 hs.f.1) (fun _ _ hs=>?_))))));cases za:((b.num.sign:Int) == (0:Int))
    ·
     have zB:=af za;refine lB 30 za (ag (cK (ab hs [.o 32 (rG a A1 c1 D1 d1) 2 0 3,.o 33 (rG b A2 c2 D2 d2) 1 0 3] ?_)));have hq129:=LQ.div ha hb;refine lC 34 hs (BY a A1 c1 D1 d1 hc1 hd1 (nl ha) (nD ha) b A2 c2 D2 d2 hc2 hd2 (nl hb) (nD hb) (hok6 oM) _ _ hs.g hs.f.r.2.1 hs.f.r.1 hs.f.2.1 hs.f.1) ?_;rintro _ _ _ hs ⟨zD,zE,zG,zH,rfl,yv,yw,yx,yA⟩;replace hs:=hs.aP yx yA;exact lP 0 0 (ct (a/b) zD zE zG zH) hs (fun _ hs=>lL hs [.v 9 qT] (ae hs [(0,0,3)] (.tuple #[rG (a/b) zD zE zG zH,qT]) (⟨_,rfl,RQ.eq ⟨_,_,_,_,rfl,yv,yw,hs.f.2.1,hs.f.1⟩ (by rw[show op=6 by omega];rfl)⟩)))
    have zB:=eq_of_beq za;refine lB 30 za (ak (av (lC 31 hs (kr 0 oM oM _ _ hs.g) ?_)));rintro _ _ _ hs ⟨ZE,ZF,ZG,ZH,rfl,hc143,hc147,yB,yC⟩;replace hs:=hs.aP yB yC;refine lP 0 0 (ct ((0:Int):Rat) ZE ZF ZG ZH) hs (fun _ hs=>lL hs [.v 9 qF] (lN (kX ?_)));exact absurd (show b.num=0 by omega) (hok6 oM)
   have yb:=eq_of_beq zd;refine lB 22 zd (lL hs [.m 21 22] (ak (ab hs [.o 23 (rG a A1 c1 D1 d1) 2 0 3,.o 24 (rG b A2 c2 D2 d2) 1 0 3] ?_)));have hq152:=LQ.mul ha hb;refine lC 25 hs (DI a A1 c1 D1 d1 hc1 hd1 (nl ha) (nD ha) b A2 c2 D2 d2 hc2 hd2 (nl hb) (nD hb) _ _ hs.g hs.f.r.2.1 hs.f.r.1 hs.f.2.1 hs.f.1) ?_;rintro _ _ _ hs ⟨zI,zJ,zK,zL,rfl,yD,yE,yF,yG⟩;replace hs:=hs.aP yF yG;exact lP 0 0 (ct (a*b) zI zJ zK zL) hs (fun _ hs=>lL hs [.v 9 qT] (ae hs [(0,0,3)] (.tuple #[rG (a*b) zI zJ zK zL,qT]) (⟨_,rfl,RQ.eq ⟨_,_,_,_,rfl,yD,yE,hs.f.2.1,hs.f.1⟩ (by rw[show op=5 by omega];rfl)⟩)))
  have ya:=eq_of_beq zc;refine lB 17 zc (lL hs [.m 16 17] (ak (ab hs [.o 18 (rG a A1 c1 D1 d1) 2 0 3,.o 19 (rG b A2 c2 D2 d2) 1 0 3] ?_)));have hq164:=LQ.sub ha hb;refine lC 20 hs (FU a A1 c1 D1 d1 hc1 hd1 (nl ha) (nD ha) b A2 c2 D2 d2 hc2 hd2 (nl hb) (nD hb) _ _ hs.g hs.f.r.2.1 hs.f.r.1 hs.f.2.1 hs.f.1) ?_;rintro _ _ _ hs ⟨zM,zN,zP,zQ,rfl,yH,yI,yJ,yK⟩;replace hs:=hs.aP yJ yK;exact lP 0 0 (ct (a-b) zM zN zP zQ) hs (fun _ hs=>lL hs [.v 9 qT] (ae hs [(0,0,3)] (.tuple #[rG (a-b) zM zN zP zQ,qT]) (⟨_,rfl,RQ.eq ⟨_,_,_,_,rfl,yH,yI,hs.f.2.1,hs.f.1⟩ (by rw[show op=4 by omega];rfl)⟩)))
 have zX:=eq_of_beq zb;refine lB 12 zb (lL hs [.m 11 12] (ak (ab hs [.o 13 (rG a A1 c1 D1 d1) 2 0 3,.o 14 (rG b A2 c2 D2 d2) 1 0 3] ?_)));have hq176:=LQ.add ha hb;refine lC 15 hs (Dn a A1 c1 D1 d1 hc1 hd1 (nl ha) (nD ha) b A2 c2 D2 d2 hc2 hd2 (nl hb) (nD hb) _ _ hs.g hs.f.r.2.1 hs.f.r.1 hs.f.2.1 hs.f.1) ?_;rintro _ _ _ hs ⟨zR,zS,zU,zW,rfl,yL,yM,yN,yO⟩;replace hs:=hs.aP yN yO;exact lP 0 0 (ct (a+b) zR zS zU zW) hs (fun _ hs=>lL hs [.v 9 qT] (ae hs [(0,0,3)] (.tuple #[rG (a+b) zR zS zU zW,qT]) (⟨_,rfl,RQ.eq ⟨_,_,_,_,rfl,yL,yM,hs.f.2.1,hs.f.1⟩ (by rw[show op=3 by omega];rfl)⟩)))
theorem FC (op n:Int)(a:Rat)(A1:Option Addr)(c1:Nat)(D1:Option Addr)(d1:Nat)(hc1:(lim (aa a.num)).length≤c1)(hd1:(lim a.den).length≤d1)(b:Rat)(A2:Option Addr)(c2:Nat)(D2:Option Addr)(d2:Nat)(hc2:(lim (aa b.num)).length≤c2)(hd2:(lim b.den).length≤d2)(K:Nat)(hK:14*K+48≤100000000)(ha:LQ K a)(hb:LQ K b)(hop:op=6)(hz6:b=0)(w:World)(h:Hp)(g:G w h)(hA1:S3 A1 (lim (aa a.num)) h)(hD1:S3 D1 (lim a.den) h)(hA2:S3 A2 (lim (aa b.num)) h)(hD2:S3 D2 (lim b.den) h):CR 48 #[iV op,iV n,rG a A1 c1 D1 d1,rG b A2 c2 D2 d2] w h (fun v h1=>∃ x,v=.tuple #[x,.bool false]∧RQ h1 x ((0:Int):Rat)):=by
 have hs:=(((((sS g).aS hA1).aS hD1).aS hA2).aS hD2);have hsz:b.num.sign=0:=by rw[hz6];rfl
 refine go Tryz.func48 [(0,iV op),(1,iV n),(2,rG a A1 c1 D1 d1),(3,rG b A2 c2 D2 d2)] rfl (av (lA 6 28 (ct a A1 c1 D1 d1) hs (fun b1 w2 h3 hs=>lA 7 28 (ct b A2 c2 D2 d2) hs (fun b4 w5 h6 hs=>lA 8 28 ([qF,sZ,sZ]) hs (fun b7 w8 h9 hs=>lL hs [.v 9 qF] (ah (ab hs [.m 10 0] (a8 (av ?_)))))))));have za:((op:Int) == (3:Int))=false:=cw oM;have phb10:=af za;refine lB 12 za (lL hs [.m 11 12] (ag (av ?_)));have zb:((op:Int) == (4:Int))=false:=cw oM;have phb11:=af zb;refine lB 17 zb (lL hs [.m 16 17] (ag (av ?_)));have zc:((op:Int) == (5:Int))=false:=cw oM;have phb12:=af zc;refine lB 22 zc (lL hs [.m 21 22] (ag (av ?_)));have zd:((op:Int) == (6:Int))=true:=jg oM;have phb13:=eq_of_beq zd;refine lB 27 zd (lL hs [.m 26 27] (ak (cQ (ab hs [.o 28 (rG b A2 c2 D2 d2) 1 0 3] (ai 29 hs (nu b A2 c2 D2 d2 hc2 hd2 (nl hb) (nD hb) _ _ hs.g hs.f.2.1 hs.f.1) (fun _ _ hs=>?_))))));have ze:((b.num.sign:Int) == (0:Int))=true:=jg oM;have phb16:=eq_of_beq ze;refine lB 30 ze (ak (av (lC 31 hs (kr 0 oM oM _ _ hs.g) ?_)));rintro _ _ _ hs ⟨zf,zg,zi,zj,rfl,zk,zl,zm,zn⟩;replace hs:=hs.aP zm zn;exact lP 0 0 (ct ((0:Int):Rat) zf zg zi zj) hs (fun _ hs=>lL hs [.v 9 qF] (ae hs [(0,0,3)] (.tuple #[rG ((0:Int):Rat) zf zg zi zj,qF]) (⟨_,rfl,⟨_,_,_,_,rfl,zk,zl,hs.f.2.1,hs.f.1⟩⟩)))
theorem FA (op n:Int)(a:Rat)(A1:Option Addr)(c1:Nat)(D1:Option Addr)(d1:Nat)(hc1:(lim (aa a.num)).length≤c1)(hd1:(lim a.den).length≤d1)(b:Rat)(A2:Option Addr)(c2:Nat)(D2:Option Addr)(d2:Nat)(hc2:(lim (aa b.num)).length≤c2)(hd2:(lim b.den).length≤d2)(K:Nat)(hK:14*K+48≤100000000)(ha:LQ K a)(hb:LQ K b)(hop:op=8)(hn : -12≤n∧n<0)(hz8:a=0)(w:World)(h:Hp)(g:G w h)(hA1:S3 A1 (lim (aa a.num)) h)(hD1:S3 D1 (lim a.den) h)(hA2:S3 A2 (lim (aa b.num)) h)(hD2:S3 D2 (lim b.den) h):CR 48 #[iV op,iV n,rG a A1 c1 D1 d1,rG b A2 c2 D2 d2] w h (fun v h1=>∃ x,v=.tuple #[x,.bool false]∧RQ h1 x ((0:Int):Rat)):=by
 have hs:=(((((sS g).aS hA1).aS hD1).aS hA2).aS hD2);refine go Tryz.func48 [(0,iV op),(1,iV n),(2,rG a A1 c1 D1 d1),(3,rG b A2 c2 D2 d2)] rfl (av (lA 6 28 (ct a A1 c1 D1 d1) hs (fun b1 w2 h3 hs=>lA 7 28 (ct b A2 c2 D2 d2) hs (fun b4 w5 h6 hs=>lA 8 28 ([qF,sZ,sZ]) hs (fun b7 w8 h9 hs=>lL hs [.v 9 qF] (ah (ab hs [.m 10 0] (a8 (av ?_)))))))));have za:((op:Int) == (3:Int))=false:=cw oM;have phb10:=af za;refine lB 12 za (lL hs [.m 11 12] (ag (av ?_)));have zb:((op:Int) == (4:Int))=false:=cw oM;have phb11:=af zb;refine lB 17 zb (lL hs [.m 16 17] (ag (av ?_)));have zc:((op:Int) == (5:Int))=false:=cw oM;have phb12:=af zc;refine lB 22 zc (lL hs [.m 21 22] (ag (av ?_)));have zd:((op:Int) == (6:Int))=false:=cw oM;have phb13:=af zd;refine lB 27 zd (lL hs [.m 26 27] (ag (av ?_)));have ze:((op:Int) == (7:Int))=false:=cw oM;have phb14:=af ze;refine lB 36 ze (lL hs [.m 35 36] (ag (av ?_)));have zf:((op:Int) == (8:Int))=true:=jg oM;have phb15:=eq_of_beq zf;refine lB 40 zf (lL hs [.m 39 40] (ak (ab hs [.o 41 (rG a A1 c1 D1 d1) 2 0 3,.m 42 1] (lC 43 hs (DM a A1 c1 D1 d1 hc1 hd1 n K hK ha oM oM hz8 _ _ hs.g hs.f.r.2.1 hs.f.r.1) ?_))));rintro _ _ _ hs ⟨_,rfl,zg,zi,zj,zk,rfl,zl,zm,zn,zo⟩;replace hs:=hs.aP zn zo;exact lL hs [.v 44 (rG ((0:Int):Rat) zg zi zj zk),.v 45 qF] (lP 0 0 (ct ((0:Int):Rat) zg zi zj zk) hs (fun _ hs=>lL hs [.m 9 45] (ae hs [(0,0,3)] (.tuple #[rG ((0:Int):Rat) zg zi zj zk,qF]) (⟨_,rfl,⟨_,_,_,_,rfl,zl,zm,hs.f.2.1,hs.f.1⟩⟩))))
theorem Gn (op n:Int)(a:Rat)(A1:Option Addr)(c1:Nat)(D1:Option Addr)(d1:Nat)(hc1:(lim (aa a.num)).length≤c1)(hd1:(lim a.den).length≤d1)(b:Rat)(A2:Option Addr)(c2:Nat)(D2:Option Addr)(d2:Nat)(hc2:(lim (aa b.num)).length≤c2)(hd2:(lim b.den).length≤d2)(K:Nat)(hK:14*K+48≤100000000)(ha:LQ K a)(hb:LQ K b)(hop:3≤op∧op≤13)(hn:op=8 → -12≤n∧n≤12)(w:World)(h:Hp)(g:G w h)(hA1:S3 A1 (lim (aa a.num)) h)(hD1:S3 D1 (lim a.den) h)(hA2:S3 A2 (lim (aa b.num)) h)(hD2:S3 D2 (lim b.den) h):CR 48 #[iV op,iV n,rG a A1 c1 D1 d1,rG b A2 c2 D2 d2] w h (fun v h1=>∃ x,v=.tuple #[x,.bool (decide (iH op n a b))]∧RQ h1 x (f9 op n 0 a b)):=by
 by_cases hok:iH op n a b
 ·unfold f9;rw[if_pos hok,decide_eq_true hok];exact Fu op n a A1 c1 D1 d1 hc1 hd1 b A2 c2 D2 d2 hc2 hd2 K hK ha hb hop hn hok w h g hA1 hD1 hA2 hD2
 ·unfold f9;rw[if_neg hok,decide_eq_false hok]
  by_cases h6:op=6∧b=0
  ·exact FC op n a A1 c1 D1 d1 hc1 hd1 b A2 c2 D2 d2 hc2 hd2 K hK ha hb h6.1 h6.2 w h g hA1 hD1 hA2 hD2
  ·by_cases h8:op=8∧n<0∧a=0
   ·exact FA op n a A1 c1 D1 d1 hc1 hd1 b A2 c2 D2 d2 hc2 hd2 K hK ha hb h8.1 ⟨(hn h8.1).1,h8.2.1⟩ h8.2.2 w h g hA1 hD1 hA2 hD2
   ·exact absurd ⟨fun x y=>h6 ⟨x,y⟩,fun x y z=>h8 ⟨x,y,z⟩⟩ hok
theorem WfT.two {ok:ByteArray→Prop}{d:Nat}{t:Tm}(h:WfT ok (d+1) t):t.ks.length≤2:=by
 have:=h.1;have:=aF t.op
 omega
structure RecOk (nm:Int→ByteArray) (inp:Int) (d:Nat) (l:List Stp) (l2:List Stp) (n:Nat) (t:Tm):Prop where
  lq:(∀ i,LQ 1 (l.getD i dX).q)→∀ i,LQ 1 (l2.getD i dX).q
  dps:∀ dp,DpS dp l→∃ dp',DpS dp' l2∧(∀ k,k<l.length→dp' k=dp k)∧dp' (l2.length-1)≤d
  pre:∃ m,l2=l++m
  len:l2.length=l.length+n
  pos:0<n
  fm:∀ k,k<l2.length→gU inp k (l2.getD k dX)
  tr:∀ f,l2.length≤f→Dw nm l2 f (l2.length-1)=t
structure AllOk (nm:Int→ByteArray) (inp:Int) (d:Nat) (ts:List Tm) (k:Nat) (l:List Stp) (os:List Int) (c:Nat):Prop where
  len:l.length=c
  fm:∀ k,k<l.length→gU inp k (l.getD k dX)
  lq:∀ i,LQ 1 (l.getD i dX).q
  dps:∃ dp,DpS dp l
  out:∀ j,j<k→0≤os.getD j 0∧os.getD j 0<(l.length:Nat)∧Dw nm l (l.length+1) (os.getD j 0).toNat=ts.getD j bz
theorem rW (bq:Bool)(zA:Option Addr)(zn zc:Nat)(dA:Option Addr)(dn dc:Nat)(q:Rat)(w:World)(h:Hp)(g:G w h)(hZ:RZ h (bq,.slice zA zn zc,.slice dA dn dc) q):Calls Tryz.prog 86 #[.agg #[.bool bq,.slice zA zn zc,.slice dA dn dc]] w (Ret w h (fun v _=>v=.bool (decide (q.num=0)))):=by
 obtain ⟨has,⟨A,c,D,d,e,hc,hd,hA,hD⟩,hz⟩:=hZ;have e2:(Value.agg #[.bool bq,qS zA zn zc,qS dA dn dc])=.agg #[.bool (ac q.num),qS A (lim (aa q.num)).length c,qS D (lim (if has then q.den else 0)).length d]:=e;rw[e2];have q_:=AM q.num A c (if has then q.den else 0) D d hc hd w h g hA hD
 have e3:decide ((if has=true then q.den else 0)=0∨q.num=0)=decide (q.num=0):=by
  cases has
  ·rw[decide_eq_true (.inl rfl),decide_eq_true];rw[hz rfl];rfl
  ·have:=q.den_nz
   by_cases e:q.num=0
   ·rw[decide_eq_true (.inr e),decide_eq_true e]
   ·rw[decide_eq_false (fun h=>h.elim this e),decide_eq_false e]
 rw[e3] at q_
 exact q_
theorem sx  (isb:ByteArray→Bool)(sm:ByteArray→Prop)(hIs:∀ s,sm s→∀ (w:World) (h:Hp),G w h→Calls Tryz.prog 85 #[.string s] w (Ret w h (fun v _=>∃ b,v=.bool b∧b=isb s)))(d:Nat)(ih:∀ (r:RTm) (t:Tm) (w:World) (h:Hp),G w h→RmH d h r t→SmT sm d t →  Calls Tryz.prog 45 #[e7 r] w (Ret w h (fun v _=>∃ bb,v=.bool bb∧(bb=true↔WfT (fun s=>isb s=true) d t))))(op n:Int)(bq:Bool)(zA:Option Addr)(zn zc:Nat)(dA:Option Addr)(dn dc:Nat)(q:Rat)(s:ByteArray)(A:Option Addr)(c:Nat)(rs:List RTm)(ks:List Tm)(hc:rs.length≤c)(hk3:ks.length≤3)(hop : -1000≤op∧op≤1000)(hn : -1000≤n∧n≤1000)(hq:LQ 1 q)(hsm:sm s)(hW:∀ i,i<ks.length→SmT sm d (ks.getD i bz))(w:World)(h:Hp)(g:G w h)(hZ:RZ h (bq,.slice zA zn zc,.slice dA dn dc) q)(hK:SlO 7 fO ax h A rs)(hKs:Rms d h rs ks):CR 45 #[.agg #[iV op,iV n,.bool bq,.slice zA zn zc,.slice dA dn dc,.string s,.slice A rs.length c]] w h (fun v _=>∃ bb,v=.bool bb∧(bb=true↔WfT (fun s=>isb s=true) (d+1) (.mk op n q s ks))):=by
 have hs:=((((sS g).add (K:=fun h_=>RZ h_ (bq,qS zA zn zc,qS dA dn dc) q) hZ).aS hK).add (K:=fun h_=>Rms d h_ rs ks) hKs);have hln:=(hs.f.1).len;refine go Tryz.func45 [(0,.agg #[iV op,iV n,.bool bq,qS zA zn zc,qS dA dn dc,.string s,qS A rs.length c])] rfl (av (lA 1 31 ([iV op,iV n,.bool bq,qS zA zn zc,qS dA dn dc,.string s,qS A rs.length c]) hs (fun b1 w2 h3 hs=>lL hs [.v 2 qF] (aG (lL hs [.v 5 (pB b1),.o 6 (iV op) 0 0 1] (ai 7 hs (Er op _ _ hs.g) (fun w4 h5 hs=>?_)))))));refine lL hs [.m 3 7] (ah (CG.join (fun Γ w_=>∃ (zo:Bool) (h_:Hp),Γ=[(1,pB b1),(2,qF),(68,.bool zo)]∧SS w h w_ h_ [⟨b1,31,[iV op,iV n,.bool bq,qS zA zn zc,qS dA dn dc,.string s,qS A rs.length c]⟩] [] [fun h_=>Rms d h_ rs ks,fun h_=>SlO 7 fO ax h_ A rs,fun h_=>RZ h_ (bq,qS zA zn zc,qS dA dn dc) q]∧(zo=true→¬((0≤fs op∧(ks.length:Int)=fs op)∧((op=2→isb s=true)∧(op≠2→s=⟨#[]⟩))∧(op=1∨q.num=0)∧(op=8∨n=0) ∧ -12≤n∧n≤12))∧(zo=false→((0≤fs op∧(ks.length:Int)=fs op)∧((op=2→isb s=true)∧(op≠2→s=⟨#[]⟩))∧(op=1∨q.num=0)∧(op=8∨n=0) ∧ -12≤n∧n≤12))) ?_ ?_))
 ·
  refine kQ (lL hs [.m 8 3] ?_);cases hb6:(decide ((fs op:Int)<(0:Int)))
  ·
   have phb6:=oF hb6;refine lB 9 hb6 (lL hs [.m 10 9,.v 11 (qP b1 6),.o 12 (qS A rs.length c) 0 6 1,.v 13 (nV rs.length),.m 14 3] ?_);cases hb7:((rs.length:Int) != (fs op:Int))
   ·
    have phb7:=aY hb7;refine lB 15 hb7 (lL hs [.v 16 qF,.m 17 16,.v 18 (pB b1),.o 19 (iV op) 0 0 1] ?_);cases hb8:((op:Int) == (2:Int))
    ·
     have phb8:=af hb8;refine lB 20 hb8 (lL hs [.m 21 20] (lG 22 ?_));refine lG 23 (lG 24 (lG 25 (lL hs [.v 26 qF,.v 27 qF,.m 28 27,.v 29 (pB b1),.o 30 (iV op) 0 0 1] ?_)));have hb9:((op:Int) != (2:Int))=true:=r7 oM;have phb9:=ay hb9;refine lB 31 hb9 (lL hs [.m 32 31,.v 33 (qP b1 5),.o 34 (.string s) 0 5 1] ?_);cases zb:(kV s (⟨#[]⟩))
     ·
      have zw:=pU zb;refine lB 35 zb (lL hs [.v 36 qF,.v 37 qF,.m 38 37,.v 39 (pB b1),.o 40 (iV op) 0 0 1] ?_);cases zd:((op:Int) != (1:Int))
      ·
       have zx:=aY zd;refine lB 41 zd (lL hs [.m 42 41] (lG 43 ?_));refine lG 44 (lG 45 (lG 46 (lL hs [.v 47 qF,.v 48 qF,.m 49 48,.v 50 (pB b1),.o 51 (iV op) 0 0 1] ?_)));have zp:((op:Int) != (8:Int))=true:=r7 oM;have phb12:=ay zp;refine lB 52 zp (lL hs [.m 53 52,.v 54 (qP b1 1),.o 55 (iV n) 0 1 1] ?_);cases ze:((n:Int) != (0:Int))
       ·
        have zB:=aY ze;refine lB 56 ze (lL hs [.v 57 qF,.v 58 qF,.m 59 58,.v 60 (qP b1 1),.o 61 (iV n) 0 1 1] ?_);have ⟨zM,phb14⟩:=dF (p:=(n:Int)<(-12:Int)) oM;refine lB 62 zM (lL hs [.v 63 qF,.m 64 63,.v 65 (qP b1 1),.o 66 (iV n) 0 1 1] ?_);have ⟨zN,phb15⟩:=dF (p:=(12:Int)<(n:Int)) oM;refine lB 67 zN (lL hs [.v 68 qF] (lD ?_));intro a_ ka;exact ⟨_,⟨false,h5,rfl,hs.to _ _,(fun h_=>absurd h_ kD),(fun _=>⟨by omega,⟨fun h_=>by first|exact hbi.symm.trans aM|exact absurd h_ oM,fun h_=>by first|assumption|exact absurd h_ oM⟩,by omega,by omega⟩)⟩,ka.to _ kR⟩
       have zB:=ay ze;refine lB 56 ze (lL hs [.v 57 qT,.v 58 qT,.m 59 58] (lG 60 ?_));refine lG 61 (lG 62 (lL hs [.v 63 qT,.m 64 63] (lG 65 ?_)));refine lG 66 (lG 67 (lL hs [.v 68 qT] (lD ?_)));intro a_ ka;exact ⟨_,⟨true,h5,rfl,hs.to _ _,(fun _ h_=>by first|exact Bool.noConfusion ((h_.2.1.1 oM).symm.trans (hbi.symm.trans aM))|exact absurd (h_.2.1.2 oM) aM|(have h1_:=h_.1;have h2_:=h_.2.2;omega)),(fun h_=>absurd h_ kD)⟩,ka.to _ kR⟩
      have zx:=ay zd;refine lB 41 zd (lL hs [.m 42 41,.v 43 (qP b1 2),.o 44 (.agg #[.bool bq,qS zA zn zc,qS dA dn dc]) 0 2 3] (ai 45 hs (rW bq zA zn zc dA dn dc q _ _ hs.g hs.f.r.1) (fun _ za hs=>?_)));cases zq:(decide (q.num=0))
      ·
       have zD:=oF zq;refine lL hs [.v 46 qT,.v 47 qT,.v 48 qT,.m 49 48] (lG 50 ?_);refine lG 51 (lG 52 (lG 53 (lG 54 (lG 55 (lG 56 (lG 57 (lL hs [.v 58 qT,.m 59 58] (lG 60 ?_))))))));refine lG 61 (lG 62 (lL hs [.v 63 qT,.m 64 63] (lG 65 ?_)));refine lG 66 (lG 67 (lL hs [.v 68 qT] (lD ?_)));intro a_ ka;exact ⟨_,⟨true,za,rfl,hs.to _ _,(fun _ h_=>by first|exact Bool.noConfusion ((h_.2.1.1 oM).symm.trans (hbi.symm.trans aM))|exact absurd (h_.2.1.2 oM) aM|(have h1_:=h_.1;have h2_:=h_.2.2;omega)),(fun h_=>absurd h_ kD)⟩,ka.to _ kR⟩
      have zD:=oT zq;refine lL hs [.v 46 qF,.v 47 qF,.v 48 qF,.m 49 48,.v 50 (pB b1),.o 51 (iV op) 0 0 1] ?_;cases zf:((op:Int) != (8:Int))
      ·
       have zE:=aY zf;refine lB 52 zf (lL hs [.m 53 52] (lG 54 ?_));refine lG 55 (lG 56 (lL hs [.v 57 qF,.v 58 qF,.m 59 58,.v 60 (qP b1 1),.o 61 (iV n) 0 1 1] ?_));cases zg:(decide ((n:Int)<(-12:Int)))
       ·
        have zG:=oF zg;refine lB 62 zg (lL hs [.v 63 qF,.m 64 63,.v 65 (qP b1 1),.o 66 (iV n) 0 1 1] ?_);cases zi:(decide ((12:Int)<(n:Int)))
        ·
         have zH:=oF zi;refine lB 67 zi (lL hs [.v 68 qF] (lD ?_));intro a_ ka;exact ⟨_,⟨false,za,rfl,hs.to _ _,(fun h_=>absurd h_ kD),(fun _=>⟨by omega,⟨fun h_=>by first|exact hbi.symm.trans aM|exact absurd h_ oM,fun h_=>by first|assumption|exact absurd h_ oM⟩,by omega,by omega⟩)⟩,ka.to _ kR⟩
        have zH:=oT zi;refine lB 67 zi (lL hs [.v 68 qT] (lD ?_));intro a_ ka;exact ⟨_,⟨true,za,rfl,hs.to _ _,(fun _ h_=>by first|exact Bool.noConfusion ((h_.2.1.1 oM).symm.trans (hbi.symm.trans aM))|exact absurd (h_.2.1.2 oM) aM|(have h1_:=h_.1;have h2_:=h_.2.2;omega)),(fun h_=>absurd h_ kD)⟩,ka.to _ kR⟩
       have zG:=oT zg;refine lB 62 zg (lL hs [.v 63 qT,.m 64 63] (lG 65 ?_));refine lG 66 (lG 67 (lL hs [.v 68 qT] (lD ?_)));intro a_ ka;exact ⟨_,⟨true,za,rfl,hs.to _ _,(fun _ h_=>by first|exact Bool.noConfusion ((h_.2.1.1 oM).symm.trans (hbi.symm.trans aM))|exact absurd (h_.2.1.2 oM) aM|(have h1_:=h_.1;have h2_:=h_.2.2;omega)),(fun h_=>absurd h_ kD)⟩,ka.to _ kR⟩
      have zE:=ay zf;refine lB 52 zf (lL hs [.m 53 52,.v 54 (qP b1 1),.o 55 (iV n) 0 1 1] ?_);cases zj:((n:Int) != (0:Int))
      ·
       have zI:=aY zj;refine lB 56 zj (lL hs [.v 57 qF,.v 58 qF,.m 59 58,.v 60 (qP b1 1),.o 61 (iV n) 0 1 1] ?_);have ⟨zP,phb35⟩:=dF (p:=(n:Int)<(-12:Int)) oM;refine lB 62 zP (lL hs [.v 63 qF,.m 64 63,.v 65 (qP b1 1),.o 66 (iV n) 0 1 1] ?_);have ⟨zQ,phb36⟩:=dF (p:=(12:Int)<(n:Int)) oM;refine lB 67 zQ (lL hs [.v 68 qF] (lD ?_));intro a_ ka;exact ⟨_,⟨false,za,rfl,hs.to _ _,(fun h_=>absurd h_ kD),(fun _=>⟨by omega,⟨fun h_=>by first|exact hbi.symm.trans aM|exact absurd h_ oM,fun h_=>by first|assumption|exact absurd h_ oM⟩,by omega,by omega⟩)⟩,ka.to _ kR⟩
      have zI:=ay zj;refine lB 56 zj (lL hs [.v 57 qT,.v 58 qT,.m 59 58] (lG 60 ?_));refine lG 61 (lG 62 (lL hs [.v 63 qT,.m 64 63] (lG 65 ?_)));refine lG 66 (lG 67 (lL hs [.v 68 qT] (lD ?_)));intro a_ ka;exact ⟨_,⟨true,za,rfl,hs.to _ _,(fun _ h_=>by first|exact Bool.noConfusion ((h_.2.1.1 oM).symm.trans (hbi.symm.trans aM))|exact absurd (h_.2.1.2 oM) aM|(have h1_:=h_.1;have h2_:=h_.2.2;omega)),(fun h_=>absurd h_ kD)⟩,ka.to _ kR⟩
     have zw:=o4 zb;refine lB 35 zb (lL hs [.v 36 qT,.v 37 qT,.m 38 37] (lG 39 ?_));refine lG 40 (lG 41 (lG 42 (lG 43 (lG 44 (lG 45 (lG 46 (lG 47 (lL hs [.v 48 qT,.m 49 48] (lG 50 ?_)))))))));refine lG 51 (lG 52 (lG 53 (lG 54 (lG 55 (lG 56 (lG 57 (lL hs [.v 58 qT,.m 59 58] (lG 60 ?_))))))));refine lG 61 (lG 62 (lL hs [.v 63 qT,.m 64 63] (lG 65 ?_)));refine lG 66 (lG 67 (lL hs [.v 68 qT] (lD ?_)));intro a_ ka;exact ⟨_,⟨true,h5,rfl,hs.to _ _,(fun _ h_=>by first|exact Bool.noConfusion ((h_.2.1.1 oM).symm.trans (hbi.symm.trans aM))|exact absurd (h_.2.1.2 oM) aM|(have h1_:=h_.1;have h2_:=h_.2.2;omega)),(fun h_=>absurd h_ kD)⟩,ka.to _ kR⟩
    have phb8:=eq_of_beq hb8;refine lB 20 hb8 (lL hs [.m 21 20,.v 22 (qP b1 5),.o 23 (.string s) 0 5 1] (lC 24 hs (hIs s hsm _ _ hs.g) ?_));rintro _ _ zW hs ⟨bi,rfl,hbi⟩;cases hb45:(bi)
    ·
     refine lL hs [.v 25 qT,.v 26 qT,.v 27 qT,.m 28 27] (lG 29 ?_);refine lG 30 (lG 31 (lG 32 (lG 33 (lG 34 (lG 35 (lG 36 (lL hs [.v 37 qT,.m 38 37] (lG 39 ?_))))))));refine lG 40 (lG 41 (lG 42 (lG 43 (lG 44 (lG 45 (lG 46 (lG 47 (lL hs [.v 48 qT,.m 49 48] (lG 50 ?_)))))))));refine lG 51 (lG 52 (lG 53 (lG 54 (lG 55 (lG 56 (lG 57 (lL hs [.v 58 qT,.m 59 58] (lG 60 ?_))))))));refine lG 61 (lG 62 (lL hs [.v 63 qT,.m 64 63] (lG 65 ?_)));refine lG 66 (lG 67 (lL hs [.v 68 qT] (lD ?_)));intro a_ ka;exact ⟨_,⟨true,zW,rfl,hs.to _ _,(fun _ h_=>by first|exact Bool.noConfusion ((h_.2.1.1 oM).symm.trans (hbi.symm.trans aM))|exact absurd (h_.2.1.2 oM) aM|(have h1_:=h_.1;have h2_:=h_.2.2;omega)),(fun h_=>absurd h_ kD)⟩,ka.to _ kR⟩
    refine lL hs [.v 25 qF,.v 26 qF,.v 27 qF,.m 28 27,.v 29 (pB b1),.o 30 (iV op) 0 0 1] ?_;have zr:((op:Int) != (2:Int))=false:=Fb oM;have phb48:=aY zr;refine lB 31 zr (lL hs [.m 32 31] (lG 33 ?_));refine lG 34 (lG 35 (lL hs [.v 36 qF,.v 37 qF,.m 38 37,.v 39 (pB b1),.o 40 (iV op) 0 0 1] ?_));have zs:((op:Int) != (1:Int))=true:=r7 oM;have phb49:=ay zs;refine lB 41 zs (lL hs [.m 42 41,.v 43 (qP b1 2),.o 44 (.agg #[.bool bq,qS zA zn zc,qS dA dn dc]) 0 2 3] (ai 45 hs (rW bq zA zn zc dA dn dc q _ _ hs.g hs.f.r.1) (fun _ zt hs=>?_)));cases zu:(decide (q.num=0))
    ·
     have zJ:=oF zu;refine lL hs [.v 46 qT,.v 47 qT,.v 48 qT,.m 49 48] (lG 50 ?_);refine lG 51 (lG 52 (lG 53 (lG 54 (lG 55 (lG 56 (lG 57 (lL hs [.v 58 qT,.m 59 58] (lG 60 ?_))))))));refine lG 61 (lG 62 (lL hs [.v 63 qT,.m 64 63] (lG 65 ?_)));refine lG 66 (lG 67 (lL hs [.v 68 qT] (lD ?_)));intro a_ ka;exact ⟨_,⟨true,zt,rfl,hs.to _ _,(fun _ h_=>by first|exact Bool.noConfusion ((h_.2.1.1 oM).symm.trans (hbi.symm.trans aM))|exact absurd (h_.2.1.2 oM) aM|(have h1_:=h_.1;have h2_:=h_.2.2;omega)),(fun h_=>absurd h_ kD)⟩,ka.to _ kR⟩
    have zJ:=oT zu;refine lL hs [.v 46 qF,.v 47 qF,.v 48 qF,.m 49 48,.v 50 (pB b1),.o 51 (iV op) 0 0 1] ?_;have zv:((op:Int) != (8:Int))=true:=r7 oM;have phb55:=ay zv;refine lB 52 zv (lL hs [.m 53 52,.v 54 (qP b1 1),.o 55 (iV n) 0 1 1] ?_);cases zk:((n:Int) != (0:Int))
    ·
     have zK:=aY zk;refine lB 56 zk (lL hs [.v 57 qF,.v 58 qF,.m 59 58,.v 60 (qP b1 1),.o 61 (iV n) 0 1 1] ?_);have ⟨zR,phb57⟩:=dF (p:=(n:Int)<(-12:Int)) oM;refine lB 62 zR (lL hs [.v 63 qF,.m 64 63,.v 65 (qP b1 1),.o 66 (iV n) 0 1 1] ?_);have ⟨zS,phb58⟩:=dF (p:=(12:Int)<(n:Int)) oM;refine lB 67 zS (lL hs [.v 68 qF] (lD ?_));intro a_ ka;exact ⟨_,⟨false,zt,rfl,hs.to _ _,(fun h_=>absurd h_ kD),(fun _=>⟨by omega,⟨fun h_=>by first|exact hbi.symm.trans aM|exact absurd h_ oM,fun h_=>by first|assumption|exact absurd h_ oM⟩,by omega,by omega⟩)⟩,ka.to _ kR⟩
    have zK:=ay zk;refine lB 56 zk (lL hs [.v 57 qT,.v 58 qT,.m 59 58] (lG 60 ?_));refine lG 61 (lG 62 (lL hs [.v 63 qT,.m 64 63] (lG 65 ?_)));refine lG 66 (lG 67 (lL hs [.v 68 qT] (lD ?_)));intro a_ ka;exact ⟨_,⟨true,zt,rfl,hs.to _ _,(fun _ h_=>by first|exact Bool.noConfusion ((h_.2.1.1 oM).symm.trans (hbi.symm.trans aM))|exact absurd (h_.2.1.2 oM) aM|(have h1_:=h_.1;have h2_:=h_.2.2;omega)),(fun h_=>absurd h_ kD)⟩,ka.to _ kR⟩
   have phb7:=ay hb7;refine lB 15 hb7 (lL hs [.v 16 qT,.m 17 16] (lG 18 ?_));refine lG 19 (lG 20 (lG 21 (lG 22 (lG 23 (lG 24 (lG 25 (lG 26 (lL hs [.v 27 qT,.m 28 27] (lG 29 ?_)))))))));refine lG 30 (lG 31 (lG 32 (lG 33 (lG 34 (lG 35 (lG 36 (lL hs [.v 37 qT,.m 38 37] (lG 39 ?_))))))));refine lG 40 (lG 41 (lG 42 (lG 43 (lG 44 (lG 45 (lG 46 (lG 47 (lL hs [.v 48 qT,.m 49 48] (lG 50 ?_)))))))));refine lG 51 (lG 52 (lG 53 (lG 54 (lG 55 (lG 56 (lG 57 (lL hs [.v 58 qT,.m 59 58] (lG 60 ?_))))))));refine lG 61 (lG 62 (lL hs [.v 63 qT,.m 64 63] (lG 65 ?_)));refine lG 66 (lG 67 (lL hs [.v 68 qT] (lD ?_)));intro a_ ka;exact ⟨_,⟨true,h5,rfl,hs.to _ _,(fun _ h_=>by first|exact Bool.noConfusion ((h_.2.1.1 oM).symm.trans (hbi.symm.trans aM))|exact absurd (h_.2.1.2 oM) aM|(have h1_:=h_.1;have h2_:=h_.2.2;omega)),(fun h_=>absurd h_ kD)⟩,ka.to _ kR⟩
  have phb6:=oT hb6;refine lB 9 hb6 (lL hs [.m 10 9] (lG 11 ?_));refine lG 12 (lG 13 (lG 14 (lG 15 (lL hs [.v 16 qT,.m 17 16] (lG 18 ?_)))));refine lG 19 (lG 20 (lG 21 (lG 22 (lG 23 (lG 24 (lG 25 (lG 26 (lL hs [.v 27 qT,.m 28 27] (lG 29 ?_)))))))));refine lG 30 (lG 31 (lG 32 (lG 33 (lG 34 (lG 35 (lG 36 (lL hs [.v 37 qT,.m 38 37] (lG 39 ?_))))))));refine lG 40 (lG 41 (lG 42 (lG 43 (lG 44 (lG 45 (lG 46 (lG 47 (lL hs [.v 48 qT,.m 49 48] (lG 50 ?_)))))))));refine lG 51 (lG 52 (lG 53 (lG 54 (lG 55 (lG 56 (lG 57 (lL hs [.v 58 qT,.m 59 58] (lG 60 ?_))))))));refine lG 61 (lG 62 (lL hs [.v 63 qT,.m 64 63] (lG 65 ?_)));refine lG 66 (lG 67 (lL hs [.v 68 qT] (lD ?_)));intro a_ ka;exact ⟨_,⟨true,h5,rfl,hs.to _ _,(fun _ h_=>by first|exact Bool.noConfusion ((h_.2.1.1 oM).symm.trans (hbi.symm.trans aM))|exact absurd (h_.2.1.2 oM) aM|(have h1_:=h_.1;have h2_:=h_.2.2;omega)),(fun h_=>absurd h_ kD)⟩,ka.to _ kR⟩
 rintro _ _ ⟨zo,zX,rfl,hs,zU,hF68⟩;cases zl:(zo)
 ·
  try rw[zl] at hs
  try rw[zl]
  refine cY (cK (cQ (ab hs [.v 4 (iV 0)] (a8 ?_))));refine bI _ (CG.loop (fun μ_ Γ w_=>∃ (k:Nat) (h_:Hp),μ_=rs.length-k∧Γ=[(1,pB b1),(4,nV k)]∧SS w h w_ h_ [⟨b1,31,[iV op,iV n,.bool bq,qS zA zn zc,qS dA dn dc,.string s,qS A rs.length c]⟩] [] [fun h_=>Rms d h_ rs ks,fun h_=>SlO 7 fO ax h_ A rs,fun h_=>RZ h_ (bq,qS zA zn zc,qS dA dn dc) q]∧k≤rs.length∧(∀ i,i<k→WfT (fun s=>isb s=true) d (ks.getD i bz))) _ ⟨0,zX,rfl,rfl,hs.to _ _,Nat.zero_le _,(fun i hi=>absurd hi (Nat.not_lt_zero i))⟩ ?_);rintro _ _ _ ⟨k,_,hm72,rfl,hs,hk,hWk⟩;refine cQ (ab hs [.m 69 4,.v 70 (qP b1 6),.o 71 (qS A rs.length c) 0 6 1,.v 72 (nV rs.length)] ?_);cases zm:(decide ((k:Int)<(rs.length:Int)))
  ·
   have zL:=oF zm;refine lB 73 zm (ag (CG.exit ?_))
   show CG _ _ _ _ _ _ _ _
   exact ab hs [.v 2 qT] (ae hs [] qT (AV ⟨by have h1_:=(hF68 aM).1;omega,(hF68 aM).2.2.1,(hF68 aM).2.1,(hF68 aM).2.2.2⟩ hq (fun i hi=>hWk i oM)))
  have zL:=oT zm;refine lB 73 zm (ak (cK (cQ (kZ (ab hs [.v 76 (qP b1 6),.o 77 (qS A rs.length c) 0 6 1,.m 78 4] (lX 79 A rs.length c 7 (k:Nat) k ((hs.f.2.1).ok oM) ?_))))));refine lH 80 (.agg #[iV ((rs.getD k ax).op),iV ((rs.getD k ax).n),.bool ((rs.getD k ax).neg),qS ((rs.getD k ax).zA) ((rs.getD k ax).zn) ((rs.getD k ax).zc),qS ((rs.getD k ax).dA) ((rs.getD k ax).dn) ((rs.getD k ax).dc),.string ((rs.getD k ax).s),qS ((rs.getD k ax).A) ((rs.getD k ax).m) ((rs.getD k ax).c)]) hs ((hs.f.2.1).el k oM) (lC 81 hs (ih (rs.getD k ax) (ks.getD k bz) _ _ hs.g ((hs.f.1).at_ k oM) (hW k oM)) ?_);rintro _ _ ya hs ⟨bk,rfl,hbk⟩;cases hb76:(bk)
  ·
   exact lL hs [.v 82 qT] (ak (ab hs [.v 2 qF] (ae hs [] qF (Be (k:=k) oM aM hbk))))
  refine lL hs [.v 82 qF] (ag (cK (kQ (lL hs [.m 74 4] (bn 75 ((k:Nat)+1) (k+1) ?_)))));refine lL hs [.m 4 75] (lD ?_);intro a_ ka;refine ⟨_,_,?_,⟨k+1,ya,rfl,rfl,hs.to _ _,oM,(fun i hi=>by rcases Nat.lt_succ_iff_lt_or_eq.1 hi with h_|rfl;exact hWk i h_;exact hbk.1 aM)⟩,ka.to _ kR⟩
  omega
 try rw[zl] at hs
 try rw[zl]
 exact cl (ab hs [.v 2 qF] (ae hs [] qF (mD (fun h_=>zU aM ⟨by have h1_:=h_.1;omega,h_.2.2.1,h_.2.1,h_.2.2.2⟩))))
theorem mG (isb:ByteArray→Bool)(sm:ByteArray→Prop)(hIs:∀ s,sm s→∀ (w:World) (h:Hp),G w h→Calls Tryz.prog 85 #[.string s] w (Ret w h (fun v _=>∃ b,v=.bool b∧b=isb s))):∀ (d:Nat) (r:RTm) (t:Tm) (w:World) (h:Hp),G w h→RmH d h r t→SmT sm d t →  Calls Tryz.prog 45 #[e7 r] w (Ret w h (fun v _=>∃ bb,v=.bool bb∧(bb=true↔WfT (fun s=>isb s=true) d t)))
  | 0,_,_,_,_,_,x,_=>x.elim
  | d+1,r,t,w,h,g,x,wf=>by
    obtain ⟨op,n,b,zA,zn,zc,dA,dn,dc,q,s,A,c,rs,ks,rfl,rfl,hZ,hc,hK,hKs⟩:=x.open;obtain ⟨s1,s2,s3,s4,s5,s6⟩:=wf;exact sx isb sm hIs d (fun r t w h=>mG isb sm hIs d r t w h) op n b zA zn zc dA dn dc q s A c rs ks hc s1 s2 s3 s4 s5 s6 w h g hZ hK hKs
section
variable {M:Ms} {P:Program} {n:Nat} {N R:Po} {X:Nat→Po} {ops:Array Oper} {k k0:Nat} {hr:Hp} {AL:List Al} {L:Array Bool} {Γ:bM} {w:World} {h:Hp} {w0:World} {h0:Hp} {B:List Bx} {Rs:List Rw} {F:List (Hp→Prop)}
theorem Ah {base:Nat}{e:TypeId}{sz:Nat}{A:Option Addr}{l c n:Nat}{xs:List Value}(o:w.ownsRow base e sz (.slice A l c) n xs):l≤c:=by
 rcases o with ⟨_,⟨e1,_⟩|⟨g,cap,cur,e1,_,_,h1,_⟩⟩
 ·cases e1;exact Nat.le_refl _
 ·cases e1;exact h1
theorem uN {α:Type}{o:Oper}{ty:TypeId}{sz bt c c2 j:Nat}{z:Value}{A A2:Option Addr}{l:List α}{f:α→List Value}(s:SS w0 h0 w h B Rs F)(he:vr P (ev Γ) o=some (.slice A l.length c,.slice A2 0 c2,ty,z,sz,bt))(hr':Rs.getD j default=⟨ty,sz,A,c,l.length,l.flatMap f⟩)(hj:j<Rs.length) :
    (execOp (ev Γ) o).run P w=.ok (.value (.slice A l.length c)) w:=by
  obtain ⟨x,y,ty',ho,hx,hy,hu,hi⟩:=md he;have r:=s.ro _ (List.getElem_mem hj);rw[eM hr' hj] at r
  cases hinf:P.info? ty with
  | none=>rw[hinf] at hi;cases hi
  | some inf =>
    rw[hinf] at hi
    have hs:Src P inf.size ty' (.slice A2 0 c2) 0 [] w:=by
      cases A2 with
      | none=>exact Src.ofNil w hu c2
      | some a=>exact Src.ofSlice w hu a 0 c2 [] (by simp) (fun j u hj=>by cases hj) (fun u hu=>by cases hu)
    have hrun:=run_append_nothing (P:=P) w ty' ty' o.type ty inf hu hinf A l.length c (Ah r.own) (.slice A2 0 c2) hs
    unfold execOp
    simp only[ho,resolve,invoke,builtin,Sem.run_bind,Sem.run_pure,Result.andThen_ok,List.map_toArray,List.map_cons,List.map_nil,hx,hy,hrun]
theorem Gj {α:Type}(t j:Nat)(ty:TypeId)(sz c:Nat)(A:Option Addr)(l:List α)(f:α→List Value)(d:α)(A2:Option Addr)(m:List α)(n2 c2 bt:Nat)(z:Value)(s:SS w0 h0 w h B Rs F)(so:SlO sz f d h A2 m)
    (H:∀ A' c' w' h',SS w0 h0 w' h' B (Rs.set j ⟨ty,sz,A',c',(l++m).length,(l++m).flatMap f⟩) F→LG P n N R X ops (k+1) ((t,.slice A' (l++m).length c')::Γ) w')
    (hc:cL ops Γ k t n=true:=by kernel_rfl)(he:vr P (ev Γ) (ao ops k)=some (.slice A l.length c,.slice A2 n2 c2,ty,z,sz,bt):=by kernel_rfl)(hn:n2=m.length:=by omega)(hf:∀ x,(f x).length=sz:=by intro _;rfl)(h1:∀ x,(f x).all (·.oneCell')=true:=by intro _;kernel_rfl)(hzs:z.cells.size=sz:=by kernel_rfl)(hpos:0<sz:=by decide)
    (hr:Rs.getD j default=⟨ty,sz,A,c,l.length,l.flatMap f⟩:=by kernel_rfl)(hj:decide (j<Rs.length)=true:=by kernel_rfl)(hm:l.length+m.length≤1099511627776:=by omega)(hb:(l.length+m.length)*bt≤140737488355328:=by omega):LG P n N R X ops k Γ w:=by
  subst hn;cases m with
  | nil =>
    have hj':=oT hj;have e0:l++[]=l:=List.append_nil l;rw[e0] at H
    have es:Rs.set j ⟨ty,sz,A,c,l.length,l.flatMap f⟩=Rs:=by
      have:=eM hr hj';rw[←this,List.set_getElem_self]
    have s1:=s;rw[←es] at s1
    exact LG.val t _ w (bv hc).1 (bv hc).2 (uN s he hr hj') (H A c w h s1)
  | cons x xs=>exact Gp t j ty sz c A l f d A2 (x::xs) c2 bt z s so (Nat.succ_pos _) H hc he hf h1 hzs hpos hr hj hm hb
theorem tO (i t:Nat)(ps:List (Nat × Nat × Nat))(v:Value)(s:SS w0 h0 w h B Rs F)(H:AG M P n N R X ops k0 (L.setIfInBounds i true) ((t,v)::Γ) w)(hc:cT n ops k0 L Γ i t=true:=by kernel_rfl)(hp:bO B ps=true:=by kernel_rfl)(he:bF P (execOp (ev Γ) (ao ops i)) (cg B ps)=some (.value v,bH B ps):=by kernel_rfl):AG M P n N R X ops k0 L Γ w :=
 T.val i t v w (na hc).1 (na hc).2 (bx _ _ _ _ he (cd s.st.own ps hp)) H
end
def iy (f:Nat→Nat):Nat→Nat
  | 0=>0
  | n+1=>max (iy f n) (f n)
def mj:Nat→Tm→Nat
  | 0,_=>0
  | d+1,t=>iy (fun i=>mj d (t.ks.getD i bz)) t.ks.length+1
theorem lr {f:Nat→Nat}{b:Nat}:∀ n,(∀ i,i<n→f i≤b)→iy f n≤b
 | 0,_=>Nat.zero_le _
 | n+1,h=>Nat.max_le.2 ⟨lr n (fun i hi=>h i oM),h n (Nat.lt_succ_self n)⟩
theorem mb:∀ (d:Nat) (t:Tm),mj d t≤d
 | 0,_=>Nat.le_refl _
 | d+1,t=>Nat.succ_le_succ (lr _ (fun i _=>mb d _))
open Go.RowKit Go.WideMaps
structure MapI (P:Program) (kt:TypeId) (Q:Value→Prop) (w1:World) (h1:Hp) (b:Nat):Prop where
  jk:h1[b]?=some junk
  ex:∃ es clk,w1.heap[b]?=some (.map es clk)∧∀ e∈es.toList,(∃ l,keyOf P kt e.key=some l)∧Q e.val
section laws
variable {P:Program} {n:Nat} {N R:Po} {X:Nat→Po} {ops:Array Oper} {k:Nat} {Γ:bM} {w:World} {h:Hp} {w0 w1:World} {h0 h1:Hp} {B:List Bx} {Rs:List Rw} {F:List (Hp→Prop)}
end laws
structure Dif (M:List Nat) (w w0:World):Prop where
  mo:Mo M w w0
  sz:w0.heap.size=w.heap.size
section frn
variable {w0 w w' wi:World} {h0 h h':Hp} {B:List Bx} {R:List Rw} {F:List (Hp→Prop)} {M:List Nat}
end frn
section get
variable {P:Program} {n:Nat} {N R:Po} {X:Nat→Po} {ops:Array Oper} {k:Nat} {Γ:bM} {w:World} {h:Hp} {w0:World} {h0:Hp} {B:List Bx} {Rs:List Rw} {F:List (Hp→Prop)}
end get
section gete
variable {M:Ms} {P:Program} {n:Nat} {N R:Po} {X:Nat→Po} {ops:Array Oper} {k0:Nat} {hr:Hp} {AL:List Al} {L:Array Bool} {Γ:bM} {w:World} {h:Hp} {w0:World} {h0:Hp} {B:List Bx} {Rs:List Rw} {F:List (Hp→Prop)}
end gete
section ops
variable {P:Program} {Γ:bM} {o:Oper}
end ops
section laws
variable {M:Ms} {P:Program} {n:Nat} {N R:Po} {X:Nat→Po} {ops:Array Oper} {k k0:Nat} {hr:Hp} {AL:List Al} {L:Array Bool} {Γ:bM} {w:World} {h:Hp} {w0 wi:World} {h0:Hp} {B:List Bx} {Rs:List Rw} {F:List (Hp→Prop)} {Ml:List Nat}
end laws
section zone
variable {w0 w w':World} {h0 h h':Hp} {B:List Bx} {R:List Rw} {F:List (Hp→Prop)}
end zone
section ret
variable {P:Program} {n:Nat} {Γ:bM} {w:World} {h:Hp} {w0 wz:World} {h0 hz:Hp} {B:List Bx} {Rs:List Rw} {F:List (Hp→Prop)}
end ret
section call
variable {M:Ms} {P:Program} {n:Nat} {N R:Po} {X:Nat→Po} {ops:Array Oper} {k0:Nat} {hr:Hp} {AL:List Al} {L:Array Bool} {Γ:bM} {w:World} {h:Hp} {w0:World} {h0:Hp} {B:List Bx} {Rs:List Rw} {F:List (Hp→Prop)}
end call
section perm
variable {w0:World} {h0:Hp} {w:World} {h:Hp} {B B':List Bx} {R R':List Rw} {F:List (Hp→Prop)}
end perm
section ret
variable {P:Program} {n:Nat} {Γ:bM} {w:World} {h:Hp} {w0:World} {h0:Hp} {B:List Bx} {Rs:List Rw} {F:List (Hp→Prop)}
end ret
section call
variable {P:Program} {n:Nat} {N R:Po} {X:Nat→Po} {ops:Array Oper} {k:Nat} {Γ:bM} {w:World}
end call
def GD (ss:List ByteArray):List MapEntry:=ss.zipIdx.map fun p=>⟨.string p.1,.bool true,p.2⟩
structure MapK (w:World) (h:Hp) (b:Nat) (ss:List ByteArray):Prop where
  jk:h[b]?=some junk
  ob:w.heap[b]?=some (.map (GD ss).toArray ss.length)
  nd:ss.Nodup
section laws
variable {P:Program} {n:Nat} {N R:Po} {X:Nat→Po} {ops:Array Oper} {k:Nat} {Γ:bM} {w:World} {h:Hp} {w1:World} {h1:Hp} {B:List Bx} {Rs:List Rw} {F:List (Hp→Prop)}
end laws
section ro
variable {w0:World} {h0:Hp} {w:World} {h:Hp} {B:List Bx} {R:List Rw} {F:List (Hp→Prop)}
theorem SS.ro_jk (s:SS w0 h0 w h B R F)(j:Nat){ty:TypeId}{sz c m:Nat}{A:Option Addr}{cs:List Value}(hr:R.getD j default=⟨ty,sz,A,c,m,cs⟩:=by kernel_rfl)(hj:decide (j<R.length)=true:=by kernel_rfl):∀ b∈(Value.slice A m c).ownBlock.toList,h[b]?=some junk:=fun b hb=>by
 have hj':=oT hj;have r:=s.ro _ (List.getElem_mem hj');rw[eM hr hj'] at r
 exact r.jk b (Option.mem_toList.1 hb)
theorem SS.ro_lt (s:SS w0 h0 w h B R F)(j:Nat){ty:TypeId}{sz c m:Nat}{A:Option Addr}{cs:List Value}(hr:R.getD j default=⟨ty,sz,A,c,m,cs⟩:=by kernel_rfl)(hj:decide (j<R.length)=true:=by kernel_rfl):∀ b∈(Value.slice A m c).ownBlock.toList,b<h.size:=fun b hb=>by
 have hj':=oT hj;have r:=s.ro _ (List.getElem_mem hj');rw[eM hr hj'] at r
 exact az (r.jk b (Option.mem_toList.1 hb))
theorem SS.ro_ne (s:SS w0 h0 w h B R F)(q j:Nat){ty:TypeId}{sz c m:Nat}{A:Option Addr}{cs:List Value}(hq:decide (q<B.length)=true:=by kernel_rfl)(hr:R.getD j default=⟨ty,sz,A,c,m,cs⟩:=by kernel_rfl)(hj:decide (j<R.length)=true:=by kernel_rfl):(aw B q).b ∉ (Value.slice A m c).ownBlock.toList:=fun hb=>by
 have hj':=oT hj;have r:=s.ro _ (List.getElem_mem hj');rw[eM hr hj'] at r
 exact r.ap _ (Option.mem_toList.1 hb) (List.mem_map.2 ⟨_,bh (oT hq),rfl⟩)
end ro
section
variable {pl:ByteArray→Int} {d k:Nat} {l tl:List Stp} {ks:List Tm} {za zb:Int}
end
section laws
variable {M:Ms} {P:Program} {ops:Array Oper} {Q:Exit→Act→World→Prop} {k0:Nat}
structure Waits (ops:Array Oper) (k0 i:Nat) (late:List Nat):Prop where
  ev:∀ u∈late,∃ ou,ops[u]?=some ou∧∃ e∈ou.after,Region.binds .any e=true∧(e.on=i∨e.on∈late)
  tl:∀ j oj,ops[j]?=some oj→k0≤j→j∈late
theorem mQ {i:Nat}{oi:Oper}{v:Value}{S:World→Prop}{late:List Nat}(hi:ops[i]?=some oi)(hsel:∀ (j:Nat) (o:Oper) cs b,ops[j]?=some o→o.op≠.select cs b)
    (hQ:∀ c a w,Q (.panic c) (a.put oi.dst v) w→Q (.panic c) a w)(hcl:∀ w w',S w→Mo M.l w w'→S w')(hw:Waits ops k0 i late) :
    ∀ (n:Nat) (L:Array Bool) (a:Act) (w:World),
      (∀ j oj,ops[j]?=some oj→j≠i→L.getD j true=false→(∀ e∈oj.after,Region.binds .any e=true→e.on≠i)→oi.apart ops oj=true) →
      (∀ u∈late,L.getD u true=false) →
      i∈Region.ready .any ops L→YieldsIf P ops S oi v a→S w →
      mg M P ops Q k0 n (L.setIfInBounds i true) (a.put oi.dst v) w→mg M P ops Q k0 (n+1) L a w:=by
  intro n
  induction n with
  | zero =>
    intro L a w _ _ hr hy hS H;refine ⟨fun h=>(by rw[h] at hr;cases hr),fun j hj=>?_⟩
    by_cases hji:j=i
    · subst hji;exact hy.wpOp hi hS ⟨Rl.refl _ _ _ _,H⟩
    · have:=ready_mono hj hji
      rw[H.1] at this
      cases this
  | succ n ih =>
    intro L a w hfree hund hr hy hS H;refine ⟨fun h=>(by rw[h] at hr;cases hr),fun j hj=>?_⟩
    by_cases hji:j=i
    · subst hji;exact hy.wpOp hi hS ⟨Rl.refl _ _ _ _,H⟩
    · have h1:=H.2 j (ready_mono hj hji)
      obtain ⟨hjun,oj,hoj,hall⟩:=mem_ready.1 hj
      have hwait:∀ x,L.getD x true=false→∀ e∈oj.after,Region.binds .any e=true→e.on≠x:=fun x h0 e he hb heq=>by
        have h1:=hall e he hb;rw[heq] at h1
        obtain ⟨hl,h0'⟩:=Cs h0
        simp[Array.getD,hl,h0'] at h1
      have hnot:=hwait i (mem_ready.1 hr).1
      have hnl:j ∉ late:=fun hm=>by
        obtain ⟨ou,ho,e,he,hb,h2⟩:=hw.ev j hm;obtain rfl:oj=ou:=Option.some.inj (hoj.symm.trans ho)
        rcases h2 with h2|h2
        · exact hnot e he hb h2
        · exact hwait e.on (hund _ h2) e he hb rfl
      have hlt:j<k0:=by
        rcases Nat.lt_or_ge j k0 with hl|hl
        · exact hl
        · exact absurd (hw.tl j oj hoj hl) hnl
      have h2:=wpOp_putIf hoj (hfree j oj hoj hji hjun hnot) (fun cs b=>hsel i oi cs b hi) (fun cs b=>hsel j oj cs b hoj) hQ hy h1
      have hfree':∀ k ok,ops[k]?=some ok→k≠i→(L.setIfInBounds j true).getD k true=false →
          (∀ e∈ok.after,Region.binds .any e=true→e.on≠i)→oi.apart ops ok=true:=fun k ok hk hki hun hno=>by
        refine hfree k ok hk hki ?_ hno
        by_cases hjk:j=k
        · subst hjk;exact hjun
        · rw[getD_set_ne true hjk] at hun;exact hun
      refine wpOp_mono (fun a' w' h3=>⟨h3.2.1,ih (L.setIfInBounds j true) a' w' hfree' (fun u hu=>?_) (ready_mono hr (Ne.symm hji)) h3.1 (hcl _ _ hS (h3.2.1.1 hlt)) ?_⟩) h2
      · rw[getD_set_ne true (fun e=>hnl (by rw[e];exact hu))];exact hund u hu
      · rw[Array.setIfInBounds_comm _ _ hji]
        exact h3.2.2
theorem E.take0U {h0:Hp}{AL:List Al}{L:Array Bool}{a:Act}{w:World}{h:Hp}{i:Nat}{o:Oper}{v:Value}{S:World→Prop}{late:List Nat}
  (hi:ops[i]?=some o)(hsel:Region.noSelect ops=true)(hf:Region.free .any ops L i=true)(hr:i∈Region.ready .any ops L)
  (hal:∀ x∈AL,x.i≠i∧x.t ∉ o.looksAt ops∧o.dst≠some x.t)(hQ:∀ c a w,¬Q (.panic c) a w)
  (hcl:∀ w w',S w→Mo M.l w w'→S w')(hS:∀ w',Mo M.l w w'→S w')(hy:YieldsIf P ops S o v a)
  (hw:Waits ops k0 i late)(hund:∀ u∈late,L.getD u true=false∧∀ x∈AL,x.i≠u)
  (H:E M P ops Q k0 h0 AL (L.setIfInBounds i true) (a.put o.dst v) w h):E M P ops Q k0 h0 AL L a w h:=by
 intro w' h' u S' T hp hb hn;have hS':∀ s∈S',s.1.i≠i∧s.1.t ∉ o.looksAt ops∧o.dst≠some s.1.t:=fun s hs=>hal _ (gc hp hs)
 have H1:=H w' h' u S' T hp hb hn;rw[jI L S' i (fun s hs=>(hS' s hs).1),jD a S' o.dst v (fun s hs=>(hS' s hs).2.2)] at H1
 have hr':=kd (fun s hs=>(hS' s hs).1) hr;obtain ⟨e1,e2⟩:=iY (ops:=ops) (Region.noSelect_spec hsel i o · · hi) a S' (fun s hs=>(hS' s hs).2.1)
 unfold A at *
 rw[dP hr']
 exact mQ hi (Region.noSelect_spec hsel) (fun c a w hq=>absurd hq (hQ _ _ _)) hcl hw _ _ _ _
  (fun j oj hj hji hun=>Region.free_spec hi hf j oj hj hji (gp hun))
  (fun x hx=>by rw[g8 true (fun s hs=>(hund x hx).2 _ (gc hp hs))];exact (hund x hx).1) hr' (hy.of_same e1 e2) (hS _ (u.m M.l).mo) H1
end laws
section steps
variable {M:Ms} {P:Program} {n:Nat} {N R:Po} {X:Nat→Po} {ops:Array Oper} {k0:Nat} {hr:Hp} {AL:List Al} {L:Array Bool} {Γ:bM} {w:World} {h:Hp} {w0:World} {h0:Hp} {B:List Bx} {Rs:List Rw} {F:List (Hp→Prop)}
def ml (ops:Array Oper)(k0:Nat)(AL:List Al)(L:Array Bool)(i:Nat)(late:List Nat):Bool :=
  (late.all fun u=>decide (u<ops.size) && !(L.getD u true) && (AL.all fun x=>x.i != u) && ((ao ops u).after.any fun e=>Region.binds .any e && (e.on == i || late.contains e.on))) && ((List.range ops.size).all fun j=>decide (j<k0) || late.contains j)
theorem li {i:Nat}{late:List Nat}(hc:ml ops k0 AL L i late=true):Waits ops k0 i late∧∀ u∈late,L.getD u true=false∧∀ x∈AL,x.i≠u:=by
 unfold ml at hc
 rw[Bool.and_eq_true] at hc
 obtain ⟨h1,h2⟩:=hc;have h1':=fun u hu=>(List.all_eq_true.1 h1) u hu
 refine ⟨⟨fun u hu=>?_,fun j oj hj hk=>?_⟩,fun u hu=>?_⟩
 ·have q:=h1' u hu
  simp only[Bool.and_eq_true,decide_eq_true_eq,Array.any_eq_true,Bool.or_eq_true,beq_iff_eq,List.contains_eq_mem] at q
  obtain ⟨⟨⟨q1,_⟩,_⟩,x,hx,q2,q3⟩:=q;exact ⟨_,bE q1,_,Array.getElem_mem hx,q2,q3⟩
 ·have hlt:=(Array.getElem?_eq_some_iff.1 hj).1
  have q:=(List.all_eq_true.1 h2) j (List.mem_range.2 hlt)
  simp only[Bool.or_eq_true,decide_eq_true_eq,List.contains_eq_mem] at q
  rcases q with q|q
  ·omega
  ·exact q
 ·have q:=h1' u hu
  simp only[Bool.and_eq_true,Bool.not_eq_true',List.all_eq_true,bne_iff_ne,ne_eq] at q
  exact ⟨q.1.1.2,fun x hx=>q.1.2 x hx⟩
def CC (n:Nat)(ops:Array Oper)(k0:Nat)(AL:List Al)(L:Array Bool)(Γ:bM)(i t:Nat)(late:List Nat):Bool:=cW n ops k0 AL L i t && a7 Γ (ao ops i) && ml ops k0 AL L i late && (bg ops Γ (ao ops i) == some true)
theorem Rg.loadU (i t:Nat)(late:List Nat)(v:Value)(hc:CC n ops k0 AL L Γ i t late=true)
  (hr:∀ w',Mo M.l w w'→(execOp (ev Γ) (ao ops i)).run P w'=.ok (.value v) w')
  (k:EG M P n N R X ops k0 h0 AL (L.setIfInBounds i true) ((t,v)::Γ) w h):EG M P n N R X ops k0 h0 AL L Γ w h:=by
 unfold CC at hc
 simp only[Bool.and_eq_true] at hc
 obtain ⟨⟨⟨hc,hkn⟩,hl⟩,hw⟩:=hc;have hw:bg ops Γ (ao ops i)=some true:=by simpa using hw
 have c:=cH hc;obtain ⟨l1,l2⟩:=li hl;intro oks hM g hsz a ka;have e1:=ka.exec (Region.noSelect_spec c.sel i _ · · c.get) hkn;refine E.take0U (v:=v) (S:=fun w'=>Mo M.l w w') c.get c.sel c.free c.ready c.al (fun _ _ _ hq=>hq) (fun _ _ h1 h2=>h1.trans h2) (fun _ hx=>hx) (.inl ⟨ka.want hw,fun w' hx=>by rw[e1];exact hr w' hx⟩) l1 l2 ?_;rw[c.dst];exact k oks hM g hsz _ (ka.put c.tn v)
theorem Fm (i t:Nat)(late:List Nat)(ps:List (Nat × Nat × Nat))(v:Value)(s:SS w0 h0 w h B Rs F)(H:EG ⟨[],none⟩ P n N R X ops k0 hr AL (L.setIfInBounds i true) ((t,v)::Γ) w h)(hc:CC n ops k0 AL L Γ i t late=true:=by kernel_rfl)(hp:bO B ps=true:=by kernel_rfl)(he:bF P (execOp (ev Γ) (ao ops i)) (cg B ps)=some (.value v,bH B ps):=by kernel_rfl):EG ⟨[],none⟩ P n N R X ops k0 hr AL L Γ w h :=
 Rg.loadU i t late v hc (fun w' hx=>bx _ _ _ _ he (eh (fun _ _=>List.not_mem_nil) (fun x hm _=>(hx.blk x.b (by rw[s.g.size];exact az (s.st.jk x hm)) List.not_mem_nil).trans (s.st.own x hm)) ps (fun _ h=>h) hp)) H
end steps
theorem Fy (s:ByteArray):(s.toList == s.toList)=true:=beq_self_eq_true _
theorem Av {a n:Int}(h:0≤a∧a≤1073741824)(hn : -1000≤n∧n≤1000) : -1073741824000≤a*n∧a*n≤1073741824000:=by
 have h1:(a*n).natAbs≤1073741824*1000:=by rw[Int.natAbs_mul];exact Nat.mul_le_mul oM oM
 omega
theorem mB {op n:Int}{s:Nat}:min (d8 op n ((min s 1073741824:Nat):Int)) 1073741824=((min (fZ op n*s) 1073741824:Nat):Int):=by
  unfold d8 fZ bR
  by_cases e11:op=11
  · rw[if_pos e11,if_pos e11];omega
  · rw[if_neg e11,if_neg e11]
    by_cases e8:op=8∧n≠0
    · rw[if_pos e8,if_pos e8.1]
      have e:(if n<0 then 0-n else n)=((if n.natAbs≤1 then 1 else n.natAbs:Nat):Int):=by have:=e8.2;split<;>split<;>omega
      rw[e]
      generalize hm:(if n.natAbs≤1 then 1 else n.natAbs)=m
      have hm1:1≤m:=by rw[←hm];split<;>omega
      rw[←Int.natCast_mul,Nat.mul_comm]
      rcases Nat.le_total s 1073741824 with h|h
      · rw[Nat.min_eq_left h];omega
      · rw[Nat.min_eq_right h]
        have a1:=Nat.le_mul_of_pos_left 1073741824 hm1;have a2:=Nat.le_trans h (Nat.le_mul_of_pos_left s hm1)
        omega
    · rw[if_neg e8]
      by_cases e9:op=8
      · rw[if_pos e9]
        have:n=0:=by by_cases z:n=0;exact z;exact absurd ⟨e9,z⟩ e8
        rw[this,if_pos kD];omega
      · rw[if_neg e9];omega
theorem ws  (sm:ByteArray→Prop)(d:Nat)(ih:∀ (r:RTm) (t:Tm) (w:World) (h:Hp),G w h→RmH d h r t→SmT sm d t→d≤1000→Calls Tryz.prog 44 #[e7 r] w (Ret w h (fun v _=>v=nV (mj d t))))(op n:Int)(bq:Bool)(zA:Option Addr)(zn zc:Nat)(dA:Option Addr)(dn dc:Nat)(q:Rat)(s:ByteArray)(A:Option Addr)(c:Nat)(rs:List RTm)(ks:List Tm)(hc:rs.length≤c)(hk3:ks.length≤3)(hop : -1000≤op∧op≤1000)(hn : -1000≤n∧n≤1000)(hq:LQ 1 q)(hsm:sm s)(hW:∀ i,i<ks.length→SmT sm d (ks.getD i bz))(hd:d+1≤1000)(w:World)(h:Hp)(g:G w h)(hZ:RZ h (bq,.slice zA zn zc,.slice dA dn dc) q)(hK:SlO 7 fO ax h A rs)(hKs:Rms d h rs ks):CV 44 #[.agg #[iV op,iV n,.bool bq,.slice zA zn zc,.slice dA dn dc,.string s,.slice A rs.length c]] w h (nV (mj (d+1) (.mk op n q s ks))):=by
 have hs:=((((sS g).add (K:=fun h_=>RZ h_ (bq,qS zA zn zc,qS dA dn dc) q) hZ).aS hK).add (K:=fun h_=>Rms d h_ rs ks) hKs);have hln:=(hs.f.1).len;have hdb:∀ k,k≤ks.length→(iy (fun i=>mj d (ks.getD i bz)) k)≤d:=fun k hk=>lr k (fun i _=>mb d _)
 have hdb2:=fun i=>mb d (ks.getD i bz)
 refine go Tryz.func44 [(0,.agg #[iV op,iV n,.bool bq,qS zA zn zc,qS dA dn dc,.string s,qS A rs.length c])] rfl (av (lA 1 31 ([iV op,iV n,.bool bq,qS zA zn zc,qS dA dn dc,.string s,qS A rs.length c]) hs (fun b1 w2 h3 hs=>lL hs [.v 2 (iV 0)] (aG (lL hs [.v 3 (iV 0)] (ah (ab hs [.v 4 (iV 0)] (a8 ?_))))))));refine bI _ (CG.loop (fun μ_ Γ w_=>∃ (k:Nat) (h_:Hp),μ_=rs.length-k∧Γ=[(1,pB b1),(2,iV 0),(4,nV k),(3,nV (iy (fun i=>mj d (ks.getD i bz)) k))]∧SS w h w_ h_ [⟨b1,31,[iV op,iV n,.bool bq,qS zA zn zc,qS dA dn dc,.string s,qS A rs.length c]⟩] [] [fun h_=>Rms d h_ rs ks,fun h_=>SlO 7 fO ax h_ A rs,fun h_=>RZ h_ (bq,qS zA zn zc,qS dA dn dc) q]∧k≤rs.length) _ ⟨0,h3,rfl,rfl,hs.to _ _,Nat.zero_le _⟩ ?_);rintro _ _ w4 ⟨k,h5,hm6,rfl,hs,hk⟩;have hmx:(iy (fun i=>mj d (ks.getD i bz)) (k+1))=max (iy (fun i=>mj d (ks.getD i bz)) k) (mj d (ks.getD k bz)):=rfl;refine cQ (ab hs [.m 5 4,.v 6 (qP b1 6),.o 7 (qS A rs.length c) 0 6 1,.v 8 (nV rs.length)] ?_);cases hb7:(decide ((k:Int)<(rs.length:Int)))
 ·
  have phb7:=oF hb7;refine lB 9 hb7 (ag (CG.exit ?_))
  show CG _ _ _ _ _ _ _ _
  refine ab hs [.m 20 3] ?_;have hb1_:=hdb k oM;exact bn 21 (((iy (fun i=>mj d (ks.getD i bz)) k):Nat)+1) (((iy (fun i=>mj d (ks.getD i bz)) k):Nat)+1) (lL hs [.m 2 21] (ae hs [] (nV (((iy (fun i=>mj d (ks.getD i bz)) k):Nat)+1)) (congrArg (fun n:Nat=>Value.int .i64 (n:Int)) (by rw[show k=ks.length by omega];rfl))))
 have phb7:=oT hb7;refine lB 9 hb7 (ak (cK (cQ (kZ (kQ (lL hs [.m 12 3,.v 13 (qP b1 6),.o 14 (qS A rs.length c) 0 6 1,.m 15 4] (lX 16 A rs.length c 7 (k:Nat) k ((hs.f.2.1).ok oM) ?_)))))));refine lH 17 (.agg #[iV ((rs.getD k ax).op),iV ((rs.getD k ax).n),.bool ((rs.getD k ax).neg),qS ((rs.getD k ax).zA) ((rs.getD k ax).zn) ((rs.getD k ax).zc),qS ((rs.getD k ax).dA) ((rs.getD k ax).dn) ((rs.getD k ax).dc),.string ((rs.getD k ax).s),qS ((rs.getD k ax).A) ((rs.getD k ax).m) ((rs.getD k ax).c)]) hs ((hs.f.2.1).el k oM) (ai 18 hs (ih (rs.getD k ax) (ks.getD k bz) _ _ hs.g ((hs.f.1).at_ k oM) (hW k oM) oM) (fun w8 h9 hs=>?_));have hb1_:=hdb k oM;have hb2_:=hdb2 k;refine lV 19 (nV (iy (fun i=>mj d (ks.getD i bz)) (k+1))) ?_ (hr:=aI (n:=if (mj d (ks.getD k bz):Int)>((iy (fun i=>mj d (ks.getD i bz)) k):Int) then (mj d (ks.getD k bz):Int) else ((iy (fun i=>mj d (ks.getD i bz)) k):Int)) kR (by split<;>omega));refine lL hs [.m 3 19] (lN (kQ (lL hs [.m 10 4] (bn 11 ((k:Nat)+1) (k+1) ?_))));refine lL hs [.m 4 11] (lD ?_);intro a_ ka;refine ⟨_,_,?_,⟨k+1,h9,rfl,rfl,hs.to _ _,oM⟩,ka.to _ kR⟩
 omega
theorem rR (sm:ByteArray→Prop):∀ (d:Nat) (r:RTm) (t:Tm) (w:World) (h:Hp),G w h→RmH d h r t→SmT sm d t→d≤1000→Calls Tryz.prog 44 #[e7 r] w (Ret w h (fun v _=>v=nV (mj d t)))
  | 0,_,_,_,_,_,x,_,_=>x.elim
  | d+1,r,t,w,h,g,x,wf,hd=>by
    obtain ⟨op,n,b,zA,zn,zc,dA,dn,dc,q,s,A,c,rs,ks,rfl,rfl,hZ,hc,hK,hKs⟩:=x.open;obtain ⟨s1,s2,s3,s4,s5,s6⟩:=wf;exact ws sm d (fun r t w h=>rR sm d r t w h) op n b zA zn zc dA dn dc q s A c rs ks hc s1 s2 s3 s4 s5 s6 hd w h g hZ hK hKs
theorem x9 (op n sum:Int)(hs0:0≤sum∧sum≤1073741824)(hn:op=8 → -1000≤n∧n≤1000)(w:World)(h:Hp)(g:G w h):CV 87 #[iV op,iV n,iV sum] w h (iV (min (d8 op n sum) 1073741824)):=by
 have hs:=sS g;have hmn:min (sum:Int) (1073741824:Int)=sum:=by omega
 have hq1:=fun h8:op=8=>Av hs0 (hn h8)
 have hq2:=fun h8:op=8=>Av (n:=0-n) hs0 (by have:=hn h8;omega)
 rw[←hmn] at hq1 hq2
 have hq3:n≤0→(min (sum:Int) (1073741824:Int))*n≤0∧0≤(min (sum:Int) (1073741824:Int))*(0-n):=fun h_=>⟨Int.mul_nonpos_of_nonneg_of_nonpos oM h_,Int.mul_nonneg oM oM⟩
 have hq4:0≤n→0≤(min (sum:Int) (1073741824:Int))*n:=fun h_=>Int.mul_nonneg oM h_
 refine go Tryz.func87 [(0,iV op),(1,iV n),(2,iV sum)] rfl (ab hs [.v 6 (iV 0)] (ah (kZ (ab hs [.m 8 0] ?_))));cases hb1:((op:Int) == (11:Int))
 ·
  have phb1:=af hb1;refine lB 9 hb1 (lL hs [.m 7 9] (ag (ab hs [.m 13 0] ?_)));cases hb2:((op:Int) == (8:Int))
  ·
   have phb2:=af hb2;refine lB 14 hb2 (lL hs [.m 15 14] (lG 16 ?_));refine lG 17 (lL hs [.v 18 qF,.m 12 18] (ag (cK (ab hs [.m 33 2] (lV 34 (iV (min (sum:Int) (1073741824:Int))) ?_ (hr:=aI (n:=(if (1073741824:Int)<(sum:Int) then (1073741824:Int) else (sum:Int))) kR (by simp only[dY])))))));exact lL hs [.m 6 34] (ae hs [] (iV (min (sum:Int) (1073741824:Int))) (congrArg (Value.int .i64) (by unfold d8;first|(rw[if_pos oM]<;>omega)|(rw[if_neg oM,if_pos oM,if_pos oM]<;>rw[hmn] at * <;> omega)|(rw[if_neg oM,if_pos oM,if_neg oM]<;>rw[hmn] at * <;> omega)|(rw[if_neg oM,if_neg oM]<;>omega))))
  have phb2:=eq_of_beq hb2;refine lB 14 hb2 (lL hs [.m 15 14,.m 16 1] ?_);cases hb3:((n:Int) != (0:Int))
  ·
   have phb3:=aY hb3;refine lB 17 hb3 (lL hs [.v 18 qF,.m 12 18] (ag (cK (ab hs [.m 33 2] (lV 34 (iV (min (sum:Int) (1073741824:Int))) ?_ (hr:=aI (n:=(if (1073741824:Int)<(sum:Int) then (1073741824:Int) else (sum:Int))) kR (by simp only[dY])))))));exact lL hs [.m 6 34] (ae hs [] (iV (min (sum:Int) (1073741824:Int))) (congrArg (Value.int .i64) (by unfold d8;first|(rw[if_pos oM]<;>omega)|(rw[if_neg oM,if_pos oM,if_pos oM]<;>rw[hmn] at * <;> omega)|(rw[if_neg oM,if_pos oM,if_neg oM]<;>rw[hmn] at * <;> omega)|(rw[if_neg oM,if_neg oM]<;>omega))))
  have phb3:=ay hb3;refine lB 17 hb3 (lL hs [.v 18 qT,.m 12 18] (ak (cQ (ab hs [.m 19 1] ?_))));cases hb4:(decide ((n:Int)<(0:Int)))
  ·
   have phb4:=oF hb4;refine lB 20 hb4 (ag (cK (cQ (ab hs [.m 23 1] ?_))));have ⟨hb5,phb5⟩:=dF (p:=(n:Int)<(0:Int)) oM;refine lB 24 hb5 (lL hs [.m 25 24,.m 26 1] ?_);cases hb6:(decide ((1073741824:Int)<(n:Int)))
   ·
    have phb6:=oF hb6;refine lB 27 hb6 (lL hs [.v 28 qF] (ag (cK (kQ (lL hs [.m 29 2] (lV 30 (iV (min (sum:Int) (1073741824:Int))) ?_ (hr:=aI (n:=(if (1073741824:Int)<(sum:Int) then (1073741824:Int) else (sum:Int))) kR (by simp only[dY]))))))));refine lL hs [.m 31 1] (lI 32 ((min (sum:Int) (1073741824:Int))*n) ?_);refine lL hs [.m 2 32] (aG (lL hs [.m 33 2] (lV 34 (iV (min ((min (sum:Int) (1073741824:Int))*n:Int) (1073741824:Int))) ?_ (hr:=aI (n:=(if (1073741824:Int)<((min (sum:Int) (1073741824:Int))*n:Int) then (1073741824:Int) else ((min (sum:Int) (1073741824:Int))*n:Int))) kR (by simp only[dY])))));exact lL hs [.m 6 34] (ae hs [] (iV (min ((min (sum:Int) (1073741824:Int))*n:Int) (1073741824:Int))) (congrArg (Value.int .i64) (by unfold d8;first|(rw[if_pos oM]<;>omega)|(rw[if_neg oM,if_pos oM,if_pos oM]<;>rw[hmn] at * <;> omega)|(rw[if_neg oM,if_pos oM,if_neg oM]<;>rw[hmn] at * <;> omega)|(rw[if_neg oM,if_neg oM]<;>omega))))
   have phb6:=oT hb6;refine lB 27 hb6 (lL hs [.v 28 qT] (ak (kQ (lL hs [.v 1 (iV 1073741824)] (lN (kQ (lL hs [.m 29 2] (lV 30 (iV (min (sum:Int) (1073741824:Int))) ?_ (hr:=aI (n:=(if (1073741824:Int)<(sum:Int) then (1073741824:Int) else (sum:Int))) kR (by simp only[dY]))))))))));refine lL hs [.m 31 1] (lI 32 ((min (sum:Int) (1073741824:Int))*1073741824) ?_);refine lL hs [.m 2 32] (aG (lL hs [.m 33 2] (lV 34 (iV (min ((min (sum:Int) (1073741824:Int))*1073741824:Int) (1073741824:Int))) ?_ (hr:=aI (n:=(if (1073741824:Int)<((min (sum:Int) (1073741824:Int))*1073741824:Int) then (1073741824:Int) else ((min (sum:Int) (1073741824:Int))*1073741824:Int))) kR (by simp only[dY])))));exact lL hs [.m 6 34] (ae hs [] (iV (min ((min (sum:Int) (1073741824:Int))*1073741824:Int) (1073741824:Int))) (congrArg (Value.int .i64) (by unfold d8;first|(rw[if_pos oM]<;>omega)|(rw[if_neg oM,if_pos oM,if_pos oM]<;>rw[hmn] at * <;> omega)|(rw[if_neg oM,if_pos oM,if_neg oM]<;>rw[hmn] at * <;> omega)|(rw[if_neg oM,if_neg oM]<;>omega))))
  have phb4:=oT hb4;refine lB 20 hb4 (ak (kQ (lL hs [.m 21 1] (lI 22 (0-n) ?_))));refine lL hs [.m 1 22] (ah (ab hs [.m 23 1] ?_));cases hb7:(decide ((0-n:Int)<(0:Int)))
  ·
   have phb7:=oF hb7;refine lB 24 hb7 (lL hs [.m 25 24,.m 26 1] ?_);cases hb8:(decide ((1073741824:Int)<(0-n:Int)))
   ·
    have phb8:=oF hb8;refine lB 27 hb8 (lL hs [.v 28 qF] (ag (cK (kQ (lL hs [.m 29 2] (lV 30 (iV (min (sum:Int) (1073741824:Int))) ?_ (hr:=aI (n:=(if (1073741824:Int)<(sum:Int) then (1073741824:Int) else (sum:Int))) kR (by simp only[dY]))))))));refine lL hs [.m 31 1] (lI 32 ((min (sum:Int) (1073741824:Int))*(0-n)) ?_);refine lL hs [.m 2 32] (aG (lL hs [.m 33 2] (lV 34 (iV (min ((min (sum:Int) (1073741824:Int))*(0-n):Int) (1073741824:Int))) ?_ (hr:=aI (n:=(if (1073741824:Int)<((min (sum:Int) (1073741824:Int))*(0-n):Int) then (1073741824:Int) else ((min (sum:Int) (1073741824:Int))*(0-n):Int))) kR (by simp only[dY])))));exact lL hs [.m 6 34] (ae hs [] (iV (min ((min (sum:Int) (1073741824:Int))*(0-n):Int) (1073741824:Int))) (congrArg (Value.int .i64) (by unfold d8;first|(rw[if_pos oM]<;>omega)|(rw[if_neg oM,if_pos oM,if_pos oM]<;>rw[hmn] at * <;> omega)|(rw[if_neg oM,if_pos oM,if_neg oM]<;>rw[hmn] at * <;> omega)|(rw[if_neg oM,if_neg oM]<;>omega))))
   have phb8:=oT hb8;refine lB 27 hb8 (lL hs [.v 28 qT] (ak (kQ (lL hs [.v 1 (iV 1073741824)] (lN (kQ (lL hs [.m 29 2] (lV 30 (iV (min (sum:Int) (1073741824:Int))) ?_ (hr:=aI (n:=(if (1073741824:Int)<(sum:Int) then (1073741824:Int) else (sum:Int))) kR (by simp only[dY]))))))))));refine lL hs [.m 31 1] (lI 32 ((min (sum:Int) (1073741824:Int))*1073741824) ?_);refine lL hs [.m 2 32] (aG (lL hs [.m 33 2] (lV 34 (iV (min ((min (sum:Int) (1073741824:Int))*1073741824:Int) (1073741824:Int))) ?_ (hr:=aI (n:=(if (1073741824:Int)<((min (sum:Int) (1073741824:Int))*1073741824:Int) then (1073741824:Int) else ((min (sum:Int) (1073741824:Int))*1073741824:Int))) kR (by simp only[dY])))));exact lL hs [.m 6 34] (ae hs [] (iV (min ((min (sum:Int) (1073741824:Int))*1073741824:Int) (1073741824:Int))) (congrArg (Value.int .i64) (by unfold d8;first|(rw[if_pos oM]<;>omega)|(rw[if_neg oM,if_pos oM,if_pos oM]<;>rw[hmn] at * <;> omega)|(rw[if_neg oM,if_pos oM,if_neg oM]<;>rw[hmn] at * <;> omega)|(rw[if_neg oM,if_neg oM]<;>omega))))
  have phb7:=oT hb7;refine lB 24 hb7 (lL hs [.m 25 24] (lG 26 ?_));refine lG 27 (lL hs [.v 28 qT] (ak (kQ (lL hs [.v 1 (iV 1073741824)] (lN (kQ (lL hs [.m 29 2] (lV 30 (iV (min (sum:Int) (1073741824:Int))) ?_ (hr:=aI (n:=(if (1073741824:Int)<(sum:Int) then (1073741824:Int) else (sum:Int))) kR (by simp only[dY]))))))))));refine lL hs [.m 31 1] (lI 32 ((min (sum:Int) (1073741824:Int))*1073741824) ?_);refine lL hs [.m 2 32] (aG (lL hs [.m 33 2] (lV 34 (iV (min ((min (sum:Int) (1073741824:Int))*1073741824:Int) (1073741824:Int))) ?_ (hr:=aI (n:=(if (1073741824:Int)<((min (sum:Int) (1073741824:Int))*1073741824:Int) then (1073741824:Int) else ((min (sum:Int) (1073741824:Int))*1073741824:Int))) kR (by simp only[dY])))));exact lL hs [.m 6 34] (ae hs [] (iV (min ((min (sum:Int) (1073741824:Int))*1073741824:Int) (1073741824:Int))) (congrArg (Value.int .i64) (by unfold d8;first|(rw[if_pos oM]<;>omega)|(rw[if_neg oM,if_pos oM,if_pos oM]<;>rw[hmn] at * <;> omega)|(rw[if_neg oM,if_pos oM,if_neg oM]<;>rw[hmn] at * <;> omega)|(rw[if_neg oM,if_neg oM]<;>omega))))
 have phb1:=eq_of_beq hb1;refine lB 9 hb1 (lL hs [.m 7 9] (ak (kQ (lL hs [.m 10 2] (lI 11 (2*sum) ?_)))));refine lL hs [.m 2 11] (aG (lL hs [.m 33 2] (lV 34 (iV (min (2*sum:Int) (1073741824:Int))) ?_ (hr:=aI (n:=(if (1073741824:Int)<(2*sum:Int) then (1073741824:Int) else (2*sum:Int))) kR (by simp only[dY])))));exact lL hs [.m 6 34] (ae hs [] (iV (min (2*sum:Int) (1073741824:Int))) (congrArg (Value.int .i64) (by unfold d8;first|(rw[if_pos oM]<;>omega)|(rw[if_neg oM,if_pos oM,if_pos oM]<;>rw[hmn] at * <;> omega)|(rw[if_neg oM,if_pos oM,if_neg oM]<;>rw[hmn] at * <;> omega)|(rw[if_neg oM,if_neg oM]<;>omega))))
theorem uI  (sm:ByteArray→Prop)(d:Nat)(ih:∀ (r:RTm) (t:Tm) (w:World) (h:Hp),G w h→RmH d h r t→SmT sm d t →  Calls Tryz.prog 46 #[e7 r] w (Ret w h (fun v _=>v=iV ((min (cb d t) 1073741824:Nat):Int))))(op n:Int)(bq:Bool)(zA:Option Addr)(zn zc:Nat)(dA:Option Addr)(dn dc:Nat)(q:Rat)(s:ByteArray)(A:Option Addr)(c:Nat)(rs:List RTm)(ks:List Tm)(hc:rs.length≤c)(hk3:ks.length≤3)(hop : -1000≤op∧op≤1000)(hn : -1000≤n∧n≤1000)(hq:LQ 1 q)(hsm:sm s)(hW:∀ i,i<ks.length→SmT sm d (ks.getD i bz))(w:World)(h:Hp)(g:G w h)(hZ:RZ h (bq,.slice zA zn zc,.slice dA dn dc) q)(hK:SlO 7 fO ax h A rs)(hKs:Rms d h rs ks):CV 46 #[.agg #[iV op,iV n,.bool bq,.slice zA zn zc,.slice dA dn dc,.string s,.slice A rs.length c]] w h (iV ((min (cb (d+1) (.mk op n q s ks)) 1073741824:Nat):Int)):=by
 have hs:=((((sS g).add (K:=fun h_=>RZ h_ (bq,qS zA zn zc,qS dA dn dc) q) hZ).aS hK).add (K:=fun h_=>Rms d h_ rs ks) hKs);have hln:=(hs.f.1).len;refine go Tryz.func46 [(0,.agg #[iV op,iV n,.bool bq,qS zA zn zc,qS dA dn dc,.string s,qS A rs.length c])] rfl (av (lA 1 31 ([iV op,iV n,.bool bq,qS zA zn zc,qS dA dn dc,.string s,qS A rs.length c]) hs (fun b1 w2 h3 hs=>lL hs [.v 2 (iV 0)] (ah (ab hs [.v 5 (qP b1 6),.o 6 (qS A rs.length c) 0 6 1,.v 7 (nV rs.length)] ?_)))));cases hb4:((rs.length:Int) == (0:Int))
 ·
  have phb4:=af hb4;refine lB 8 hb4 (ag (cK (ab hs [.v 3 (iV 0)] (ah (ab hs [.v 4 (iV 0)] (a8 ?_))))));refine bI _ (CG.loop (fun μ_ Γ w_=>∃ (k:Nat) (sw:Nat) (h_:Hp),μ_=rs.length-k∧Γ=[(1,pB b1),(2,iV 0),(4,nV k),(3,nV sw)]∧SS w h w_ h_ [⟨b1,31,[iV op,iV n,.bool bq,qS zA zn zc,qS dA dn dc,.string s,qS A rs.length c]⟩] [] [fun h_=>Rms d h_ rs ks,fun h_=>SlO 7 fO ax h_ A rs,fun h_=>RZ h_ (bq,qS zA zn zc,qS dA dn dc) q]∧k≤rs.length∧sw=min (fc (fun i=>cb d (ks.getD i bz)) k) 1073741824) _ ⟨0,0,h3,rfl,rfl,hs.to _ _,Nat.zero_le _,rfl⟩ ?_);rintro _ _ w5 ⟨k,sw,h6,hm7,rfl,hs,hk,hsw_⟩;have hs1:(fc (fun i=>cb d (ks.getD i bz)) (k+1))=(fc (fun i=>cb d (ks.getD i bz)) k)+cb d (ks.getD k bz):=rfl;refine cQ (ab hs [.m 9 4,.v 10 (qP b1 6),.o 11 (qS A rs.length c) 0 6 1,.v 12 (nV rs.length)] ?_);cases hb8:(decide ((k:Int)<(rs.length:Int)))
  ·
   have phb8:=oF hb8;refine lB 13 hb8 (ag (CG.exit ?_))
   show CG _ _ _ _ _ _ _ _
   refine ab hs [.v 25 (pB b1),.o 26 (iV op) 0 0 1,.v 27 (qP b1 1),.o 28 (iV n) 0 1 1,.m 29 3] (ai 30 hs (x9 op n (sw:Nat) oM (fun _=>hn) _ _ hs.g) (fun w9 _ hs=>lL hs [.m 2 30] (lN (kX ?_))));have hkn:k=ks.length:=by omega
   have hw_:=ki (d:=d) (op:=op) (n:=n) (q:=q) (s:=s) (ks:=ks) oM;rw[hkn] at hsw_
   exact hs.ret [] (iV (min (d8 op n (sw:Nat)) 1073741824)) (congrArg (Value.int .i64) (by rw[hw_,hsw_];exact mB))
  have phb8:=oT hb8;refine lB 13 hb8 (ak (cK (cQ (kZ (kQ (lL hs [.m 16 3,.v 17 (qP b1 6),.o 18 (qS A rs.length c) 0 6 1,.m 19 4] (lX 20 A rs.length c 7 (k:Nat) k ((hs.f.2.1).ok oM) ?_)))))));refine lH 21 (.agg #[iV ((rs.getD k ax).op),iV ((rs.getD k ax).n),.bool ((rs.getD k ax).neg),qS ((rs.getD k ax).zA) ((rs.getD k ax).zn) ((rs.getD k ax).zc),qS ((rs.getD k ax).dA) ((rs.getD k ax).dn) ((rs.getD k ax).dc),.string ((rs.getD k ax).s),qS ((rs.getD k ax).A) ((rs.getD k ax).m) ((rs.getD k ax).c)]) hs ((hs.f.2.1).el k oM) (ai 22 hs (ih (rs.getD k ax) (ks.getD k bz) _ _ hs.g ((hs.f.1).at_ k oM) (hW k oM)) (fun _ za hs=>lI 23 ((sw:Nat)+((min (cb d (ks.getD k bz)) 1073741824:Nat):Int)) (lV 24 (iV ((min (fc (fun i=>cb d (ks.getD i bz)) (k+1)) 1073741824:Nat):Int)) ?_ (hr:=aI (n:=if (1073741824:Int)<((sw:Nat)+((min (cb d (ks.getD k bz)) 1073741824:Nat):Int)) then (1073741824:Int) else ((sw:Nat)+((min (cb d (ks.getD k bz)) 1073741824:Nat):Int))) kR (by split<;>omega)))));refine lL hs [.m 3 24] (lN (kQ (lL hs [.m 14 4] (bn 15 ((k:Nat)+1) (k+1) ?_))));refine lL hs [.m 4 15] (lD ?_);intro a_ ka;refine ⟨_,_,?_,⟨k+1,(min (fc (fun i=>cb d (ks.getD i bz)) (k+1)) 1073741824),za,rfl,rfl,hs.to _ _,oM,rfl⟩,ka.to _ kR⟩
  omega
 have phb4:=eq_of_beq hb4;exact lB 8 hb4 (ak (ab hs [.v 2 (iV 1)] (ae hs [] (iV 1) (congrArg (Value.int .i64) (by rw[rP oM];rfl)))))
theorem pM (sm:ByteArray→Prop):∀ (d:Nat) (r:RTm) (t:Tm) (w:World) (h:Hp),G w h→RmH d h r t→SmT sm d t →  Calls Tryz.prog 46 #[e7 r] w (Ret w h (fun v _=>v=iV ((min (cb d t) 1073741824:Nat):Int)))
  | 0,_,_,_,_,_,x,_=>x.elim
  | d+1,r,t,w,h,g,x,wf=>by
    obtain ⟨op,n,b,zA,zn,zc,dA,dn,dc,q,s,A,c,rs,ks,rfl,rfl,hZ,hc,hK,hKs⟩:=x.open;obtain ⟨s1,s2,s3,s4,s5,s6⟩:=wf;exact uI sm d (fun r t w h=>pM sm d r t w h) op n b zA zn zc dA dn dc q s A c rs ks hc s1 s2 s3 s4 s5 s6 w h g hZ hK hKs
theorem EY {L:List PLt}{d:Nat}{n:Int}{q:Rat}{s:ByteArray}:aD L (d+1) (.mk 1 n q s [])=(0,q):=by
 rw[pF kD];unfold ot;rw[if_neg kD,if_neg kD,if_pos ⟨fun h=>absurd h kD,fun h=>absurd h kD⟩]
 rfl
theorem ni (bq:Bool)(zA:Option Addr)(zn zc:Nat)(dA:Option Addr)(dn dc:Nat)(q:Rat)(w:World)(h:Hp)(g:G w h)(hZ:RZ h (bq,.slice zA zn zc,.slice dA dn dc) q):Calls Tryz.prog 47 #[.agg #[.bool bq,.slice zA zn zc,.slice dA dn dc]] w (Ret w h (fun v h1=>RQ h1 v q)):=by
 obtain ⟨has,⟨A,c,D,d,e,hc,hd,hA,hD⟩,hz⟩:=hZ;have e2:(Value.agg #[.bool bq,qS zA zn zc,qS dA dn dc])=.agg #[.bool (ac q.num),qS A (lim (aa q.num)).length c,qS D (lim (if has then q.den else 0)).length d]:=e;rw[e2];exact vV { wJ with q:=q,has:=has } A c D d hc hd hz w h g hA hD
theorem EX (RA:Option Addr)(cQ_:Nat)(rl:List RLt)(L:List PLt)(d:Nat)(n:Int)(bq:Bool)(zA:Option Addr)(zn zc:Nat)(dA:Option Addr)(dn dc:Nat)(q:Rat)(s:ByteArray)(A:Option Addr)(c:Nat)(w:World)(h:Hp)(g:G w h)(hZ:RZ h (bq,.slice zA zn zc,.slice dA dn dc) q)(hL:SlO 4 nU dE h RA rl)(hRL:RLs h rl L):CR 23 #[.agg #[iV 1,iV n,.bool bq,.slice zA zn zc,.slice dA dn dc,.string s,.slice A 0 c],.slice RA rl.length cQ_] w h (fun v h1=>∃ x,v=.tuple #[x,iV (aD L (d+1) (.mk 1 n q s [])).1]∧RQ h1 x (aD L (d+1) (.mk 1 n q s [])).2):=by
 have hs:=((((sS g).add (K:=fun h_=>RZ h_ (bq,qS zA zn zc,qS dA dn dc) q) hZ).aS hL).add (K:=fun h_=>RLs h_ rl L) hRL);refine go Tryz.func23 [(0,.agg #[iV 1,iV n,.bool bq,qS zA zn zc,qS dA dn dc,.string s,qS A 0 c]),(1,qS RA rl.length cQ_)] rfl (av (lA 2 31 ([iV 1,iV n,.bool bq,qS zA zn zc,qS dA dn dc,.string s,qS A 0 c]) hs (fun b1 w2 h3 hs=>lA 4 28 ([qF,sZ,sZ]) hs (fun b4 w5 h6 hs=>lL hs [.v 5 (iV 0)] (ah (ab hs [.v 13 (pB b1),.o 14 (iV 1) 1 0 1] (a8 (ab hs [.v 16 qT,.m 15 16] (ak (ab hs [.v 17 (qP b1 2),.o 18 (.agg #[.bool bq,qS zA zn zc,qS dA dn dc]) 1 2 3] (lC 19 hs (ni bq zA zn zc dA dn dc q _ _ hs.g hs.f.r.1) ?_)))))))))));rintro _ _ _ hs ⟨A7,c8,za,zb,rfl,hc9,zd,ze,zf⟩;replace hs:=hs.aP ze zf;exact lP 0 0 (ct q A7 c8 za zb) hs (fun _ hs=>lL hs [.v 5 (iV 0)] (ae hs [(0,0,3)] (.tuple #[rG q A7 c8 za zb,iV 0]) (by rw[EY];exact ⟨_,rfl,⟨_,_,_,_,rfl,hc9,zd,hs.f.2.1,hs.f.1⟩⟩)))
theorem DZ (RA:Option Addr)(cQ_:Nat)(rl:List RLt)(L:List PLt)(d:Nat)(hLl:L.length≤1000)(cc:Nat)(hc3:3≤cc)(hcm:cc≤7000)(hLq:∀ i,LQ (cc-2) (L.getD i bK).q)(n:Int)(bq:Bool)(zA:Option Addr)(zn zc:Nat)(dA:Option Addr)(dn dc:Nat)(q:Rat)(s:ByteArray)(A:Option Addr)(c:Nat)(rs:List RTm)(ks:List Tm)(w:World)(h:Hp)(g:G w h)(hZ:RZ h (bq,.slice zA zn zc,.slice dA dn dc) q)(hL:SlO 4 nU dE h RA rl)(hRL:RLs h rl L):CR 23 #[.agg #[iV 2,iV n,.bool bq,.slice zA zn zc,.slice dA dn dc,.string s,.slice A rs.length c],.slice RA rl.length cQ_] w h (fun v h1=>∃ x,v=.tuple #[x,iV (aD L (d+1) (.mk 2 n q s ks)).1]∧RQ h1 x (aD L (d+1) (.mk 2 n q s ks)).2):=by
 have hs:=((((sS g).add (K:=fun h_=>RZ h_ (bq,qS zA zn zc,qS dA dn dc) q) hZ).aS hL).add (K:=fun h_=>RLs h_ rl L) hRL);have hll:=(hs.f.1).len;refine go Tryz.func23 [(0,.agg #[iV 2,iV n,.bool bq,qS zA zn zc,qS dA dn dc,.string s,qS A rs.length c]),(1,qS RA rl.length cQ_)] rfl (av (lA 2 31 ([iV 2,iV n,.bool bq,qS zA zn zc,qS dA dn dc,.string s,qS A rs.length c]) hs (fun b1 w2 h3 hs=>lA 4 28 ([qF,sZ,sZ]) hs (fun b4 w5 h6 hs=>lL hs [.v 5 (iV 0)] (ah (ab hs [.v 13 (pB b1),.o 14 (iV 2) 1 0 1] (a8 (ab hs [.v 16 qF,.m 15 16] (ag (ab hs [.v 21 qT,.m 20 21] (ak (cQ (ab hs [.v 6 (iV 0)] (a8 ?_))))))))))))));refine bI _ (CG.loop (fun μ_ Γ w_=>∃ (k:Nat) (h_:Hp),μ_=rl.length-k∧Γ=[(1,qS RA rl.length cQ_),(2,pB b1),(4,pB b4),(6,nV k)]∧SS w h w_ h_ [⟨b4,28,[qF,sZ,sZ]⟩,⟨b1,31,[iV 2,iV n,.bool bq,qS zA zn zc,qS dA dn dc,.string s,qS A rs.length c]⟩] [] [fun h_=>RLs h_ rl L,fun h_=>SlO 4 nU dE h_ RA rl,fun h_=>RZ h_ (bq,qS zA zn zc,qS dA dn dc) q]∧k≤rl.length∧(∀ i,i<k→(rl.getD i dE).s≠s)) _ ⟨0,h6,rfl,rfl,hs.to _ _,Nat.zero_le _,(fun i hi=>absurd hi (Nat.not_lt_zero i))⟩ ?_);rintro _ _ w7 ⟨k,h8,hm9,rfl,hs,hk,hno⟩;refine cQ (ab hs [.m 22 6,.m 23 1,.v 24 (nV rl.length)] ?_);cases za:(decide ((k:Int)<(rl.length:Int)))
 ·
  have zd:=oF za;refine lB 25 za (ag (CG.exit ?_))
  show CG _ _ _ _ _ _ _ _
  refine av (lC 42 hs (kr 0 oM oM _ _ hs.g) ?_);rintro _ _ _ hs ⟨zf,zg,zi,zj,rfl,zp,zq,zr,zs⟩;replace hs:=hs.aP zr zs;refine lP 0 0 (ct ((0:Int):Rat) zf zg zi zj) hs (fun _ hs=>lL hs [.v 5 (iV 11)] (lN (kX ?_)));have hkn:k=L.length:=by omega
  rw[hkn] at hno
  exact hs.ret [(0,0,3)] (.tuple #[rG ((0:Int):Rat) zf zg zi zj,iV 11]) (by rw[oO rfl (oQ (fun i hi=>by rw[←((hs.f.r.1).at_ i hi).1];exact hno i hi))];exact ⟨_,rfl,⟨_,_,_,_,rfl,zp,zq,hs.f.2.1,hs.f.1⟩⟩)
 have zd:=oT za;refine lB 25 za (ak (cK (cQ (kZ (cQ (cR 8 [] mixed hs ar ?_))))));refine eV 0 28 (qS RA rl.length cQ_) (eV 1 29 (nV k) (eX 2 30 RA rl.length cQ_ 4 (k:Nat) k ((hs.f.2.1).ok oM) (eV 3 31 (.pointer (some ⟨(aB RA),aO RA+k*4,none⟩)) (eH 4 32 (.string ((rl.getD k dE).s)) hs (((hs.f.2.1).el k oM).part 0 1) (eV 5 33 (qP b1 5) (eO 6 34 [(1,5,1)] (.string s) hs ?_))))));cases zb:(jj ((rl.getD k dE).s) s)
 ·
  have ze:=fX zb;refine eB 7 35 zb (ce hs (fun _ zx hs=>tN (cY (cK (kQ (lL hs [.m 26 6] (bn 27 ((k:Nat)+1) (k+1) ?_)))))));refine lL hs [.m 6 27] (lD ?_);intro a_ ka;refine ⟨_,_,?_,⟨k+1,zx,rfl,rfl,hs.to _ _,oM,(fun i hi=>by rcases Nat.lt_succ_iff_lt_or_eq.1 hi with h_|rfl;exact hno i h_;assumption)⟩,ka.to _ kR⟩
  omega
 have ze:=fY zb;refine eB 7 35 zb (ce hs (fun _ _ hs=>tN (cl (ab hs [.m 36 1,.m 37 6] (lX 38 RA rl.length cQ_ 4 (k:Nat) k ((hs.f.2.1).ok oM) ?_)))));refine lL hs [.v 39 (.pointer (some ⟨(aB RA),aO RA+k*4+1,none⟩))] (lH 40 (.agg #[.bool ((rl.getD k dE).neg),qS ((rl.getD k dE).zA) ((rl.getD k dE).zn) ((rl.getD k dE).zc),qS ((rl.getD k dE).dA) ((rl.getD k dE).dn) ((rl.getD k dE).dc)]) hs (((hs.f.2.1).el k oM).part 1 3) ?_);refine lC 41 hs (ni (rl.getD k dE).neg (rl.getD k dE).zA (rl.getD k dE).zn (rl.getD k dE).zc (rl.getD k dE).dA (rl.getD k dE).dn (rl.getD k dE).dc (L.getD k bK).q _ _ hs.g ((hs.f.1).at_ k oM).2) ?_;rintro _ _ _ hs ⟨zk,zl,zm,zo,rfl,zt,zu,zv,zw⟩;replace hs:=hs.aP zv zw;exact lP 0 0 (ct ((L.getD k bK).q) zk zl zm zo) hs (fun _ hs=>lL hs [.v 5 (iV 0)] (ae hs [(0,0,3)] (.tuple #[rG ((L.getD k bK).q) zk zl zm zo,iV 0]) (by rw[oo rfl (oe (fun i hi=>by rw[←((hs.f.r.1).at_ i oM).1];exact hno i hi) oM (((hs.f.r.1).at_ k oM).1.symm.trans aM))];exact ⟨_,rfl,⟨_,_,_,_,rfl,zt,zu,hs.f.2.1,hs.f.1⟩⟩)))
theorem E3  (ok:ByteArray→Prop)(d:Nat)(RA:Option Addr)(cQ_:Nat)(rl:List RLt)(L:List PLt)(hLl:L.length≤1000)(cc:Nat)(hc3:3≤cc)(hcm:cc≤7000)(hLq:∀ i,LQ (cc-2) (L.getD i bK).q)(ih:∀ (r:RTm) (t:Tm) (w:World) (h:Hp),G w h→RmH d h r t→WfT ok d t→cb d t≤1000→SlO 4 nU dE h RA rl→RLs h rl L→Calls Tryz.prog 23 #[e7 r,.slice RA rl.length cQ_] w (Ret w h (fun v h1=>∃ x,v=.tuple #[x,iV (aD L d t).1]∧RQ h1 x (aD L d t).2)))(op n:Int)(bq:Bool)(zA:Option Addr)(zn zc:Nat)(dA:Option Addr)(dn dc:Nat)(q:Rat)(s:ByteArray)(A:Option Addr)(c:Nat)(r1:RTm)(t1:Tm)(hw1:WfT ok d t1)(hg1:cb d t1≤1000)(hv1:LQ (cc*1000) (aD L d t1).2)(hop:3≤op∧op≤13)(hn : -12≤n∧n≤12)(hq0:q=0)(w:World)(h:Hp)(g:G w h)(hZ:RZ h (bq,.slice zA zn zc,.slice dA dn dc) q)(hK:SlO 7 fO ax h A ([r1]:List RTm))(hr1:RmH d h r1 t1)(hL:SlO 4 nU dE h RA rl)(hRL:RLs h rl L):CR 23 #[.agg #[iV op,iV n,.bool bq,.slice zA zn zc,.slice dA dn dc,.string s,.slice A 1 c],.slice RA rl.length cQ_] w h (fun v h1=>∃ x,v=.tuple #[x,iV (aD L (d+1) (.mk op n q s ([t1]:List Tm))).1]∧RQ h1 x (aD L (d+1) (.mk op n q s ([t1]:List Tm))).2):=by
 have hs:=((((((sS g).add (K:=fun h_=>RZ h_ (bq,qS zA zn zc,qS dA dn dc) q) hZ).aS hK).add (K:=fun h_=>RmH d h_ r1 t1) hr1).aS hL).add (K:=fun h_=>RLs h_ rl L) hRL);have hln:([r1]:List RTm).length=1:=rfl;refine go Tryz.func23 [(0,.agg #[iV op,iV n,.bool bq,qS zA zn zc,qS dA dn dc,.string s,qS A 1 c]),(1,qS RA rl.length cQ_)] rfl (av (lA 2 31 ([iV op,iV n,.bool bq,qS zA zn zc,qS dA dn dc,.string s,qS A 1 c]) hs (fun b1 w2 h3 hs=>lA 4 28 ([qF,sZ,sZ]) hs (fun b4 w5 h6 hs=>lL hs [.v 5 (iV 0)] (ah (ab hs [.v 13 (pB b1),.o 14 (iV op) 1 0 1] (a8 (av ?_))))))));have hb7:((op:Int) == (1:Int))=false:=cw oM;have phb7:=af hb7;refine lB 16 hb7 (lL hs [.m 15 16] (ag (av ?_)));have hb8:((op:Int) == (2:Int))=false:=cw oM;have phb8:=af hb8;refine lB 21 hb8 (lL hs [.m 20 21] (ag (cK (av (lC 43 hs (kr 0 oM oM _ _ hs.g) ?_)))));rintro _ _ _ hs ⟨A9,zf,zg,zi,rfl,hc11,hc15,zK,zL⟩;replace hs:=hs.aP zK zL;refine lC 44 hs (kr 0 oM oM _ _ hs.g) ?_;rintro _ _ _ hs ⟨za,zb,zd,ze,rfl,zM,zN,zP,zQ⟩;replace hs:=hs.aP zP zQ;refine Fr 45 28 3 i7 ([((ac ((0:Int):Rat).num,qS A9 ((lim (aa ((0:Int):Rat).num)).length) zf,qS zg ((lim ((0:Int):Rat).den).length) zi):RT),((ac ((0:Int):Rat).num,qS za ((lim (aa ((0:Int):Rat).num)).length) zb,qS zd ((lim ((0:Int):Rat).den).length) ze):RT)]:List RT) hs (fun zo _ _ hs=>lL hs [.m 7 45] ?_);have hlw1:(([((ac ((0:Int):Rat).num,qS A9 ((lim (aa ((0:Int):Rat).num)).length) zf,qS zg ((lim ((0:Int):Rat).den).length) zi):RT),((ac ((0:Int):Rat).num,qS za ((lim (aa ((0:Int):Rat).num)).length) zb,qS zd ((lim ((0:Int):Rat).den).length) ze):RT)]:List RT)).length=2:=rfl;refine ah (ab hs [.v 8 (iV 0)] (a8 (cU ?_)));refine cN (cQ (ab hs [.m 46 8,.v 47 (qP b1 6),.o 48 (qS A 1 c) 1 6 1,.v 49 (iV 1),.v 50 qT] (ak (cK (cQ (kZ (ab hs [.v 54 (qP b1 6),.o 55 (qS A 1 c) 1 6 1,.m 56 8] (lX 57 A 1 c 7 0 0 ((hs.f.q.r.2.1).ok oM) ?_))))))));refine lH 58 (.agg #[iV ((([r1]:List RTm).getD 0 ax).op),iV ((([r1]:List RTm).getD 0 ax).n),.bool ((([r1]:List RTm).getD 0 ax).neg),qS ((([r1]:List RTm).getD 0 ax).zA) ((([r1]:List RTm).getD 0 ax).zn) ((([r1]:List RTm).getD 0 ax).zc),qS ((([r1]:List RTm).getD 0 ax).dA) ((([r1]:List RTm).getD 0 ax).dn) ((([r1]:List RTm).getD 0 ax).dc),.string ((([r1]:List RTm).getD 0 ax).s),qS ((([r1]:List RTm).getD 0 ax).A) ((([r1]:List RTm).getD 0 ax).m) ((([r1]:List RTm).getD 0 ax).c)]) hs ((hs.f.q.r.2.1).el 0 oM) (lL hs [.m 59 1] (lC 60 hs (ih (([r1]:List RTm).getD 0 ax) t1 _ _ hs.g hs.f.q.r.1 hw1 hg1 hs.f.q.2.1 hs.f.q.1) ?_));rintro _ _ _ hs ⟨_,rfl,zj,zk,zl,zm,rfl,zR,zS,zU,zW⟩;replace hs:=hs.aP zU zW;refine lL hs [.m 53 60,.v 61 (rG ((aD L d t1).2) zj zk zl zm),.v 62 (iV ((aD L d t1).1))] (lA 9 28 ([qF,sZ,sZ]) hs (fun zu _ _ hs=>lP 0 0 (ct ((aD L d t1).2) zj zk zl zm) hs (fun _ hs=>lL hs [.m 10 62] (ah (ab hs [.m 63 10] ?_)))));cases zt:(((aD L d t1).1:Int) != (0:Int))
 ·
  have zw:=aY zt;refine lB 64 zt (ag (cK (kQ (lL hs [.m 67 7,.m 68 8,.o 69 (rG ((aD L d t1).2) zj zk zl zm) 0 0 3] (lX 70 (sB zo) ((([((ac ((0:Int):Rat).num,qS A9 ((lim (aa ((0:Int):Rat).num)).length) zf,qS zg ((lim ((0:Int):Rat).den).length) zi):RT),((ac ((0:Int):Rat).num,qS za ((lim (aa ((0:Int):Rat).num)).length) zb,qS zd ((lim ((0:Int):Rat).den).length) ze):RT)]:List RT)).length) ((([((ac ((0:Int):Rat).num,qS A9 ((lim (aa ((0:Int):Rat).num)).length) zf,qS zg ((lim ((0:Int):Rat).den).length) zi):RT),((ac ((0:Int):Rat).num,qS za ((lim (aa ((0:Int):Rat).num)).length) zb,qS zd ((lim ((0:Int):Rat).den).length) ze):RT)]:List RT)).length) 3 0 0 rfl ?_)))));refine Cf (ty:=28) (c:=(([((ac ((0:Int):Rat).num,qS A9 ((lim (aa ((0:Int):Rat).num)).length) zf,qS zg ((lim ((0:Int):Rat).den).length) zi):RT),((ac ((0:Int):Rat).num,qS za ((lim (aa ((0:Int):Rat).num)).length) zb,qS zd ((lim ((0:Int):Rat).den).length) ze):RT)]:List RT)).length) (b:=zo) 0 0 0 (ct ((aD L d t1).2) zj zk zl zm) ([((ac ((0:Int):Rat).num,qS A9 ((lim (aa ((0:Int):Rat).num)).length) zf,qS zg ((lim ((0:Int):Rat).den).length) zi):RT),((ac ((0:Int):Rat).num,qS za ((lim (aa ((0:Int):Rat).num)).length) zb,qS zd ((lim ((0:Int):Rat).den).length) ze):RT)]:List RT) i7 3 pz ((ac ((aD L d t1).2).num,qS zj ((lim (aa ((aD L d t1).2).num)).length) zk,qS zl ((lim ((aD L d t1).2).den).length) zm):RT) hs oM (fun _ hs=>?_);replace hs:=hs.to [⟨zu,28,ct ((aD L d t1).2) zj zk zl zm⟩,⟨b4,28,[qF,sZ,sZ]⟩,⟨b1,31,[iV op,iV n,.bool bq,qS zA zn zc,qS dA dn dc,.string s,qS A 1 c]⟩] [⟨28,3,sB zo,(([((ac ((0:Int):Rat).num,qS A9 ((lim (aa ((0:Int):Rat).num)).length) zf,qS zg ((lim ((0:Int):Rat).den).length) zi):RT),((ac ((0:Int):Rat).num,qS za ((lim (aa ((0:Int):Rat).num)).length) zb,qS zd ((lim ((0:Int):Rat).den).length) ze):RT)]:List RT)).length,(([((ac ((0:Int):Rat).num,qS A9 ((lim (aa ((0:Int):Rat).num)).length) zf,qS zg ((lim ((0:Int):Rat).den).length) zi):RT),((ac ((0:Int):Rat).num,qS za ((lim (aa ((0:Int):Rat).num)).length) zb,qS zd ((lim ((0:Int):Rat).den).length) ze):RT)]:List RT)).length,(([((ac ((0:Int):Rat).num,qS A9 ((lim (aa ((0:Int):Rat).num)).length) zf,qS zg ((lim ((0:Int):Rat).den).length) zi):RT),((ac ((0:Int):Rat).num,qS za ((lim (aa ((0:Int):Rat).num)).length) zb,qS zd ((lim ((0:Int):Rat).den).length) ze):RT)]:List RT).set 0 ((ac ((aD L d t1).2).num,qS zj ((lim (aa ((aD L d t1).2).num)).length) zk,qS zl ((lim ((aD L d t1).2).den).length) zm):RT)).flatMap i7⟩];have hlw2:(([((ac ((0:Int):Rat).num,qS A9 ((lim (aa ((0:Int):Rat).num)).length) zf,qS zg ((lim ((0:Int):Rat).den).length) zi):RT),((ac ((0:Int):Rat).num,qS za ((lim (aa ((0:Int):Rat).num)).length) zb,qS zd ((lim ((0:Int):Rat).den).length) ze):RT)]:List RT).set 0 ((ac ((aD L d t1).2).num,qS zj ((lim (aa ((aD L d t1).2).num)).length) zk,qS zl ((lim ((aD L d t1).2).den).length) zm):RT)).length=2:=rfl;refine lN (kQ (lL hs [.m 51 8,.v 52 (iV 1),.m 8 52] (lD (CL.to [(1,qS RA rl.length cQ_),(2,pB b1),(4,pB b4),(5,iV 0),(7,qS (sB zo) ((([((ac ((0:Int):Rat).num,qS A9 ((lim (aa ((0:Int):Rat).num)).length) zf,qS zg ((lim ((0:Int):Rat).den).length) zi):RT),((ac ((0:Int):Rat).num,qS za ((lim (aa ((0:Int):Rat).num)).length) zb,qS zd ((lim ((0:Int):Rat).den).length) ze):RT)]:List RT)).length) ((([((ac ((0:Int):Rat).num,qS A9 ((lim (aa ((0:Int):Rat).num)).length) zf,qS zg ((lim ((0:Int):Rat).den).length) zi):RT),((ac ((0:Int):Rat).num,qS za ((lim (aa ((0:Int):Rat).num)).length) zb,qS zd ((lim ((0:Int):Rat).den).length) ze):RT)]:List RT)).length)),(8,iV 1),(46,iV 0),(47,qP b1 6),(48,qS A 1 c),(49,iV 1),(50,qT),(54,qP b1 6),(55,qS A 1 c),(56,iV 0),(57,.pointer (some ⟨(aB A),aO A+0*7,none⟩)),(58,.agg #[iV ((([r1]:List RTm).getD 0 ax).op),iV ((([r1]:List RTm).getD 0 ax).n),.bool ((([r1]:List RTm).getD 0 ax).neg),qS ((([r1]:List RTm).getD 0 ax).zA) ((([r1]:List RTm).getD 0 ax).zn) ((([r1]:List RTm).getD 0 ax).zc),qS ((([r1]:List RTm).getD 0 ax).dA) ((([r1]:List RTm).getD 0 ax).dn) ((([r1]:List RTm).getD 0 ax).dc),.string ((([r1]:List RTm).getD 0 ax).s),qS ((([r1]:List RTm).getD 0 ax).A) ((([r1]:List RTm).getD 0 ax).m) ((([r1]:List RTm).getD 0 ax).c)]),(59,qS RA rl.length cQ_),(60,.tuple #[rG ((aD L d t1).2) zj zk zl zm,iV ((aD L d t1).1)]),(53,.tuple #[rG ((aD L d t1).2) zj zk zl zm,iV ((aD L d t1).1)]),(61,rG ((aD L d t1).2) zj zk zl zm),(62,iV ((aD L d t1).1)),(9,pB zu),(10,iV ((aD L d t1).1)),(63,iV ((aD L d t1).1)),(64,qF),(67,qS (sB zo) ((([((ac ((0:Int):Rat).num,qS A9 ((lim (aa ((0:Int):Rat).num)).length) zf,qS zg ((lim ((0:Int):Rat).den).length) zi):RT),((ac ((0:Int):Rat).num,qS za ((lim (aa ((0:Int):Rat).num)).length) zb,qS zd ((lim ((0:Int):Rat).den).length) ze):RT)]:List RT)).length) ((([((ac ((0:Int):Rat).num,qS A9 ((lim (aa ((0:Int):Rat).num)).length) zf,qS zg ((lim ((0:Int):Rat).den).length) zi):RT),((ac ((0:Int):Rat).num,qS za ((lim (aa ((0:Int):Rat).num)).length) zb,qS zd ((lim ((0:Int):Rat).den).length) ze):RT)]:List RT)).length)),(68,iV 0),(69,rG ((aD L d t1).2) zj zk zl zm),(70,qP zo (0+0*3)),(51,iV 0),(52,iV 1)] ?_))));replace hs:=hs.to [⟨zu,28,ct ((aD L d t1).2) zj zk zl zm⟩,⟨b4,28,[qF,sZ,sZ]⟩,⟨b1,31,[iV op,iV n,.bool bq,qS zA zn zc,qS dA dn dc,.string s,qS A 1 c]⟩] [⟨28,3,sB zo,(([((ac ((0:Int):Rat).num,qS A9 ((lim (aa ((0:Int):Rat).num)).length) zf,qS zg ((lim ((0:Int):Rat).den).length) zi):RT),((ac ((0:Int):Rat).num,qS za ((lim (aa ((0:Int):Rat).num)).length) zb,qS zd ((lim ((0:Int):Rat).den).length) ze):RT)]:List RT)).length,(([((ac ((0:Int):Rat).num,qS A9 ((lim (aa ((0:Int):Rat).num)).length) zf,qS zg ((lim ((0:Int):Rat).den).length) zi):RT),((ac ((0:Int):Rat).num,qS za ((lim (aa ((0:Int):Rat).num)).length) zb,qS zd ((lim ((0:Int):Rat).den).length) ze):RT)]:List RT)).length,(([((ac ((0:Int):Rat).num,qS A9 ((lim (aa ((0:Int):Rat).num)).length) zf,qS zg ((lim ((0:Int):Rat).den).length) zi):RT),((ac ((0:Int):Rat).num,qS za ((lim (aa ((0:Int):Rat).num)).length) zb,qS zd ((lim ((0:Int):Rat).den).length) ze):RT)]:List RT).set 0 ((ac ((aD L d t1).2).num,qS zj ((lim (aa ((aD L d t1).2).num)).length) zk,qS zl ((lim ((aD L d t1).2).den).length) zm):RT)).flatMap i7⟩];refine cN (cQ (ab hs [.m 46 8,.v 47 (qP b1 6),.o 48 (qS A 1 c) 2 6 1,.v 49 (iV 1),.v 50 qF] (ag (CG.exit ?_))))
  show CG _ _ _ _ _ _ _ _
  refine cQ ?_;have hsr:=hs;refine cR 15 [⟨14,11,.cells (List.toArray [qF,sZ,sZ]) 28 (0,0)⟩] mixed hs (bP (fb kR (fun _ _=>by kernel_rfl)) ar) (eV 0 72 (pB b1) (eO 1 73 [(2,0,1)] (iV op) hs (eV 2 74 (qP b1 1) (eO 3 75 [(2,1,1)] (iV n) hs (eV 4 76 (qS (sB zo) ((([((ac ((0:Int):Rat).num,qS A9 ((lim (aa ((0:Int):Rat).num)).length) zf,qS zg ((lim ((0:Int):Rat).den).length) zi):RT),((ac ((0:Int):Rat).num,qS za ((lim (aa ((0:Int):Rat).num)).length) zb,qS zd ((lim ((0:Int):Rat).den).length) ze):RT)]:List RT)).length) ((([((ac ((0:Int):Rat).num,qS A9 ((lim (aa ((0:Int):Rat).num)).length) zf,qS zg ((lim ((0:Int):Rat).den).length) zi):RT),((ac ((0:Int):Rat).num,qS za ((lim (aa ((0:Int):Rat).num)).length) zb,qS zd ((lim ((0:Int):Rat).den).length) ze):RT)]:List RT)).length)) ?_)))));refine eX 5 77 (sB zo) ((([((ac ((0:Int):Rat).num,qS A9 ((lim (aa ((0:Int):Rat).num)).length) zf,qS zg ((lim ((0:Int):Rat).den).length) zi):RT),((ac ((0:Int):Rat).num,qS za ((lim (aa ((0:Int):Rat).num)).length) zb,qS zd ((lim ((0:Int):Rat).den).length) ze):RT)]:List RT)).length) ((([((ac ((0:Int):Rat).num,qS A9 ((lim (aa ((0:Int):Rat).num)).length) zf,qS zg ((lim ((0:Int):Rat).den).length) zi):RT),((ac ((0:Int):Rat).num,qS za ((lim (aa ((0:Int):Rat).num)).length) zb,qS zd ((lim ((0:Int):Rat).den).length) ze):RT)]:List RT)).length) 3 0 0 rfl (Ci (ty:=28) (sz:=3) (c:=(([((ac ((0:Int):Rat).num,qS A9 ((lim (aa ((0:Int):Rat).num)).length) zf,qS zg ((lim ((0:Int):Rat).den).length) zi):RT),((ac ((0:Int):Rat).num,qS za ((lim (aa ((0:Int):Rat).num)).length) zb,qS zd ((lim ((0:Int):Rat).den).length) ze):RT)]:List RT)).length) (m:=(([((ac ((0:Int):Rat).num,qS A9 ((lim (aa ((0:Int):Rat).num)).length) zf,qS zg ((lim ((0:Int):Rat).den).length) zi):RT),((ac ((0:Int):Rat).num,qS za ((lim (aa ((0:Int):Rat).num)).length) zb,qS zd ((lim ((0:Int):Rat).den).length) ze):RT)]:List RT)).length) (b:=zo) (cs:=(([((ac ((0:Int):Rat).num,qS A9 ((lim (aa ((0:Int):Rat).num)).length) zf,qS zg ((lim ((0:Int):Rat).den).length) zi):RT),((ac ((0:Int):Rat).num,qS za ((lim (aa ((0:Int):Rat).num)).length) zb,qS zd ((lim ((0:Int):Rat).den).length) ze):RT)]:List RT).set 0 ((ac ((aD L d t1).2).num,qS zj ((lim (aa ((aD L d t1).2).num)).length) zk,qS zl ((lim ((aD L d t1).2).den).length) zm):RT)).flatMap i7) 6 78 0 (rG ((aD L d t1).2) zj zk zl zm) (ct ((aD L d t1).2) zj zk zl zm) hs (eW (f:=i7) (sz:=3) (fun _=>rfl) pz (([((ac ((0:Int):Rat).num,qS A9 ((lim (aa ((0:Int):Rat).num)).length) zf,qS zg ((lim ((0:Int):Rat).den).length) zi):RT),((ac ((0:Int):Rat).num,qS za ((lim (aa ((0:Int):Rat).num)).length) zb,qS zd ((lim ((0:Int):Rat).den).length) ze):RT)]:List RT).set 0 ((ac ((aD L d t1).2).num,qS zj ((lim (aa ((aD L d t1).2).num)).length) zk,qS zl ((lim ((aD L d t1).2).den).length) zm):RT)) 0 oM) (eV 7 79 (qS (sB zo) ((([((ac ((0:Int):Rat).num,qS A9 ((lim (aa ((0:Int):Rat).num)).length) zf,qS zg ((lim ((0:Int):Rat).den).length) zi):RT),((ac ((0:Int):Rat).num,qS za ((lim (aa ((0:Int):Rat).num)).length) zb,qS zd ((lim ((0:Int):Rat).den).length) ze):RT)]:List RT)).length) ((([((ac ((0:Int):Rat).num,qS A9 ((lim (aa ((0:Int):Rat).num)).length) zf,qS zg ((lim ((0:Int):Rat).den).length) zi):RT),((ac ((0:Int):Rat).num,qS za ((lim (aa ((0:Int):Rat).num)).length) zb,qS zd ((lim ((0:Int):Rat).den).length) ze):RT)]:List RT)).length)) ?_));refine eX 8 80 (sB zo) ((([((ac ((0:Int):Rat).num,qS A9 ((lim (aa ((0:Int):Rat).num)).length) zf,qS zg ((lim ((0:Int):Rat).den).length) zi):RT),((ac ((0:Int):Rat).num,qS za ((lim (aa ((0:Int):Rat).num)).length) zb,qS zd ((lim ((0:Int):Rat).den).length) ze):RT)]:List RT)).length) ((([((ac ((0:Int):Rat).num,qS A9 ((lim (aa ((0:Int):Rat).num)).length) zf,qS zg ((lim ((0:Int):Rat).den).length) zi):RT),((ac ((0:Int):Rat).num,qS za ((lim (aa ((0:Int):Rat).num)).length) zb,qS zd ((lim ((0:Int):Rat).den).length) ze):RT)]:List RT)).length) 3 1 1 rfl (Ci (ty:=28) (sz:=3) (c:=(([((ac ((0:Int):Rat).num,qS A9 ((lim (aa ((0:Int):Rat).num)).length) zf,qS zg ((lim ((0:Int):Rat).den).length) zi):RT),((ac ((0:Int):Rat).num,qS za ((lim (aa ((0:Int):Rat).num)).length) zb,qS zd ((lim ((0:Int):Rat).den).length) ze):RT)]:List RT)).length) (m:=(([((ac ((0:Int):Rat).num,qS A9 ((lim (aa ((0:Int):Rat).num)).length) zf,qS zg ((lim ((0:Int):Rat).den).length) zi):RT),((ac ((0:Int):Rat).num,qS za ((lim (aa ((0:Int):Rat).num)).length) zb,qS zd ((lim ((0:Int):Rat).den).length) ze):RT)]:List RT)).length) (b:=zo) (cs:=(([((ac ((0:Int):Rat).num,qS A9 ((lim (aa ((0:Int):Rat).num)).length) zf,qS zg ((lim ((0:Int):Rat).den).length) zi):RT),((ac ((0:Int):Rat).num,qS za ((lim (aa ((0:Int):Rat).num)).length) zb,qS zd ((lim ((0:Int):Rat).den).length) ze):RT)]:List RT).set 0 ((ac ((aD L d t1).2).num,qS zj ((lim (aa ((aD L d t1).2).num)).length) zk,qS zl ((lim ((aD L d t1).2).den).length) zm):RT)).flatMap i7) 9 81 0 (rG ((0:Int):Rat) za zb zd ze) (ct ((0:Int):Rat) za zb zd ze) hs (eW (f:=i7) (sz:=3) (fun _=>rfl) pz (([((ac ((0:Int):Rat).num,qS A9 ((lim (aa ((0:Int):Rat).num)).length) zf,qS zg ((lim ((0:Int):Rat).den).length) zi):RT),((ac ((0:Int):Rat).num,qS za ((lim (aa ((0:Int):Rat).num)).length) zb,qS zd ((lim ((0:Int):Rat).den).length) ze):RT)]:List RT).set 0 ((ac ((aD L d t1).2).num,qS zj ((lim (aa ((aD L d t1).2).num)).length) zk,qS zl ((lim ((aD L d t1).2).den).length) zm):RT)) 1 oM) (eC 10 82 hs (fun _ _ hs=>Gn op n ((aD L d t1).2) zj zk zl zm zR zS ((0:Int):Rat) za zb zd ze zM zN (cc*1000) oM hv1 ((LQ.lit (z:=0) kD).mono oM) oM oM _ _ hs.g hs.f.2.1 hs.f.1 hs.f.r.2.1 hs.f.r.1) ?_));rintro _ _ _ _ _ hs ⟨_,rfl,zp,zq,zr,zs,rfl,zX,ya,yb,yc⟩;replace hs:=hs.aP yb yc;refine eV 11 71 (.tuple #[rG (f9 op n 0 ((aD L d t1).2) ((0:Int):Rat)) zp zq zr zs,.bool (decide (iH op n ((aD L d t1).2) ((0:Int):Rat)))]) (eV 12 83 (rG (f9 op n 0 ((aD L d t1).2) ((0:Int):Rat)) zp zq zr zs) (eV 13 84 (.bool (decide (iH op n ((aD L d t1).2) ((0:Int):Rat)))) (iu [] hsr hs 28 [qF,sZ,sZ] (fun _ _ ym hs=>tP 15 0 0 (ct (f9 op n 0 ((aD L d t1).2) ((0:Int):Rat)) zp zq zr zs) hs (fun _ hs=>tV 16 12 (.bool (decide (iH op n ((aD L d t1).2) ((0:Int):Rat)))) (tN (bI [(4,pB b4),(5,iV 0),(11,pB ym),(12,.bool (decide (iH op n ((aD L d t1).2) ((0:Int):Rat))))] ?_)))))));refine cQ (ab hs [.m 85 12] ?_);cases zv:(!(decide (iH op n ((aD L d t1).2) ((0:Int):Rat))))
  ·
   exact lB 86 zv (ag (cK (ab hs [.o 88 (rG (f9 op n 0 ((aD L d t1).2) ((0:Int):Rat)) zp zq zr zs) 0 0 3] (lP 2 0 (ct (f9 op n 0 ((aD L d t1).2) ((0:Int):Rat)) zp zq zr zs) hs (fun _ hs=>lL hs [.v 5 (iV 0)] (ae hs [(2,0,3)] (.tuple #[rG (f9 op n 0 ((aD L d t1).2) ((0:Int):Rat)) zp zq zr zs,iV 0]) (by rw[kp oM,hq0,j0 oM oM (DQ aM)];exact ⟨_,rfl,⟨_,_,_,_,rfl,zX,ya,hs.f.2.1,hs.f.1⟩⟩)))))))
  refine lB 86 zv (ak (av (lC 87 hs (kr 0 oM oM _ _ hs.g) ?_)));rintro _ _ _ hs ⟨zx,zB,zD,zE,rfl,yd,ye,yf,yg⟩;replace hs:=hs.aP yf yg;exact lP 2 0 (ct ((0:Int):Rat) zx zB zD zE) hs (fun _ hs=>lL hs [.v 5 (iV 6)] (ae hs [(2,0,3)] (.tuple #[rG ((0:Int):Rat) zx zB zD zE,iV 6]) (by rw[kp oM,nw oM oM (EO aM)];exact ⟨_,rfl,⟨_,_,_,_,rfl,yd,ye,hs.f.2.1,hs.f.1⟩⟩)))
 have zw:=ay zt;refine lB 64 zt (ak (av (lC 65 hs (kr 0 oM oM _ _ hs.g) ?_)));rintro _ _ _ hs ⟨zG,zH,zI,zJ,rfl,yi,yj,yk,yl⟩;replace hs:=hs.aP yk yl;exact lL hs [.m 66 10] (lP 1 0 (ct ((0:Int):Rat) zG zH zI zJ) hs (fun _ hs=>lL hs [.m 5 66] (ae hs [(1,0,3)] (.tuple #[rG ((0:Int):Rat) zG zH zI zJ,iV ((aD L d t1).1)]) (by rw[kp oM,pe oM];exact ⟨_,rfl,⟨_,_,_,_,rfl,yi,yj,hs.f.2.1,hs.f.1⟩⟩))))
theorem Ef  (ok:ByteArray→Prop)(d:Nat)(RA:Option Addr)(cQ_:Nat)(rl:List RLt)(L:List PLt)(hLl:L.length≤1000)(cc:Nat)(hc3:3≤cc)(hcm:cc≤7000)(hLq:∀ i,LQ (cc-2) (L.getD i bK).q)(ih:∀ (r:RTm) (t:Tm) (w:World) (h:Hp),G w h→RmH d h r t→WfT ok d t→cb d t≤1000→SlO 4 nU dE h RA rl→RLs h rl L→Calls Tryz.prog 23 #[e7 r,.slice RA rl.length cQ_] w (Ret w h (fun v h1=>∃ x,v=.tuple #[x,iV (aD L d t).1]∧RQ h1 x (aD L d t).2)))(op n:Int)(bq:Bool)(zA:Option Addr)(zn zc:Nat)(dA:Option Addr)(dn dc:Nat)(q:Rat)(s:ByteArray)(A:Option Addr)(c:Nat)(r1:RTm)(t1:Tm)(hw1:WfT ok d t1)(hg1:cb d t1≤1000)(hv1:LQ (cc*1000) (aD L d t1).2)(r2:RTm)(t2:Tm)(hw2:WfT ok d t2)(hg2:cb d t2≤1000)(hv2:LQ (cc*1000) (aD L d t2).2)(hop:3≤op∧op≤13)(hn : -12≤n∧n≤12)(hq0:q=0)(w:World)(h:Hp)(g:G w h)(hZ:RZ h (bq,.slice zA zn zc,.slice dA dn dc) q)(hK:SlO 7 fO ax h A ([r1,r2]:List RTm))(hr1:RmH d h r1 t1)(hr2:RmH d h r2 t2)(hL:SlO 4 nU dE h RA rl)(hRL:RLs h rl L):CR 23 #[.agg #[iV op,iV n,.bool bq,.slice zA zn zc,.slice dA dn dc,.string s,.slice A 2 c],.slice RA rl.length cQ_] w h (fun v h1=>∃ x,v=.tuple #[x,iV (aD L (d+1) (.mk op n q s ([t1,t2]:List Tm))).1]∧RQ h1 x (aD L (d+1) (.mk op n q s ([t1,t2]:List Tm))).2):=by
 have hs:=(((((((sS g).add (K:=fun h_=>RZ h_ (bq,qS zA zn zc,qS dA dn dc) q) hZ).aS hK).add (K:=fun h_=>RmH d h_ r1 t1) hr1).add (K:=fun h_=>RmH d h_ r2 t2) hr2).aS hL).add (K:=fun h_=>RLs h_ rl L) hRL);have hln:([r1,r2]:List RTm).length=2:=rfl;refine go Tryz.func23 [(0,.agg #[iV op,iV n,.bool bq,qS zA zn zc,qS dA dn dc,.string s,qS A 2 c]),(1,qS RA rl.length cQ_)] rfl (av (lA 2 31 ([iV op,iV n,.bool bq,qS zA zn zc,qS dA dn dc,.string s,qS A 2 c]) hs (fun b1 w2 h3 hs=>lA 4 28 ([qF,sZ,sZ]) hs (fun b4 w5 h6 hs=>lL hs [.v 5 (iV 0)] (ah (ab hs [.v 13 (pB b1),.o 14 (iV op) 1 0 1] (a8 (av ?_))))))));have hb7:((op:Int) == (1:Int))=false:=cw oM;have phb7:=af hb7;refine lB 16 hb7 (lL hs [.m 15 16] (ag (av ?_)));have hb8:((op:Int) == (2:Int))=false:=cw oM;have phb8:=af hb8;refine lB 21 hb8 (lL hs [.m 20 21] (ag (cK (av (lC 43 hs (kr 0 oM oM _ _ hs.g) ?_)))));rintro _ _ _ hs ⟨A9,za,zb,zd,rfl,hc11,hc15,yf,yg⟩;replace hs:=hs.aP yf yg;refine lC 44 hs (kr 0 oM oM _ _ hs.g) ?_;rintro _ _ _ hs ⟨ze,zf,zg,zi,rfl,hc21,hc25,yi,yj⟩;replace hs:=hs.aP yi yj;refine Fr 45 28 3 i7 ([((ac ((0:Int):Rat).num,qS A9 ((lim (aa ((0:Int):Rat).num)).length) za,qS zb ((lim ((0:Int):Rat).den).length) zd):RT),((ac ((0:Int):Rat).num,qS ze ((lim (aa ((0:Int):Rat).num)).length) zf,qS zg ((lim ((0:Int):Rat).den).length) zi):RT)]:List RT) hs (fun zs _ _ hs=>lL hs [.m 7 45] ?_);have hlw1:(([((ac ((0:Int):Rat).num,qS A9 ((lim (aa ((0:Int):Rat).num)).length) za,qS zb ((lim ((0:Int):Rat).den).length) zd):RT),((ac ((0:Int):Rat).num,qS ze ((lim (aa ((0:Int):Rat).num)).length) zf,qS zg ((lim ((0:Int):Rat).den).length) zi):RT)]:List RT)).length=2:=rfl;refine ah (ab hs [.v 8 (iV 0)] (a8 (cU ?_)));refine cN (cQ (ab hs [.m 46 8,.v 47 (qP b1 6),.o 48 (qS A 2 c) 1 6 1,.v 49 (iV 2),.v 50 qT] (ak (cK (cQ (kZ (ab hs [.v 54 (qP b1 6),.o 55 (qS A 2 c) 1 6 1,.m 56 8] (lX 57 A 2 c 7 0 0 ((hs.f.q.q.1).ok oM) ?_))))))));refine lH 58 (.agg #[iV ((([r1,r2]:List RTm).getD 0 ax).op),iV ((([r1,r2]:List RTm).getD 0 ax).n),.bool ((([r1,r2]:List RTm).getD 0 ax).neg),qS ((([r1,r2]:List RTm).getD 0 ax).zA) ((([r1,r2]:List RTm).getD 0 ax).zn) ((([r1,r2]:List RTm).getD 0 ax).zc),qS ((([r1,r2]:List RTm).getD 0 ax).dA) ((([r1,r2]:List RTm).getD 0 ax).dn) ((([r1,r2]:List RTm).getD 0 ax).dc),.string ((([r1,r2]:List RTm).getD 0 ax).s),qS ((([r1,r2]:List RTm).getD 0 ax).A) ((([r1,r2]:List RTm).getD 0 ax).m) ((([r1,r2]:List RTm).getD 0 ax).c)]) hs ((hs.f.q.q.1).el 0 oM) (lL hs [.m 59 1] (lC 60 hs (ih (([r1,r2]:List RTm).getD 0 ax) t1 _ _ hs.g hs.f.q.r.2.1 hw1 hg1 hs.f.q.2.1 hs.f.q.1) ?_));rintro _ _ _ hs ⟨_,rfl,zj,zk,zl,zm,rfl,yk,yl,ym,yn⟩;replace hs:=hs.aP ym yn;refine lL hs [.m 53 60,.v 61 (rG ((aD L d t1).2) zj zk zl zm),.v 62 (iV ((aD L d t1).1))] (lA 9 28 ([qF,sZ,sZ]) hs (fun zD _ _ hs=>lP 0 0 (ct ((aD L d t1).2) zj zk zl zm) hs (fun _ hs=>lL hs [.m 10 62] (ah (ab hs [.m 63 10] ?_)))));cases zx:(((aD L d t1).1:Int) != (0:Int))
 ·
  have zL:=aY zx;refine lB 64 zx (ag (cK (kQ (lL hs [.m 67 7,.m 68 8,.o 69 (rG ((aD L d t1).2) zj zk zl zm) 0 0 3] (lX 70 (sB zs) ((([((ac ((0:Int):Rat).num,qS A9 ((lim (aa ((0:Int):Rat).num)).length) za,qS zb ((lim ((0:Int):Rat).den).length) zd):RT),((ac ((0:Int):Rat).num,qS ze ((lim (aa ((0:Int):Rat).num)).length) zf,qS zg ((lim ((0:Int):Rat).den).length) zi):RT)]:List RT)).length) ((([((ac ((0:Int):Rat).num,qS A9 ((lim (aa ((0:Int):Rat).num)).length) za,qS zb ((lim ((0:Int):Rat).den).length) zd):RT),((ac ((0:Int):Rat).num,qS ze ((lim (aa ((0:Int):Rat).num)).length) zf,qS zg ((lim ((0:Int):Rat).den).length) zi):RT)]:List RT)).length) 3 0 0 rfl ?_)))));refine Cf (ty:=28) (c:=(([((ac ((0:Int):Rat).num,qS A9 ((lim (aa ((0:Int):Rat).num)).length) za,qS zb ((lim ((0:Int):Rat).den).length) zd):RT),((ac ((0:Int):Rat).num,qS ze ((lim (aa ((0:Int):Rat).num)).length) zf,qS zg ((lim ((0:Int):Rat).den).length) zi):RT)]:List RT)).length) (b:=zs) 0 0 0 (ct ((aD L d t1).2) zj zk zl zm) ([((ac ((0:Int):Rat).num,qS A9 ((lim (aa ((0:Int):Rat).num)).length) za,qS zb ((lim ((0:Int):Rat).den).length) zd):RT),((ac ((0:Int):Rat).num,qS ze ((lim (aa ((0:Int):Rat).num)).length) zf,qS zg ((lim ((0:Int):Rat).den).length) zi):RT)]:List RT) i7 3 pz ((ac ((aD L d t1).2).num,qS zj ((lim (aa ((aD L d t1).2).num)).length) zk,qS zl ((lim ((aD L d t1).2).den).length) zm):RT) hs oM (fun _ hs=>?_);replace hs:=hs.to [⟨zD,28,ct ((aD L d t1).2) zj zk zl zm⟩,⟨b4,28,[qF,sZ,sZ]⟩,⟨b1,31,[iV op,iV n,.bool bq,qS zA zn zc,qS dA dn dc,.string s,qS A 2 c]⟩] [⟨28,3,sB zs,(([((ac ((0:Int):Rat).num,qS A9 ((lim (aa ((0:Int):Rat).num)).length) za,qS zb ((lim ((0:Int):Rat).den).length) zd):RT),((ac ((0:Int):Rat).num,qS ze ((lim (aa ((0:Int):Rat).num)).length) zf,qS zg ((lim ((0:Int):Rat).den).length) zi):RT)]:List RT)).length,(([((ac ((0:Int):Rat).num,qS A9 ((lim (aa ((0:Int):Rat).num)).length) za,qS zb ((lim ((0:Int):Rat).den).length) zd):RT),((ac ((0:Int):Rat).num,qS ze ((lim (aa ((0:Int):Rat).num)).length) zf,qS zg ((lim ((0:Int):Rat).den).length) zi):RT)]:List RT)).length,(([((ac ((0:Int):Rat).num,qS A9 ((lim (aa ((0:Int):Rat).num)).length) za,qS zb ((lim ((0:Int):Rat).den).length) zd):RT),((ac ((0:Int):Rat).num,qS ze ((lim (aa ((0:Int):Rat).num)).length) zf,qS zg ((lim ((0:Int):Rat).den).length) zi):RT)]:List RT).set 0 ((ac ((aD L d t1).2).num,qS zj ((lim (aa ((aD L d t1).2).num)).length) zk,qS zl ((lim ((aD L d t1).2).den).length) zm):RT)).flatMap i7⟩];have hlw2:(([((ac ((0:Int):Rat).num,qS A9 ((lim (aa ((0:Int):Rat).num)).length) za,qS zb ((lim ((0:Int):Rat).den).length) zd):RT),((ac ((0:Int):Rat).num,qS ze ((lim (aa ((0:Int):Rat).num)).length) zf,qS zg ((lim ((0:Int):Rat).den).length) zi):RT)]:List RT).set 0 ((ac ((aD L d t1).2).num,qS zj ((lim (aa ((aD L d t1).2).num)).length) zk,qS zl ((lim ((aD L d t1).2).den).length) zm):RT)).length=2:=rfl;refine lN (kQ (lL hs [.m 51 8,.v 52 (iV 1),.m 8 52] (lD (CL.to [(1,qS RA rl.length cQ_),(2,pB b1),(4,pB b4),(5,iV 0),(7,qS (sB zs) ((([((ac ((0:Int):Rat).num,qS A9 ((lim (aa ((0:Int):Rat).num)).length) za,qS zb ((lim ((0:Int):Rat).den).length) zd):RT),((ac ((0:Int):Rat).num,qS ze ((lim (aa ((0:Int):Rat).num)).length) zf,qS zg ((lim ((0:Int):Rat).den).length) zi):RT)]:List RT)).length) ((([((ac ((0:Int):Rat).num,qS A9 ((lim (aa ((0:Int):Rat).num)).length) za,qS zb ((lim ((0:Int):Rat).den).length) zd):RT),((ac ((0:Int):Rat).num,qS ze ((lim (aa ((0:Int):Rat).num)).length) zf,qS zg ((lim ((0:Int):Rat).den).length) zi):RT)]:List RT)).length)),(8,iV 1),(46,iV 0),(47,qP b1 6),(48,qS A 2 c),(49,iV 2),(50,qT),(54,qP b1 6),(55,qS A 2 c),(56,iV 0),(57,.pointer (some ⟨(aB A),aO A+0*7,none⟩)),(58,.agg #[iV ((([r1,r2]:List RTm).getD 0 ax).op),iV ((([r1,r2]:List RTm).getD 0 ax).n),.bool ((([r1,r2]:List RTm).getD 0 ax).neg),qS ((([r1,r2]:List RTm).getD 0 ax).zA) ((([r1,r2]:List RTm).getD 0 ax).zn) ((([r1,r2]:List RTm).getD 0 ax).zc),qS ((([r1,r2]:List RTm).getD 0 ax).dA) ((([r1,r2]:List RTm).getD 0 ax).dn) ((([r1,r2]:List RTm).getD 0 ax).dc),.string ((([r1,r2]:List RTm).getD 0 ax).s),qS ((([r1,r2]:List RTm).getD 0 ax).A) ((([r1,r2]:List RTm).getD 0 ax).m) ((([r1,r2]:List RTm).getD 0 ax).c)]),(59,qS RA rl.length cQ_),(60,.tuple #[rG ((aD L d t1).2) zj zk zl zm,iV ((aD L d t1).1)]),(53,.tuple #[rG ((aD L d t1).2) zj zk zl zm,iV ((aD L d t1).1)]),(61,rG ((aD L d t1).2) zj zk zl zm),(62,iV ((aD L d t1).1)),(9,pB zD),(10,iV ((aD L d t1).1)),(63,iV ((aD L d t1).1)),(64,qF),(67,qS (sB zs) ((([((ac ((0:Int):Rat).num,qS A9 ((lim (aa ((0:Int):Rat).num)).length) za,qS zb ((lim ((0:Int):Rat).den).length) zd):RT),((ac ((0:Int):Rat).num,qS ze ((lim (aa ((0:Int):Rat).num)).length) zf,qS zg ((lim ((0:Int):Rat).den).length) zi):RT)]:List RT)).length) ((([((ac ((0:Int):Rat).num,qS A9 ((lim (aa ((0:Int):Rat).num)).length) za,qS zb ((lim ((0:Int):Rat).den).length) zd):RT),((ac ((0:Int):Rat).num,qS ze ((lim (aa ((0:Int):Rat).num)).length) zf,qS zg ((lim ((0:Int):Rat).den).length) zi):RT)]:List RT)).length)),(68,iV 0),(69,rG ((aD L d t1).2) zj zk zl zm),(70,qP zs (0+0*3)),(51,iV 0),(52,iV 1)] ?_))));replace hs:=hs.to [⟨zD,28,ct ((aD L d t1).2) zj zk zl zm⟩,⟨b4,28,[qF,sZ,sZ]⟩,⟨b1,31,[iV op,iV n,.bool bq,qS zA zn zc,qS dA dn dc,.string s,qS A 2 c]⟩] [⟨28,3,sB zs,(([((ac ((0:Int):Rat).num,qS A9 ((lim (aa ((0:Int):Rat).num)).length) za,qS zb ((lim ((0:Int):Rat).den).length) zd):RT),((ac ((0:Int):Rat).num,qS ze ((lim (aa ((0:Int):Rat).num)).length) zf,qS zg ((lim ((0:Int):Rat).den).length) zi):RT)]:List RT)).length,(([((ac ((0:Int):Rat).num,qS A9 ((lim (aa ((0:Int):Rat).num)).length) za,qS zb ((lim ((0:Int):Rat).den).length) zd):RT),((ac ((0:Int):Rat).num,qS ze ((lim (aa ((0:Int):Rat).num)).length) zf,qS zg ((lim ((0:Int):Rat).den).length) zi):RT)]:List RT)).length,(([((ac ((0:Int):Rat).num,qS A9 ((lim (aa ((0:Int):Rat).num)).length) za,qS zb ((lim ((0:Int):Rat).den).length) zd):RT),((ac ((0:Int):Rat).num,qS ze ((lim (aa ((0:Int):Rat).num)).length) zf,qS zg ((lim ((0:Int):Rat).den).length) zi):RT)]:List RT).set 0 ((ac ((aD L d t1).2).num,qS zj ((lim (aa ((aD L d t1).2).num)).length) zk,qS zl ((lim ((aD L d t1).2).den).length) zm):RT)).flatMap i7⟩];refine cN (cQ (ab hs [.m 46 8,.v 47 (qP b1 6),.o 48 (qS A 2 c) 2 6 1,.v 49 (iV 2),.v 50 qT] (ak (cK (cQ (kZ (ab hs [.v 54 (qP b1 6),.o 55 (qS A 2 c) 2 6 1,.m 56 8] (lX 57 A 2 c 7 1 1 ((hs.f.q.q.r.1).ok oM) ?_))))))));refine lH 58 (.agg #[iV ((([r1,r2]:List RTm).getD 1 ax).op),iV ((([r1,r2]:List RTm).getD 1 ax).n),.bool ((([r1,r2]:List RTm).getD 1 ax).neg),qS ((([r1,r2]:List RTm).getD 1 ax).zA) ((([r1,r2]:List RTm).getD 1 ax).zn) ((([r1,r2]:List RTm).getD 1 ax).zc),qS ((([r1,r2]:List RTm).getD 1 ax).dA) ((([r1,r2]:List RTm).getD 1 ax).dn) ((([r1,r2]:List RTm).getD 1 ax).dc),.string ((([r1,r2]:List RTm).getD 1 ax).s),qS ((([r1,r2]:List RTm).getD 1 ax).A) ((([r1,r2]:List RTm).getD 1 ax).m) ((([r1,r2]:List RTm).getD 1 ax).c)]) hs ((hs.f.q.q.r.1).el 1 oM) (lL hs [.m 59 1] (lC 60 hs (ih (([r1,r2]:List RTm).getD 1 ax) t2 _ _ hs.g hs.f.q.q.1 hw2 hg2 hs.f.q.r.2.1 hs.f.q.r.1) ?_));rintro _ _ _ hs ⟨_,rfl,zo,zp,zq,zr,rfl,yo,yp,yq,yr⟩;replace hs:=hs.aP yq yr;refine lL hs [.m 53 60,.v 61 (rG ((aD L d t2).2) zo zp zq zr),.v 62 (iV ((aD L d t2).1))] (lA 9 28 ([qF,sZ,sZ]) hs (fun zE _ _ hs=>lP 0 0 (ct ((aD L d t2).2) zo zp zq zr) hs (fun _ hs=>lL hs [.m 10 62] (ah (ab hs [.m 63 10] ?_)))));cases zB:(((aD L d t2).1:Int) != (0:Int))
  ·
   have zM:=aY zB;refine lB 64 zB (ag (cK (kQ (lL hs [.m 67 7,.m 68 8,.o 69 (rG ((aD L d t2).2) zo zp zq zr) 0 0 3] (lX 70 (sB zs) ((([((ac ((0:Int):Rat).num,qS A9 ((lim (aa ((0:Int):Rat).num)).length) za,qS zb ((lim ((0:Int):Rat).den).length) zd):RT),((ac ((0:Int):Rat).num,qS ze ((lim (aa ((0:Int):Rat).num)).length) zf,qS zg ((lim ((0:Int):Rat).den).length) zi):RT)]:List RT)).length) ((([((ac ((0:Int):Rat).num,qS A9 ((lim (aa ((0:Int):Rat).num)).length) za,qS zb ((lim ((0:Int):Rat).den).length) zd):RT),((ac ((0:Int):Rat).num,qS ze ((lim (aa ((0:Int):Rat).num)).length) zf,qS zg ((lim ((0:Int):Rat).den).length) zi):RT)]:List RT)).length) 3 1 1 rfl ?_)))));refine Cf (ty:=28) (c:=(([((ac ((0:Int):Rat).num,qS A9 ((lim (aa ((0:Int):Rat).num)).length) za,qS zb ((lim ((0:Int):Rat).den).length) zd):RT),((ac ((0:Int):Rat).num,qS ze ((lim (aa ((0:Int):Rat).num)).length) zf,qS zg ((lim ((0:Int):Rat).den).length) zi):RT)]:List RT)).length) (b:=zs) 0 1 0 (ct ((aD L d t2).2) zo zp zq zr) (([((ac ((0:Int):Rat).num,qS A9 ((lim (aa ((0:Int):Rat).num)).length) za,qS zb ((lim ((0:Int):Rat).den).length) zd):RT),((ac ((0:Int):Rat).num,qS ze ((lim (aa ((0:Int):Rat).num)).length) zf,qS zg ((lim ((0:Int):Rat).den).length) zi):RT)]:List RT).set 0 ((ac ((aD L d t1).2).num,qS zj ((lim (aa ((aD L d t1).2).num)).length) zk,qS zl ((lim ((aD L d t1).2).den).length) zm):RT)) i7 3 pz ((ac ((aD L d t2).2).num,qS zo ((lim (aa ((aD L d t2).2).num)).length) zp,qS zq ((lim ((aD L d t2).2).den).length) zr):RT) hs oM (fun _ hs=>?_);replace hs:=hs.to [⟨zE,28,ct ((aD L d t2).2) zo zp zq zr⟩,⟨zD,28,ct ((aD L d t1).2) zj zk zl zm⟩,⟨b4,28,[qF,sZ,sZ]⟩,⟨b1,31,[iV op,iV n,.bool bq,qS zA zn zc,qS dA dn dc,.string s,qS A 2 c]⟩] [⟨28,3,sB zs,(([((ac ((0:Int):Rat).num,qS A9 ((lim (aa ((0:Int):Rat).num)).length) za,qS zb ((lim ((0:Int):Rat).den).length) zd):RT),((ac ((0:Int):Rat).num,qS ze ((lim (aa ((0:Int):Rat).num)).length) zf,qS zg ((lim ((0:Int):Rat).den).length) zi):RT)]:List RT)).length,(([((ac ((0:Int):Rat).num,qS A9 ((lim (aa ((0:Int):Rat).num)).length) za,qS zb ((lim ((0:Int):Rat).den).length) zd):RT),((ac ((0:Int):Rat).num,qS ze ((lim (aa ((0:Int):Rat).num)).length) zf,qS zg ((lim ((0:Int):Rat).den).length) zi):RT)]:List RT)).length,((([((ac ((0:Int):Rat).num,qS A9 ((lim (aa ((0:Int):Rat).num)).length) za,qS zb ((lim ((0:Int):Rat).den).length) zd):RT),((ac ((0:Int):Rat).num,qS ze ((lim (aa ((0:Int):Rat).num)).length) zf,qS zg ((lim ((0:Int):Rat).den).length) zi):RT)]:List RT).set 0 ((ac ((aD L d t1).2).num,qS zj ((lim (aa ((aD L d t1).2).num)).length) zk,qS zl ((lim ((aD L d t1).2).den).length) zm):RT)).set 1 ((ac ((aD L d t2).2).num,qS zo ((lim (aa ((aD L d t2).2).num)).length) zp,qS zq ((lim ((aD L d t2).2).den).length) zr):RT)).flatMap i7⟩];have hlw3:((([((ac ((0:Int):Rat).num,qS A9 ((lim (aa ((0:Int):Rat).num)).length) za,qS zb ((lim ((0:Int):Rat).den).length) zd):RT),((ac ((0:Int):Rat).num,qS ze ((lim (aa ((0:Int):Rat).num)).length) zf,qS zg ((lim ((0:Int):Rat).den).length) zi):RT)]:List RT).set 0 ((ac ((aD L d t1).2).num,qS zj ((lim (aa ((aD L d t1).2).num)).length) zk,qS zl ((lim ((aD L d t1).2).den).length) zm):RT)).set 1 ((ac ((aD L d t2).2).num,qS zo ((lim (aa ((aD L d t2).2).num)).length) zp,qS zq ((lim ((aD L d t2).2).den).length) zr):RT)).length=2:=rfl;refine lN (kQ (lL hs [.m 51 8,.v 52 (iV 2),.m 8 52] (lD (CL.to [(1,qS RA rl.length cQ_),(2,pB b1),(4,pB b4),(5,iV 0),(7,qS (sB zs) ((([((ac ((0:Int):Rat).num,qS A9 ((lim (aa ((0:Int):Rat).num)).length) za,qS zb ((lim ((0:Int):Rat).den).length) zd):RT),((ac ((0:Int):Rat).num,qS ze ((lim (aa ((0:Int):Rat).num)).length) zf,qS zg ((lim ((0:Int):Rat).den).length) zi):RT)]:List RT)).length) ((([((ac ((0:Int):Rat).num,qS A9 ((lim (aa ((0:Int):Rat).num)).length) za,qS zb ((lim ((0:Int):Rat).den).length) zd):RT),((ac ((0:Int):Rat).num,qS ze ((lim (aa ((0:Int):Rat).num)).length) zf,qS zg ((lim ((0:Int):Rat).den).length) zi):RT)]:List RT)).length)),(8,iV 2),(46,iV 1),(47,qP b1 6),(48,qS A 2 c),(49,iV 2),(50,qT),(54,qP b1 6),(55,qS A 2 c),(56,iV 1),(57,.pointer (some ⟨(aB A),aO A+1*7,none⟩)),(58,.agg #[iV ((([r1,r2]:List RTm).getD 1 ax).op),iV ((([r1,r2]:List RTm).getD 1 ax).n),.bool ((([r1,r2]:List RTm).getD 1 ax).neg),qS ((([r1,r2]:List RTm).getD 1 ax).zA) ((([r1,r2]:List RTm).getD 1 ax).zn) ((([r1,r2]:List RTm).getD 1 ax).zc),qS ((([r1,r2]:List RTm).getD 1 ax).dA) ((([r1,r2]:List RTm).getD 1 ax).dn) ((([r1,r2]:List RTm).getD 1 ax).dc),.string ((([r1,r2]:List RTm).getD 1 ax).s),qS ((([r1,r2]:List RTm).getD 1 ax).A) ((([r1,r2]:List RTm).getD 1 ax).m) ((([r1,r2]:List RTm).getD 1 ax).c)]),(59,qS RA rl.length cQ_),(60,.tuple #[rG ((aD L d t2).2) zo zp zq zr,iV ((aD L d t2).1)]),(53,.tuple #[rG ((aD L d t2).2) zo zp zq zr,iV ((aD L d t2).1)]),(61,rG ((aD L d t2).2) zo zp zq zr),(62,iV ((aD L d t2).1)),(9,pB zE),(10,iV ((aD L d t2).1)),(63,iV ((aD L d t2).1)),(64,qF),(67,qS (sB zs) ((([((ac ((0:Int):Rat).num,qS A9 ((lim (aa ((0:Int):Rat).num)).length) za,qS zb ((lim ((0:Int):Rat).den).length) zd):RT),((ac ((0:Int):Rat).num,qS ze ((lim (aa ((0:Int):Rat).num)).length) zf,qS zg ((lim ((0:Int):Rat).den).length) zi):RT)]:List RT)).length) ((([((ac ((0:Int):Rat).num,qS A9 ((lim (aa ((0:Int):Rat).num)).length) za,qS zb ((lim ((0:Int):Rat).den).length) zd):RT),((ac ((0:Int):Rat).num,qS ze ((lim (aa ((0:Int):Rat).num)).length) zf,qS zg ((lim ((0:Int):Rat).den).length) zi):RT)]:List RT)).length)),(68,iV 1),(69,rG ((aD L d t2).2) zo zp zq zr),(70,qP zs (0+1*3)),(51,iV 1),(52,iV 2)] ?_))));replace hs:=hs.to [⟨zE,28,ct ((aD L d t2).2) zo zp zq zr⟩,⟨zD,28,ct ((aD L d t1).2) zj zk zl zm⟩,⟨b4,28,[qF,sZ,sZ]⟩,⟨b1,31,[iV op,iV n,.bool bq,qS zA zn zc,qS dA dn dc,.string s,qS A 2 c]⟩] [⟨28,3,sB zs,(([((ac ((0:Int):Rat).num,qS A9 ((lim (aa ((0:Int):Rat).num)).length) za,qS zb ((lim ((0:Int):Rat).den).length) zd):RT),((ac ((0:Int):Rat).num,qS ze ((lim (aa ((0:Int):Rat).num)).length) zf,qS zg ((lim ((0:Int):Rat).den).length) zi):RT)]:List RT)).length,(([((ac ((0:Int):Rat).num,qS A9 ((lim (aa ((0:Int):Rat).num)).length) za,qS zb ((lim ((0:Int):Rat).den).length) zd):RT),((ac ((0:Int):Rat).num,qS ze ((lim (aa ((0:Int):Rat).num)).length) zf,qS zg ((lim ((0:Int):Rat).den).length) zi):RT)]:List RT)).length,((([((ac ((0:Int):Rat).num,qS A9 ((lim (aa ((0:Int):Rat).num)).length) za,qS zb ((lim ((0:Int):Rat).den).length) zd):RT),((ac ((0:Int):Rat).num,qS ze ((lim (aa ((0:Int):Rat).num)).length) zf,qS zg ((lim ((0:Int):Rat).den).length) zi):RT)]:List RT).set 0 ((ac ((aD L d t1).2).num,qS zj ((lim (aa ((aD L d t1).2).num)).length) zk,qS zl ((lim ((aD L d t1).2).den).length) zm):RT)).set 1 ((ac ((aD L d t2).2).num,qS zo ((lim (aa ((aD L d t2).2).num)).length) zp,qS zq ((lim ((aD L d t2).2).den).length) zr):RT)).flatMap i7⟩];refine cN (cQ (ab hs [.m 46 8,.v 47 (qP b1 6),.o 48 (qS A 2 c) 3 6 1,.v 49 (iV 2),.v 50 qF] (ag (CG.exit ?_))))
   show CG _ _ _ _ _ _ _ _
   refine cQ ?_;have hsr:=hs;refine cR 15 [⟨14,11,.cells (List.toArray [qF,sZ,sZ]) 28 (0,0)⟩] mixed hs (bP (fb kR (fun _ _=>by kernel_rfl)) ar) (eV 0 72 (pB b1) (eO 1 73 [(3,0,1)] (iV op) hs (eV 2 74 (qP b1 1) (eO 3 75 [(3,1,1)] (iV n) hs (eV 4 76 (qS (sB zs) ((([((ac ((0:Int):Rat).num,qS A9 ((lim (aa ((0:Int):Rat).num)).length) za,qS zb ((lim ((0:Int):Rat).den).length) zd):RT),((ac ((0:Int):Rat).num,qS ze ((lim (aa ((0:Int):Rat).num)).length) zf,qS zg ((lim ((0:Int):Rat).den).length) zi):RT)]:List RT)).length) ((([((ac ((0:Int):Rat).num,qS A9 ((lim (aa ((0:Int):Rat).num)).length) za,qS zb ((lim ((0:Int):Rat).den).length) zd):RT),((ac ((0:Int):Rat).num,qS ze ((lim (aa ((0:Int):Rat).num)).length) zf,qS zg ((lim ((0:Int):Rat).den).length) zi):RT)]:List RT)).length)) (eX 5 77 (sB zs) ((([((ac ((0:Int):Rat).num,qS A9 ((lim (aa ((0:Int):Rat).num)).length) za,qS zb ((lim ((0:Int):Rat).den).length) zd):RT),((ac ((0:Int):Rat).num,qS ze ((lim (aa ((0:Int):Rat).num)).length) zf,qS zg ((lim ((0:Int):Rat).den).length) zi):RT)]:List RT)).length) ((([((ac ((0:Int):Rat).num,qS A9 ((lim (aa ((0:Int):Rat).num)).length) za,qS zb ((lim ((0:Int):Rat).den).length) zd):RT),((ac ((0:Int):Rat).num,qS ze ((lim (aa ((0:Int):Rat).num)).length) zf,qS zg ((lim ((0:Int):Rat).den).length) zi):RT)]:List RT)).length) 3 0 0 rfl ?_))))));refine Ci (ty:=28) (sz:=3) (c:=(([((ac ((0:Int):Rat).num,qS A9 ((lim (aa ((0:Int):Rat).num)).length) za,qS zb ((lim ((0:Int):Rat).den).length) zd):RT),((ac ((0:Int):Rat).num,qS ze ((lim (aa ((0:Int):Rat).num)).length) zf,qS zg ((lim ((0:Int):Rat).den).length) zi):RT)]:List RT)).length) (m:=(([((ac ((0:Int):Rat).num,qS A9 ((lim (aa ((0:Int):Rat).num)).length) za,qS zb ((lim ((0:Int):Rat).den).length) zd):RT),((ac ((0:Int):Rat).num,qS ze ((lim (aa ((0:Int):Rat).num)).length) zf,qS zg ((lim ((0:Int):Rat).den).length) zi):RT)]:List RT)).length) (b:=zs) (cs:=((([((ac ((0:Int):Rat).num,qS A9 ((lim (aa ((0:Int):Rat).num)).length) za,qS zb ((lim ((0:Int):Rat).den).length) zd):RT),((ac ((0:Int):Rat).num,qS ze ((lim (aa ((0:Int):Rat).num)).length) zf,qS zg ((lim ((0:Int):Rat).den).length) zi):RT)]:List RT).set 0 ((ac ((aD L d t1).2).num,qS zj ((lim (aa ((aD L d t1).2).num)).length) zk,qS zl ((lim ((aD L d t1).2).den).length) zm):RT)).set 1 ((ac ((aD L d t2).2).num,qS zo ((lim (aa ((aD L d t2).2).num)).length) zp,qS zq ((lim ((aD L d t2).2).den).length) zr):RT)).flatMap i7) 6 78 0 (rG ((aD L d t1).2) zj zk zl zm) (ct ((aD L d t1).2) zj zk zl zm) hs (eW (f:=i7) (sz:=3) (fun _=>rfl) pz ((([((ac ((0:Int):Rat).num,qS A9 ((lim (aa ((0:Int):Rat).num)).length) za,qS zb ((lim ((0:Int):Rat).den).length) zd):RT),((ac ((0:Int):Rat).num,qS ze ((lim (aa ((0:Int):Rat).num)).length) zf,qS zg ((lim ((0:Int):Rat).den).length) zi):RT)]:List RT).set 0 ((ac ((aD L d t1).2).num,qS zj ((lim (aa ((aD L d t1).2).num)).length) zk,qS zl ((lim ((aD L d t1).2).den).length) zm):RT)).set 1 ((ac ((aD L d t2).2).num,qS zo ((lim (aa ((aD L d t2).2).num)).length) zp,qS zq ((lim ((aD L d t2).2).den).length) zr):RT)) 0 oM) (eV 7 79 (qS (sB zs) ((([((ac ((0:Int):Rat).num,qS A9 ((lim (aa ((0:Int):Rat).num)).length) za,qS zb ((lim ((0:Int):Rat).den).length) zd):RT),((ac ((0:Int):Rat).num,qS ze ((lim (aa ((0:Int):Rat).num)).length) zf,qS zg ((lim ((0:Int):Rat).den).length) zi):RT)]:List RT)).length) ((([((ac ((0:Int):Rat).num,qS A9 ((lim (aa ((0:Int):Rat).num)).length) za,qS zb ((lim ((0:Int):Rat).den).length) zd):RT),((ac ((0:Int):Rat).num,qS ze ((lim (aa ((0:Int):Rat).num)).length) zf,qS zg ((lim ((0:Int):Rat).den).length) zi):RT)]:List RT)).length)) ?_);refine eX 8 80 (sB zs) ((([((ac ((0:Int):Rat).num,qS A9 ((lim (aa ((0:Int):Rat).num)).length) za,qS zb ((lim ((0:Int):Rat).den).length) zd):RT),((ac ((0:Int):Rat).num,qS ze ((lim (aa ((0:Int):Rat).num)).length) zf,qS zg ((lim ((0:Int):Rat).den).length) zi):RT)]:List RT)).length) ((([((ac ((0:Int):Rat).num,qS A9 ((lim (aa ((0:Int):Rat).num)).length) za,qS zb ((lim ((0:Int):Rat).den).length) zd):RT),((ac ((0:Int):Rat).num,qS ze ((lim (aa ((0:Int):Rat).num)).length) zf,qS zg ((lim ((0:Int):Rat).den).length) zi):RT)]:List RT)).length) 3 1 1 rfl (Ci (ty:=28) (sz:=3) (c:=(([((ac ((0:Int):Rat).num,qS A9 ((lim (aa ((0:Int):Rat).num)).length) za,qS zb ((lim ((0:Int):Rat).den).length) zd):RT),((ac ((0:Int):Rat).num,qS ze ((lim (aa ((0:Int):Rat).num)).length) zf,qS zg ((lim ((0:Int):Rat).den).length) zi):RT)]:List RT)).length) (m:=(([((ac ((0:Int):Rat).num,qS A9 ((lim (aa ((0:Int):Rat).num)).length) za,qS zb ((lim ((0:Int):Rat).den).length) zd):RT),((ac ((0:Int):Rat).num,qS ze ((lim (aa ((0:Int):Rat).num)).length) zf,qS zg ((lim ((0:Int):Rat).den).length) zi):RT)]:List RT)).length) (b:=zs) (cs:=((([((ac ((0:Int):Rat).num,qS A9 ((lim (aa ((0:Int):Rat).num)).length) za,qS zb ((lim ((0:Int):Rat).den).length) zd):RT),((ac ((0:Int):Rat).num,qS ze ((lim (aa ((0:Int):Rat).num)).length) zf,qS zg ((lim ((0:Int):Rat).den).length) zi):RT)]:List RT).set 0 ((ac ((aD L d t1).2).num,qS zj ((lim (aa ((aD L d t1).2).num)).length) zk,qS zl ((lim ((aD L d t1).2).den).length) zm):RT)).set 1 ((ac ((aD L d t2).2).num,qS zo ((lim (aa ((aD L d t2).2).num)).length) zp,qS zq ((lim ((aD L d t2).2).den).length) zr):RT)).flatMap i7) 9 81 0 (rG ((aD L d t2).2) zo zp zq zr) (ct ((aD L d t2).2) zo zp zq zr) hs (eW (f:=i7) (sz:=3) (fun _=>rfl) pz ((([((ac ((0:Int):Rat).num,qS A9 ((lim (aa ((0:Int):Rat).num)).length) za,qS zb ((lim ((0:Int):Rat).den).length) zd):RT),((ac ((0:Int):Rat).num,qS ze ((lim (aa ((0:Int):Rat).num)).length) zf,qS zg ((lim ((0:Int):Rat).den).length) zi):RT)]:List RT).set 0 ((ac ((aD L d t1).2).num,qS zj ((lim (aa ((aD L d t1).2).num)).length) zk,qS zl ((lim ((aD L d t1).2).den).length) zm):RT)).set 1 ((ac ((aD L d t2).2).num,qS zo ((lim (aa ((aD L d t2).2).num)).length) zp,qS zq ((lim ((aD L d t2).2).den).length) zr):RT)) 1 oM) (eC 10 82 hs (fun _ _ hs=>Gn op n ((aD L d t1).2) zj zk zl zm yk yl ((aD L d t2).2) zo zp zq zr yo yp (cc*1000) oM hv1 hv2 oM oM _ _ hs.g hs.f.r.2.1 hs.f.r.1 hs.f.2.1 hs.f.1) ?_));rintro _ _ _ _ _ hs ⟨_,rfl,zt,zu,zv,zw,rfl,ys,yt,yu,yv⟩;replace hs:=hs.aP yu yv;refine eV 11 71 (.tuple #[rG (f9 op n 0 ((aD L d t1).2) ((aD L d t2).2)) zt zu zv zw,.bool (decide (iH op n ((aD L d t1).2) ((aD L d t2).2)))]) (eV 12 83 (rG (f9 op n 0 ((aD L d t1).2) ((aD L d t2).2)) zt zu zv zw) (eV 13 84 (.bool (decide (iH op n ((aD L d t1).2) ((aD L d t2).2)))) (iu [] hsr hs 28 [qF,sZ,sZ] (fun _ _ yF hs=>tP 15 0 0 (ct (f9 op n 0 ((aD L d t1).2) ((aD L d t2).2)) zt zu zv zw) hs (fun _ hs=>tV 16 12 (.bool (decide (iH op n ((aD L d t1).2) ((aD L d t2).2)))) (tN (bI [(4,pB b4),(5,iV 0),(11,pB yF),(12,.bool (decide (iH op n ((aD L d t1).2) ((aD L d t2).2))))] ?_)))))));refine cQ (ab hs [.m 85 12] ?_);cases zG:(!(decide (iH op n ((aD L d t1).2) ((aD L d t2).2))))
   ·
    exact lB 86 zG (ag (cK (ab hs [.o 88 (rG (f9 op n 0 ((aD L d t1).2) ((aD L d t2).2)) zt zu zv zw) 0 0 3] (lP 3 0 (ct (f9 op n 0 ((aD L d t1).2) ((aD L d t2).2)) zt zu zv zw) hs (fun _ hs=>lL hs [.v 5 (iV 0)] (ae hs [(3,0,3)] (.tuple #[rG (f9 op n 0 ((aD L d t1).2) ((aD L d t2).2)) zt zu zv zw,iV 0]) (by rw[hJ oM,hq0,j0 oM oM (DQ aM)];exact ⟨_,rfl,⟨_,_,_,_,rfl,ys,yt,hs.f.2.1,hs.f.1⟩⟩)))))))
   refine lB 86 zG (ak (av (lC 87 hs (kr 0 oM oM _ _ hs.g) ?_)));rintro _ _ _ hs ⟨zU,zW,zX,ya,rfl,yw,yx,yA,yB⟩;replace hs:=hs.aP yA yB;exact lP 3 0 (ct ((0:Int):Rat) zU zW zX ya) hs (fun _ hs=>lL hs [.v 5 (iV 6)] (ae hs [(3,0,3)] (.tuple #[rG ((0:Int):Rat) zU zW zX ya,iV 6]) (by rw[hJ oM,nw oM oM (EO aM)];exact ⟨_,rfl,⟨_,_,_,_,rfl,yw,yx,hs.f.2.1,hs.f.1⟩⟩)))
  have zM:=ay zB;refine lB 64 zB (ak (av (lC 65 hs (kr 0 oM oM _ _ hs.g) ?_)));rintro _ _ _ hs ⟨yb,yc,yd,ye,rfl,yC,yD,yE,zN⟩;replace hs:=hs.aP yE zN;exact lL hs [.m 66 10] (lP 2 0 (ct ((0:Int):Rat) yb yc yd ye) hs (fun _ hs=>lL hs [.m 5 66] (ae hs [(2,0,3)] (.tuple #[rG ((0:Int):Rat) yb yc yd ye,iV ((aD L d t2).1)]) (by rw[hJ oM,Bl oM oM];exact ⟨_,rfl,⟨_,_,_,_,rfl,yC,yD,hs.f.2.1,hs.f.1⟩⟩))))
 have zL:=ay zx;refine lB 64 zx (ak (av (lC 65 hs (kr 0 oM oM _ _ hs.g) ?_)));rintro _ _ _ hs ⟨zH,zI,zJ,zK,rfl,zP,zQ,zR,zS⟩;replace hs:=hs.aP zR zS;exact lL hs [.m 66 10] (lP 1 0 (ct ((0:Int):Rat) zH zI zJ zK) hs (fun _ hs=>lL hs [.m 5 66] (ae hs [(1,0,3)] (.tuple #[rG ((0:Int):Rat) zH zI zJ zK,iV ((aD L d t1).1)]) (by rw[hJ oM,pe oM];exact ⟨_,rfl,⟨_,_,_,_,rfl,zP,zQ,hs.f.2.1,hs.f.1⟩⟩))))
end Go.Proofs.YtinhhhfjchckcaaGreatDoor
