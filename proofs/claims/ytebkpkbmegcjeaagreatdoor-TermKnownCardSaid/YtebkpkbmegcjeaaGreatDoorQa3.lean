/- Laws and contracts that the card of this claim stands on, part 4. No condition of ours. -/
import Derived.Test.YtebkpkbmegcjeaaGreatDoorQa0
import Derived.Test.YtebkpkbmegcjeaaGreatDoorQa1
import Derived.Test.YtebkpkbmegcjeaaGreatDoorQa2
set_option maxRecDepth 100000
set_option maxHeartbeats 4000000
namespace Go.Proofs.YtebkpkbmegcjeaaGreatDoor
open Go.RowKit
open Go.RowKit Go.Shelf
def iD (a b:Rat):Bool:=decide (a=b)
theorem ux {a b:Rat}(h1:bK (ab a.num) (ab b.num)=0)(h2:aD a.num=aD b.num)(h3:bK a.den b.den=0):true=iD a b:=by
 have e1:ab a.num=ab b.num:=by unfold bK at h1;split at h1;omega;split at h1;omega;omega
 have e3:a.den=b.den:=by unfold bK at h3;split at h3;omega;split at h3;omega;omega
 have e2:a.num=b.num:=by rw[←mb a.num,←mb b.num,e1,h2]
 symm
 exact decide_eq_true (Rat.ext e2 e3)
theorem j9 (a:Nat):bK a a=0:=by simp[bK]
theorem kJ {a b:Rat}(h:bK (ab a.num) (ab b.num)≠0∨aD a.num≠aD b.num∨bK a.den b.den≠0):false=iD a b:=by
 symm
 refine decide_eq_false ?_;rintro rfl
 rcases h with h|h|h
 ·exact h (j9 _)
 ·exact h rfl
 ·exact h (j9 _)
theorem CZ (q r:Rat)(hq:LQ 100000000 q)(hr:LQ 100000000 r)(A1:Option Addr)(c1:Nat)(D1:Option Addr)(d1:Nat)(hc1:(lim (ab r.num)).length≤c1)(hd1:(lim r.den).length≤d1)(w:World)(h:Hp)(g:G w h)(hA1:S3 A1 (lim (ab r.num)) h)(hD1:S3 D1 (lim r.den) h):CV 23 #[qv q,rG r A1 c1 D1 d1] w h (.bool (iD q r)):=by
 have hs:=(((sS g).aS hA1).aS hD1);have hpd:0<(lim r.den).length:=eU.2 r.den_pos;have hq1:=LQ.ln hq;have hq2:=LQ.ld hq;have hr1:=LQ.ln hr;have hr2:=LQ.ld hr;refine go Tryz.func23 [(0,qv q),(1,rG r A1 c1 D1 d1)] rfl (aE (lA 2 28 (qc q) hs (fun b1 w2 h3 hs=>lA 3 73 (DD r A1 c1 D1 d1) hs (fun b4 w5 h6 hs=>lL hs [.v 4 qF] (aG (lL hs [.o 6 (qv q) 1 0 5] (lC 7 hs (Em q hq _ _ hs.g) ?_)))))));rintro _ _ _ hs ⟨A7,c8,zd,ze,rfl,hc9,zk,zl,zm⟩;replace hs:=hs.aP zl zm;refine lA 5 73 ([qF,sZ,sZ]) hs (fun zc _ _ hs=>lP 0 0 (DD q A7 c8 zd ze) hs (fun _ hs=>af (aa hs [.v 8 (qP b4 2),.o 9 (qS D1 ((lim r.den).length) d1) 1 2 1,.v 10 (nV ((lim r.den).length))] ?_)));have zf:((((lim r.den).length:Nat):Int) == (0:Int))=false:=(by simp;exact fun h=>Nat.lt_irrefl 0 (by rw[h] at hpd;exact hpd));have phb21:=ai zf;refine lB 11 zf (ah (cK (aa hs [.v 13 (pB zc),.v 14 (qP zc 1),.o 15 (qS A7 ((lim (ab q.num)).length) c8) 0 1 1,.v 16 (pB b4),.v 17 (qP b4 1),.o 18 (qS A1 ((lim (ab r.num)).length) c1) 1 1 1] (ag 19 hs (iU (ab q.num) A7 c8 hc9 (ab r.num) A1 c1 hc1 oM oM _ _ hs.g hs.f.2.1 hs.f.r.2.1) (fun _ _ hs=>?_)))));cases za:((bK (ab q.num) (ab r.num):Int) == (0:Int))
 ·
  have zi:=ai za;refine lB 20 za (lL hs [.m 21 20] (lG 22 ?_));refine lG 23 (lG 24 (lG 25 (lG 26 (lG 27 (lG 28 (lL hs [.v 29 qF,.m 30 29] (lG 31 ?_)))))));exact lG 32 (lG 33 (lG 34 (lG 35 (lG 36 (lL hs [.v 37 qF,.m 4 37] (ac hs [] qF (congrArg Value.bool (kJ (by first|(left;assumption)|(right;right;assumption)|(right;left;exact beq_eq_false_iff_ne.1 ‹_›))))))))))
 have zi:=eq_of_beq za;refine lB 20 za (lL hs [.m 21 20,.v 22 (pB zc),.v 23 (pB zc),.o 24 (.bool (aD q.num)) 0 0 1,.v 25 (pB b4),.v 26 (pB b4),.o 27 (.bool (aD r.num)) 1 0 1] ?_);cases zg:((aD q.num) == (aD r.num))
 ·
  refine lB 28 zg (lL hs [.v 29 qF,.m 30 29] (lG 31 ?_));exact lG 32 (lG 33 (lG 34 (lG 35 (lG 36 (lL hs [.v 37 qF,.m 4 37] (ac hs [] qF (congrArg Value.bool (kJ (by first|(left;assumption)|(right;right;assumption)|(right;left;exact beq_eq_false_iff_ne.1 ‹_›))))))))))
 refine lB 28 zg (lL hs [.v 29 qT,.m 30 29,.v 31 (qP zc 2),.o 32 (qS zd ((lim q.den).length) ze) 0 2 1,.v 33 (qP b4 2),.o 34 (qS D1 ((lim r.den).length) d1) 1 2 1] (ag 35 hs (iU q.den zd ze zk r.den D1 d1 hd1 oM oM _ _ hs.g hs.f.1 hs.f.r.1) (fun _ _ hs=>?_)));cases zb:((bK q.den r.den:Int) == (0:Int))
 ·
  have zj:=ai zb;exact lB 36 zb (lL hs [.v 37 qF,.m 4 37] (ac hs [] qF (congrArg Value.bool (kJ (by first|(left;assumption)|(right;right;assumption)|(right;left;exact beq_eq_false_iff_ne.1 ‹_›))))))
 have zj:=eq_of_beq zb;exact lB 36 zb (lL hs [.v 37 qT,.m 4 37] (ac hs [] qT (congrArg Value.bool (ux aM (eq_of_beq ‹_›) aM))))
theorem LQ.mkR {n d:Int}(hd:d≠0)(h0 : -9223372036854775808≤n)(h1:n≤9223372036854775807)(h2 : -9223372036854775808≤d)(h3:d≤9223372036854775807):LQ 1 (mkR n d):=by
 unfold Go.Proofs.YtebkpkbmegcjeaaGreatDoor.mkR
 have hp:0<ab d:=by unfold ab;omega
 obtain ⟨p1,p2,p3,p4⟩:=fd (if d<0 then -n else n) (ab d) hp;refine ⟨?_,?_⟩
 ·rw[p1];refine eg.2 (Nat.lt_of_le_of_lt (bL _ _ p3) ?_)
  unfold ab;split<;>omega
 ·rw[p2];exact eg.2 (Nat.lt_of_le_of_lt (Nat.div_le_self _ _) (by unfold ab;omega))
theorem pF (q:Rat)(z e:Int)(hq:LQ 100000000 q)(he:e≠0)(hz0 : -9223372036854775808≤z)(hz1:z<9223372036854775808)(he0 : -4294967296<e)(he1:e<4294967296)(w:World)(h:Hp)(g:G w h):CV 10 #[qv q,iV z,iV e] w h (.bool (iD q (mkR z e))):=by
 have hs:=sS g;have hb:LQ 100000000 (mkR z e):=(LQ.mkR he hz0 oM oM oM).mono oM;refine go Tryz.func10 [(0,qv q),(1,iV z),(2,iV e)] rfl (aE (lA 3 28 (qc q) hs (fun b1 w2 h3 hs=>lL hs [.v 6 qF] (af (cR 5 [] mixed hs av ?_)))));refine eO 0 7 [(0,0,5)] (qv q) hs (eV 1 8 (iV z) (eV 2 9 (iV e) (eC 3 10 hs (fun _ _ hs=>Ac z e oM oM oM oM oM _ _ hs.g) ?_)));rintro _ _ _ _ _ hs ⟨A4,c5,A8,c9,rfl,hc6,za,hA7,zb⟩;replace hs:=hs.aP hA7 zb;exact aq 4 11 hs (fun _ _ hs=>CZ q (mkR z e) hq hb A4 c5 A8 c9 hc6 za _ _ hs.g hs.f.2.1 hs.f.1) (fun _ _ hs=>cC hs (fun _ _ hs=>tV 5 6 (.bool (iD q (mkR z e))) (tN (kX (hs.ret [] (.bool (iD q (mkR z e))) rfl)))))
def Cg (n:Int)(m:Nat):Nat:=(n%(m:Int)).toNat
def xP (n:Int):Rat:=mkR ((Cg n 9:Int)-4) (((Cg (n.tdiv 9) 2:Nat):Int)+1)
abbrev RT:=Bool × Value × Value
def D2 (t:RT):List Value:=[.bool t.1,t.2.1,t.2.2]
def Ce:RT:=(false,undef,undef)
abbrev rA (t:RT):Value:=.agg #[.bool t.1,t.2.1,t.2.2]
abbrev Sr (A:Option Addr)(l:List RT):Hp→Prop:=fun h_=>SlO 3 D2 Ce h_ A l
def DP (t:RT):Value:=.agg #[.bool t.1,t.2.1,t.2.2]
structure RTs (h:Hp) (ts:List RT) (qs:List Rat):Prop where
  len:ts.length=qs.length
  at_:∀ i,i<qs.length→RQ h (DP (ts.getD i Ce)) (qs.getD i 0)
abbrev Rt (t:List RT)(l:List Rat):Hp→Prop:=fun h_=>RTs h_ t l
def vc (v:Value):List Value:=[v]
abbrev Sv (A:Option Addr)(l:List Value):Hp→Prop:=fun h_=>SlO 1 vc undef h_ A l
structure RVs (h:Hp) (vs:List Value) (qss:List (List Rat)):Prop where
  len:vs.length=qss.length
  at_:∀ i,i<qss.length→∃ A cap,∃ ts:List RT,vs.getD i undef=.slice A ts.length cap∧ts.length≤cap∧SlO 3 D2 Ce h A ts∧RTs h ts (qss.getD i [])
abbrev Ru (t:List Value)(l:List (List Rat)):Hp→Prop:=fun h_=>RVs h_ t l
structure QVs (h:Hp) (vs:List Value) (qss:List (List Rat)):Prop where
  len:vs.length=qss.length
  at_:∀ i,i<qss.length→EC 5 qc 0 h (vs.getD i undef) (qss.getD i [])
abbrev Qu (t:List Value)(l:List (List Rat)):Hp→Prop:=fun h_=>QVs h_ t l
def maxR (a b:Rat):Rat:=if a<b then b else a
theorem LQ.maxR {k:Nat}{a b:Rat}(ha:LQ k a)(hb:LQ k b):LQ k (maxR a b):=by unfold Go.Proofs.YtebkpkbmegcjeaaGreatDoor.maxR;split;exact hb;exact ha
theorem B1 (a:Rat)(ha:LQ 100000000 a)(w:World)(h:Hp)(g:G w h):CV 62 #[qv a] w h (qv (dR a)):=by
 have hs:=sS g;refine go Tryz.func62 [(0,qv a)] rfl (aE (lA 1 28 (qc a) hs (fun b1 w2 h3 hs=>lA 2 28 ([qF,uV 0,eS,uV 0,eS]) hs (fun b4 w5 h6 hs=>af (cR 7 [] mixed hs av ?_)))));exact eV 0 3 (pB b1) (eO 1 4 [(1,0,3)] (iv a.num) hs (eV 4 7 (qP b1 3) (eO 5 8 [(1,3,2)] (nv (qd a)) hs (aq 2 5 hs (fun _ _ hs=>rr a.num _ _ hs.g) (fun w7 h8 hs=>aq 3 6 hs (fun _ _ hs=>cM (ab a.num) _ _ hs.g) (fun w9 _ hs=>eV 6 9 (.agg #[.bool (aD (((ab a.num):Nat):Int)),uV (lo (ab (((ab a.num):Nat):Int))),.string (hi (ab (((ab a.num):Nat):Int))),uV (lo (qd a)),.string (hi (qd a))]) (cC hs (fun _ _ hs=>tP 7 0 0 ([.bool (aD (((ab a.num):Nat):Int)),uV (lo (ab (((ab a.num):Nat):Int))),.string (hi (ab (((ab a.num):Nat):Int))),uV (lo (qd a)),.string (hi (qd a))]) hs (fun _ hs=>tN (kX (hs.ret [(0,0,5)] (.agg #[.bool (aD (((ab a.num):Nat):Int)),uV (lo (ab (((ab a.num):Nat):Int))),.string (hi (ab (((ab a.num):Nat):Int))),uV (lo (qd a)),.string (hi (qd a))]) (fi (jc a) (by unfold qd;rw[mq])))))))))))))
structure Lay where
  k:Int
  W:List (List Rat)
  B:List Rat
def fW:Lay:=⟨0,[],[]⟩
abbrev LV:=Int × Value × Value
def BU:LV:=(0,undef,undef)
structure NetL (h:Hp) (ts:List LV) (ls:List Lay):Prop where
  len:ts.length=ls.length
  at_:∀ i,i<ls.length→(ts.getD i BU).1=(ls.getD i fW).k∧(∃ A c,∃ us:List Value,(ts.getD i BU).2.1=.slice A us.length c∧us.length≤c∧SlO 1 vc undef h A us∧QVs h us (ls.getD i fW).W)∧EC 5 qc 0 h (ts.getD i BU).2.2 (ls.getD i fW).B
abbrev Nn (t:List LV)(l:List Lay):Hp→Prop:=fun h_=>NetL h_ t l
structure RNetL (h:Hp) (ts:List LV) (ls:List Lay):Prop where
  len:ts.length=ls.length
  at_:∀ i,i<ls.length→(ts.getD i BU).1=(ls.getD i fW).k∧(∃ A c,∃ us:List Value,(ts.getD i BU).2.1=.slice A us.length c∧us.length≤c∧SlO 1 vc undef h A us∧RVs h us (ls.getD i fW).W) ∧
    (∃ A c,∃ rs:List RT,(ts.getD i BU).2.2=.slice A rs.length c∧rs.length≤c∧SlO 3 D2 Ce h A rs∧RTs h rs (ls.getD i fW).B)
abbrev Rn (t:List LV)(l:List Lay):Hp→Prop:=fun h_=>RNetL h_ t l
def qh (l:List Rat):Prop:=∀ q∈l,∃ z,q=xP z
structure LayMk (L:Lay) (kq:Nat) (r c:Nat):Prop where
  k:L.k=(kq:Int)
  rows:L.W.length=r
  row:∀ q∈L.W,q.length=c∧qh q
  bl:L.B.length=r
  bs:qh L.B
structure LayFit (L:Lay):Prop where
  rl:L.W.length≤1000000
  rls:∀ i,i<L.W.length→(L.W.getD i []).length≤1000000
  rf:∀ i,i<L.W.length→∀ j,j<(L.W.getD i []).length→LQ 100000000 ((L.W.getD i []).getD j 0)
  bl:L.B.length≤1000000
  bf:∀ i,i<L.B.length→LQ 100000000 (L.B.getD i 0)
structure Stp where
  op:Int
  a:Int
  b:Int
  n:Int
  q:Rat
abbrev sX (p:Stp):Value:=.agg #[iV p.op,iV p.a,iV p.b,iV p.n,.bool (aD p.q.num),uV (lo (ab p.q.num)),.string (hi (ab p.q.num)),uV (lo (qd p.q)),.string (hi (qd p.q))]
abbrev sC (p:Stp):List Value:=[iV p.op,iV p.a,iV p.b,iV p.n,.bool (aD p.q.num),uV (lo (ab p.q.num)),.string (hi (ab p.q.num)),uV (lo (qd p.q)),.string (hi (qd p.q))]
abbrev sW (o a b n:Int)(q:Rat):Value:=.agg #[iV o,iV a,iV b,iV n,.bool (aD q.num),uV (lo (ab q.num)),.string (hi (ab q.num)),uV (lo (qd q)),.string (hi (qd q))]
abbrev sG (o a b n:Int)(q:Rat):List Value:=[iV o,iV a,iV b,iV n,.bool (aD q.num),uV (lo (ab q.num)),.string (hi (ab q.num)),uV (lo (qd q)),.string (hi (qd q))]
def dl:Stp:=⟨0,0,0,0,0⟩
abbrev gP (l:List Stp)(k:Nat):Stp:=l.getD k dl
def eF (op:Int):Int :=
  if op=1∨op=2 then 0 else if op=7∨op=8∨op=9∨op=10∨op=11 then 1
  else if op=3∨op=4∨op=5∨op=6∨op=12∨op=13 then 2 else -1
theorem aT (op:Int):(eF op=0∧(op=1∨op=2))∨(eF op=1∧(op=7∨op=8∨op=9∨op=10∨op=11))∨(eF op=2∧(op=3∨op=4∨op=5∨op=6∨op=12∨op=13))∨(eF op = -1∧(op<1∨13<op)):=by
 unfold eF;split
 ·exact .inl ⟨rfl,by assumption⟩
 ·split
  ·exact .inr (.inl ⟨rfl,by assumption⟩)
  ·split
   ·exact .inr (.inr (.inl ⟨rfl,by assumption⟩))
   ·exact .inr (.inr (.inr ⟨rfl,by omega⟩))
def kv (i:Nat)(tt:Int)(used:Prop):Prop:=(used→0≤tt∧tt<i)∧(¬used→tt=0)
def gg (inp:Int)(i:Nat)(s:Stp):Prop :=
  0≤eF s.op∧kv i s.a (0<eF s.op)∧kv i s.b (1<eF s.op)∧(s.op≠1→s.q.num=0) ∧
  (s.op=2→0≤s.n∧s.n<inp)∧(s.op=8 → -12≤s.n∧s.n≤12)∧(s.op≠2→s.op≠8→s.n=0)
instance (i:Nat) (tt:Int) (u:Prop) [Decidable u]:Decidable (kv i tt u):=by unfold kv;infer_instance
instance (inp:Int) (i:Nat) (s:Stp):Decidable (gg inp i s):=by unfold gg;infer_instance
def qq (n:Nat)(os:List Int):Prop:=∀ i,i<os.length→0≤os.getD i 0∧os.getD i 0<n
instance (n:Nat) (os:List Int):Decidable (qq n os):=by unfold qq;infer_instance
structure RSt where
  op:Int
  a:Int
  b:Int
  n:Int
  t:RT
def DG:RSt:=⟨0,0,0,0,Ce⟩
structure OSt where
  op:Int
  a:Int
  b:Int
  n:Int
  q:Rat
  has:Bool
def Bj:OSt:=⟨0,0,0,0,0,false⟩
def Fq (o:OSt):Nat:=if o.has then o.q.den else 0
def OSt.stp (o:OSt):Stp:=⟨o.op,o.a,o.b,o.n,o.q⟩
abbrev gO (s:List OSt)(k:Nat):OSt:=s.getD k Bj
abbrev mO (s:List OSt):List Stp:=s.map OSt.stp
structure RS1 (h:Hp) (t:RSt) (o:OSt):Prop where
  op:t.op=o.op
  a:t.a=o.a
  b:t.b=o.b
  n:t.n=o.n
  q:RP h (DP t.t) o.q.num (Fq o)
  z:o.has=false→o.q=0
structure RSs (h:Hp) (ts:List RSt) (os:List OSt):Prop where
  len:ts.length=os.length
  at_:∀ i,i<os.length→RS1 h (ts.getD i DG) (os.getD i Bj)
structure OSm (o:OSt):Prop where
  op : -1000≤o.op∧o.op≤1000
  a : -1000≤o.a∧o.a≤1000
  b : -1000≤o.b∧o.b≤1000
  n : -1000≤o.n∧o.n≤1000
  q:LQ 1 o.q
def DN (os:List OSt):Prop:=∀ i,i<os.length→OSm (os.getD i Bj)
section
variable {inp:Int} {i:Nat} {s:Stp} (h:gg inp i s)
include h
end
inductive Tm where
  | mk (op n:Int) (q:Rat) (s:ByteArray) (ks:List Tm)
def Tm.op:Tm→Int|.mk op _ _ _ _=>op
def Tm.n:Tm→Int|.mk _ n _ _ _=>n
def Tm.q:Tm→Rat|.mk _ _ q _ _=>q
def Tm.s:Tm→ByteArray|.mk _ _ _ s _=>s
def Tm.ks:Tm→List Tm|.mk _ _ _ _ ks=>ks
def ca:Tm:=.mk 0 0 0 ⟨#[]⟩ []
structure PTm where
  op:Int
  n:Int
  q:Rat
  s:ByteArray
  A:Option Addr
  m:Nat
  c:Nat
abbrev pX (p:PTm):Value:=.agg #[iV p.op,iV p.n,.bool (aD p.q.num),uV (lo (ab p.q.num)),.string (hi (ab p.q.num)),uV (lo (qd p.q)),.string (hi (qd p.q)),.string p.s,.slice p.A p.m p.c]
abbrev pC (p:PTm):List Value:=[iV p.op,iV p.n,.bool (aD p.q.num),uV (lo (ab p.q.num)),.string (hi (ab p.q.num)),uV (lo (qd p.q)),.string (hi (qd p.q)),.string p.s,.slice p.A p.m p.c]
abbrev pW (o n:Int)(q:Rat)(s:ByteArray)(A:Option Addr)(m c:Nat):Value:=.agg #[iV o,iV n,.bool (aD q.num),uV (lo (ab q.num)),.string (hi (ab q.num)),uV (lo (qd q)),.string (hi (qd q)),.string s,.slice A m c]
abbrev pG (o n:Int)(q:Rat)(s:ByteArray)(A:Option Addr)(m c:Nat):List Value:=[iV o,iV n,.bool (aD q.num),uV (lo (ab q.num)),.string (hi (ab q.num)),uV (lo (qd q)),.string (hi (qd q)),.string s,.slice A m c]
def ar:PTm:=⟨0,0,0,⟨#[]⟩,none,0,0⟩
def aK (p:PTm):List Value:=[.int .i64 p.op,.int .i64 p.n,.bool (aD p.q.num),.int .u64 (lo (ab p.q.num)),.string (hi (ab p.q.num)),.int .u64 (lo (qd p.q)),.string (hi (qd p.q)),.string p.s,.slice p.A p.m p.c]
def aF (p:PTm):Value:=.agg #[.int .i64 p.op,.int .i64 p.n,.bool (aD p.q.num),.int .u64 (lo (ab p.q.num)),.string (hi (ab p.q.num)),.int .u64 (lo (qd p.q)),.string (hi (qd p.q)),.string p.s,.slice p.A p.m p.c]
def TmH:Nat→Hp→PTm→Tm→Prop
  | 0,_,_,_=>False
  | d+1,h,p,t=>p.op=t.op∧p.n=t.n∧p.q=t.q∧p.s=t.s∧p.m=t.ks.length∧p.m≤p.c∧∃ ps:List PTm,ps.length=t.ks.length∧SlO 9 aK ar h p.A ps∧∀ i,i<t.ks.length→TmH d h (ps.getD i ar) (t.ks.getD i ca)
theorem TmH.gw:∀ {d:Nat} {h h':Hp} {p:PTm} {t:Tm},TmH d h p t→Gw h h'→TmH d h' p t
 | 0,_,_,_,_,x,_=>x
 | d+1,_,_,_,_,⟨h1,h2,h3,h4,h5,h6,ps,h7,h8,h9⟩,u=>⟨h1,h2,h3,h4,h5,h6,ps,h7,h8.gw u,fun i hi=>TmH.gw (h9 i hi) u⟩
theorem TmH.mono {h:Hp}:∀ {d e:Nat} {p:PTm} {t:Tm},TmH d h p t→d≤e→TmH e h p t
 | d+1,e+1,_,_,⟨h1,h2,h3,h4,h5,h6,ps,h7,h8,h9⟩,u=>⟨h1,h2,h3,h4,h5,h6,ps,h7,h8,fun i hi=>TmH.mono (h9 i hi) oM⟩
structure RTm where
  op:Int
  n:Int
  neg:Bool
  zA:Option Addr
  zn:Nat
  zc:Nat
  dA:Option Addr
  dn:Nat
  dc:Nat
  s:ByteArray
  A:Option Addr
  m:Nat
  c:Nat
def RTm.t (r:RTm):RT:=(r.neg,.slice r.zA r.zn r.zc,.slice r.dA r.dn r.dc)
def AM:RTm:=⟨0,0,false,none,0,0,none,0,0,⟨#[]⟩,none,0,0⟩
def Fb (r:RTm):List Value:=[.int .i64 r.op,.int .i64 r.n,.bool r.neg,.slice r.zA r.zn r.zc,.slice r.dA r.dn r.dc,.string r.s,.slice r.A r.m r.c]
def RZ (h:Hp)(t:RT)(q:Rat):Prop:=∃ has:Bool,RP h (DP t) q.num (if has then q.den else 0)∧(has=false→q=0)
def EP:Nat→Hp→RTm→Tm→Prop
  | 0,_,_,_=>False
  | d+1,h,r,t=>r.op=t.op∧r.n=t.n∧RZ h r.t t.q∧r.s=t.s∧r.m=t.ks.length∧r.m≤r.c∧∃ rs:List RTm,rs.length=t.ks.length∧SlO 7 Fb AM h r.A rs∧∀ i,i<t.ks.length→EP d h (rs.getD i AM) (t.ks.getD i ca)
structure Tms (d:Nat) (h:Hp) (ps:List PTm) (ts:List Tm):Prop where
  len:ps.length=ts.length
  at_:∀ i,i<ts.length→TmH d h (ps.getD i ar) (ts.getD i ca)
theorem Tms.gw {d:Nat}{h h':Hp}{ps:List PTm}{ts:List Tm}(x:Tms d h ps ts)(u:Gw h h'):Tms d h' ps ts:=⟨x.len,fun i hi=>(x.at_ i hi).gw u⟩
structure Rms (d:Nat) (h:Hp) (rs:List RTm) (ts:List Tm):Prop where
  len:rs.length=ts.length
  at_:∀ i,i<ts.length→EP d h (rs.getD i AM) (ts.getD i ca)
theorem Tms.nil {d:Nat}{h:Hp}:Tms d h [] []:=⟨rfl,fun i hi=>by simp at hi⟩
theorem TmH.mk {d:Nat}{h:Hp}{op n:Int}{q:Rat}{s:ByteArray}{A:Option Addr}{c:Nat}{ps:List PTm}{ks:List Tm}(x:Tms d h ps ks)(hc:ps.length≤c)(hA:SlO 9 aK ar h A ps):TmH (d+1) h ⟨op,n,q,s,A,ps.length,c⟩ (.mk op n q s ks) :=
 ⟨rfl,rfl,rfl,rfl,x.len,hc,ps,x.len,hA,x.at_⟩
theorem TmH.open {d:Nat}{h:Hp}{p:PTm}{t:Tm}(x:TmH (d+1) h p t):∃ op n q s A c,∃ ps:List PTm,∃ ks:List Tm,p=⟨op,n,q,s,A,ps.length,c⟩∧t=.mk op n q s ks∧ps.length≤c∧SlO 9 aK ar h A ps∧Tms d h ps ks:=by
  obtain ⟨op,n,q,s,A,m,c⟩:=p;cases t with
  | mk iQ n2 q2 s2 ks =>
    obtain ⟨h1,h2,h3,h4,h5,h6,ps,h7,h8,h9⟩:=x;obtain rfl:op=iQ:=h1;obtain rfl:n=n2:=h2;obtain rfl:q=q2:=h3;obtain rfl:s=s2:=h4;obtain rfl:m=ps.length:=(show m=ks.length from h5).trans h7.symm;exact ⟨op,n,q,s,A,c,ps,ks,rfl,rfl,h6,h8,h7,h9⟩
def fG (f:Nat→Nat):Nat→Nat
  | 0=>0
  | k+1=>fG f k+f k
def cd (n:Int):Nat:=if n.natAbs≤1 then 1 else n.natAbs
def ba:Nat→Tm→Nat
  | 0,_=>0
  | d+1,t=>if t.ks.length=0 then 1 else (if t.op=11 then 2 else if t.op=8 then cd t.n else 1)*fG (fun i=>ba d (t.ks.getD i ca)) t.ks.length
def WfT (ok:ByteArray→Prop):Nat→Tm→Prop
  | 0,_=>False
  | d+1,t=>eF t.op=t.ks.length∧(t.op≠1→t.q=0)∧LQ 3000 t.q∧(t.op=2→ok t.s)∧(t.op≠2→t.s=⟨#[]⟩)∧(t.op≠8→t.n=0) ∧ -12≤t.n∧t.n≤12∧∀ i,i<t.ks.length→WfT ok d (t.ks.getD i ca)
def lr (sm:ByteArray→Prop):Nat→Tm→Prop
  | 0,_=>False
  | d+1,t=>t.ks.length≤3∧(-1000≤t.op∧t.op≤1000)∧(-1000≤t.n∧t.n≤1000)∧LQ 3000 t.q∧sm t.s∧∀ i,i<t.ks.length→lr sm d (t.ks.getD i ca)
theorem WfT.sm {ok sm:ByteArray→Prop}(h:∀ s,ok s→sm s)(h0:sm ⟨#[]⟩):∀ {d:Nat} {t:Tm},WfT ok d t→lr sm d t
  | d+1,t,⟨h1,h2,h3,h4,h5,h6,h7,h8,h9⟩=>by
    have hc:=aT t.op;refine ⟨by omega,⟨by omega,by omega⟩,⟨by omega,by omega⟩,h3,?_,fun i hi=>WfT.sm h h0 (h9 i hi)⟩
    by_cases e:t.op=2
    · exact h _ (h4 e)
    · rw[h5 e];exact h0
def Ei (isb:ByteArray→Bool)(op n:Int)(q:Rat)(s:ByteArray)(m:Nat):Prop:=eF op=m∧(op=1∨q.num=0)∧((op=2→isb s=true)∧(op≠2→s=⟨#[]⟩))∧((op=8∨n=0) ∧ -12≤n∧n≤12)
section
variable {isb:ByteArray→Bool} {d:Nat} {op n:Int} {q:Rat} {s:ByteArray} {ks:List Tm}
theorem vE (w:WfT (fun s=>isb s=true) (d+1) (.mk op n q s ks)):Ei isb op n q s ks.length:=by
 obtain ⟨h1,h2,h3,h4,h5,h6,h7,h8,h9⟩:=w;refine ⟨h1,?_,⟨h4,h5⟩,?_,h7,h8⟩
 ·by_cases e:op=1
  ·exact .inl e
  ·exact .inr (Rat.num_eq_zero.2 (h2 e))
 ·by_cases e:op=8
  ·exact .inl e
  ·exact .inr (h6 e)
theorem ob (h:¬Ei isb op n q s ks.length):∃ bb,Value.bool false=.bool bb∧(bb=true↔WfT (fun s=>isb s=true) (d+1) (.mk op n q s ks)):=⟨false,rfl,fun h_=>(by cases h_),fun w=>absurd (vE w) h⟩
theorem CO {k:Nat}(hk:k<ks.length){bk:Bool}(hb:bk=false)(h:bk=true↔WfT (fun s=>isb s=true) d (ks.getD k ca)):∃ bb,Value.bool false=.bool bb∧(bb=true↔WfT (fun s=>isb s=true) (d+1) (.mk op n q s ks)):=⟨false,rfl,fun h_=>(by cases h_),fun ⟨_,_,_,_,_,_,_,_,h9⟩=>by rw[h.2 (h9 k hk)] at hb;cases hb⟩
theorem Dr (h:Ei isb op n q s ks.length)(hq:LQ 3000 q)(hW:∀ i,i<ks.length→WfT (fun s=>isb s=true) d (ks.getD i ca)):∃ bb,Value.bool true=.bool bb∧(bb=true↔WfT (fun s=>isb s=true) (d+1) (.mk op n q s ks)):=by
 obtain ⟨h1,h2,⟨h4,h5⟩,h6,h7,h8⟩:=h;refine ⟨true,rfl,fun _=>⟨h1,fun e=>Rat.num_eq_zero.1 (h2.resolve_left e),hq,h4,h5,fun e=>h6.resolve_left e,h7,h8,hW⟩,fun _=>rfl⟩
end
def BS (nm:Int→ByteArray)(l:List Stp):Nat→Nat→Tm
  | 0,_=>ca
  | f+1,i =>
    if (l.getD i dl).op=2 then .mk 2 0 0 (nm (l.getD i dl).n) []
    else if eF (l.getD i dl).op=1 then .mk (l.getD i dl).op (l.getD i dl).n 0 ⟨#[]⟩ [BS nm l f (l.getD i dl).a.toNat]
    else if eF (l.getD i dl).op=2 then .mk (l.getD i dl).op 0 0 ⟨#[]⟩ [BS nm l f (l.getD i dl).a.toNat,BS nm l f (l.getD i dl).b.toNat]
    else .mk (l.getD i dl).op 0 (l.getD i dl).q ⟨#[]⟩ []
structure MapJ (h0:Hp) (B:List Bx) (w:World) (h:Hp) (b:Nat) (es:List MapEntry) (clk:Nat):Prop where
  obj:w.heap[b]?=some (.map es.toArray clk)
  jk:h[b]?=some junk
  lo:h0.size≤b
  nb:∀ x∈B,x.b≠b
def MapS (h:Hp)(b:Nat)(es:List MapEntry):Prop:=∃ clk,h[b]?=some (.map es.toArray clk)
theorem MapS.gw {h h':Hp}{b:Nat}{es:List MapEntry}(x:MapS h b es)(u:Gw h h'):MapS h' b es:=by
 obtain ⟨c,e⟩:=x;refine ⟨c,?_⟩
 rcases u.blk b (aN e) with k|k
 ·exact k.trans e
 ·rw[e] at k;cases k
theorem MapS.w {w:World}{h:Hp}{b:Nat}{es:List MapEntry}(x:MapS h b es)(g:G w h):∃ clk,w.heap[b]?=some (.map es.toArray clk):=by
 obtain ⟨c,e⟩:=x;refine ⟨c,?_⟩
 rcases g.blk b with k|k
 ·rw[←k];exact e
 ·rw[e] at k;cases k
theorem vp {P:Program}(w:World){mty kt et:TypeId}{b clk:Nat}{es:Array MapEntry}{s:ByteArray}{val:Value}(hm:P.underlying mty=some (.map kt et))(hk:P.underlying kt=some .string)(hb:w.heap[b]?=some (.map es clk))(hf:Instr.findNow .string (.string s) es.toList 0=some none) :
  (Instr.mapUpdate mty (.map (some b)) (.string s) val).run P w=.ok () { w with heap:=w.heap.setIfInBounds b (.map (es.push { key:=.string s,val:=val,born:=clk }) (clk+1)) }:=by
 have hc:(Instr.checkKey false 10000 kt (.string s)).run P w=.ok () w:=MapKept.run_checkKey (k:=.string s) hk (by simp[MapKept.IsKey]) false 9999
 simp[Instr.mapUpdate,run_underlying hm,MapKept.run_getObj_map hb,hc,MapKept.run_findKey hk hf,MapKept.run_setObj_map _ hb,Result.andThen]
theorem si {P:Program}(w:World){mty kt et:TypeId}{b clk:Nat}{es:Array MapEntry}{s:ByteArray}(ok:Bool){v:Value}{found:Bool}(hm:P.underlying mty=some (.map kt et))(hk:P.underlying kt=some .string)(hb:w.heap[b]?=some (.map es clk))
  (hf:(∃ i,Instr.findNow .string (.string s) es.toList 0=some (some (i,v))∧found=true)∨(Instr.findNow .string (.string s) es.toList 0=some none∧found=false∧(zeroValue et).run P w=.ok v w)) :
  (Instr.lookup mty (.map (some b)) (.string s) ok).run P w=.ok (if ok then .tuple #[v,.bool found] else v) w:=by
 have hc:(Instr.checkKey es.isEmpty 10000 kt (.string s)).run P w=.ok () w:=MapKept.run_checkKey (k:=.string s) hk (by simp[MapKept.IsKey]) _ 9999
 rcases hf with ⟨i,hf,rfl⟩|⟨hf,rfl,hz⟩
 ·simp[Instr.lookup,run_underlying hm,MapKept.run_getObj_map hb,hc,MapKept.run_findKey hk hf,Result.andThen]
 ·simp[Instr.lookup,run_underlying hm,MapKept.run_getObj_map hb,hc,MapKept.run_findKey hk hf,hz,Result.andThen]
theorem vU {w:World}{b:Nat}{o o':Obj}(hb:w.heap[b]?=some o):Put b w { w with heap:=w.heap.setIfInBounds b o' }∧({ w with heap:=w.heap.setIfInBounds b o' }:World).heap[b]?=some o':=by
 have hlt:b<w.heap.size:=(Array.getElem?_eq_some_iff.1 hb).1;refine ⟨⟨rfl,rfl,rfl,by simp,fun c hc=>by show (w.heap.setIfInBounds b o')[c]?=_;rw[Array.getElem?_setIfInBounds_ne (Ne.symm hc)]⟩,?_⟩
 show (w.heap.setIfInBounds b o')[b]?=_
 rw[Array.getElem?_setIfInBounds_self_of_lt hlt]
def pE (s t:ByteArray):Bool:=s.toList == t.toList
def l5 (s t:ByteArray):Bool:=!(s.toList == t.toList)
theorem ru {s t:ByteArray}(h:pE s t=true):s=t:=by
 have e:=eq_of_beq (show (s.toList == t.toList)=true from h);rw[Lib.toList_data,Lib.toList_data] at e
 cases s;cases t;congr 1;exact Array.toList_inj.1 e
theorem rN {s t:ByteArray}(h:pE s t=false):¬s=t:=fun e=>by
 subst e;have:pE s s=true:=beq_self_eq_true _;rw[this] at h;cases h
theorem vA {s t:ByteArray}(h:l5 s t=true):¬s=t:=rN (by unfold l5 at h;unfold pE;cases e:(s.toList == t.toList)<;>rw[e] at h<;>first|rfl|cases h)
theorem wn {s t:ByteArray}(h:l5 s t=false):s=t:=ru (by unfold l5 at h;unfold pE;cases e:(s.toList == t.toList)<;>rw[e] at h<;>first|rfl|cases h)
section laws
variable {P:Program} {n:Nat} {N R:Po} {X:Nat→Po} {ops:Array Oper} {k:Nat} {Γ:bI} {w:World} {h:Hp} {w0:World} {h0:Hp} {B:List Bx} {Rs:List Rw} {F:List (Hp→Prop)}
theorem SS.pokeJ (s:SS w0 h0 w h B [] F){b:Nat}{w':World}(hj:h[b]?=some junk)(hl:h0.size≤b)(hn:∀ x∈B,x.b≠b)(p:Put b w w'):SS w0 h0 w' h B [] F :=
 ⟨s.g0,⟨s.st.up.put p hj hl s.g0.size,fun x hx=>(p.blk _ (hn x hx)).trans (s.st.own x hx),s.st.jk,s.st.lo,s.st.nd⟩,fun _ hx=>(by cases hx),.nil,s.mo,s.f⟩
theorem E2 (t:Nat)(s:SS w0 h0 w h B Rs F)(H:∀ b w' h',SS w0 h0 w' h' B Rs F→MapJ h0 B w' h' b [] 0→LG P n N R X ops (k+1) ((t,.map (some b))::Γ) w')(hc:cL ops Γ k t n=true:=by kernel_rfl)
  (hr:(execOp (ev Γ) (am ops k)).run P w=.ok (.value (.map (some w.heap.size))) (w.alloc (.map #[] 0)):=by kernel_rfl):LG P n N R X ops k Γ w:=by
 have u:Up w h (w.alloc (.map #[] 0)) (h.push junk):=Up.allocAny s.g _ _ (.inr rfl);refine LG.val t _ _ (bD hc).1 (bD hc).2 hr (H _ _ _ (s.step u) ⟨?_,?_,?_,fun x hx e=>?_⟩)
 ·rw[cF];exact Array.getElem?_push_size
 ·rw[s.g.size];exact Array.getElem?_push_size
 ·rw[s.g.size];exact s.st.sz
 ·have:=aN (s.st.jk x hx)
  have:=s.g.size
  omega
theorem CQ {b clk:Nat}{es:List MapEntry}(mty kt et:TypeId)(ky:ByteArray)(val:Value)(s:SS w0 h0 w h B [] F)(m:MapJ h0 B w h b es clk)(H:∀ w',SS w0 h0 w' h B [] F→MapJ h0 B w' h b (es++[⟨.string ky,val,clk⟩]) (clk+1)→LG P n N R X ops (k+1) Γ w')
  (hc:cS ops Γ k=true:=by kernel_rfl)(hx:execOp (ev Γ) (am ops k)=(do Instr.mapUpdate mty (.map (some b)) (.string ky) val;pure .skip):=by kernel_rfl)(hu:P.underlying mty=some (.map kt et):=by kernel_rfl)(hk:P.underlying kt=some .string:=by kernel_rfl)(hf:Instr.findNow .string (.string ky) es 0=some none:=by kernel_rfl):LG P n N R X ops k Γ w:=by
 have hr:=vp w (val:=val) hu hk m.obj hf;obtain ⟨p,ho⟩:=vU (o':=.map (es.toArray.push { key:=.string ky,val:=val,born:=clk }) (clk+1)) m.obj;refine LG.store _ (jT hc).1 (jT hc).2 ?_ (H _ (s.pokeJ m.jk m.lo m.nb p) ⟨?_,m.jk,m.lo,m.nb⟩)
 ·rw[hx];simp[hr,Result.andThen]
 ·rw[ho];simp
theorem DH (t:Nat){b:Nat}{es:List MapEntry}(mty kt et:TypeId)(ky:ByteArray)(ok:Bool)(v:Value)(found:Bool)(s:SS w0 h0 w h B Rs F)(m:MapS h b es)(H:LG P n N R X ops (k+1) ((t,if ok then .tuple #[v,.bool found] else v)::Γ) w)(hc:cL ops Γ k t n=true:=by kernel_rfl)
  (hx:execOp (ev Γ) (am ops k)=(do pure (.value (←Instr.lookup mty (.map (some b)) (.string ky) ok))):=by kernel_rfl)(hu:P.underlying mty=some (.map kt et):=by kernel_rfl)(hk:P.underlying kt=some .string:=by kernel_rfl)
  (hf:(∃ i,Instr.findNow .string (.string ky) es 0=some (some (i,v))∧found=true)∨(Instr.findNow .string (.string ky) es 0=some none∧found=false∧∀ w,(zeroValue et).run P w=.ok v w)):LG P n N R X ops k Γ w:=by
 obtain ⟨clk,hm⟩:=m.w s.g;refine LG.val t _ w (bD hc).1 (bD hc).2 ?_ H;rw[hx];have hr:=si w ok (v:=v) (found:=found) hu hk hm (hf.imp id fun h=>⟨h.1,h.2.1,h.2.2 w⟩)
 simp[hr,Result.andThen]
theorem SS.pubMap {b clk:Nat}{es:List MapEntry}(s:SS w0 h0 w h B [] F)(m:MapJ h0 B w h b es clk):∃ h',SS w0 h0 w h' B [] F∧MapS h' b es:=by
 have hlt:=aN m.jk;refine ⟨h.setIfInBounds b (.map es.toArray clk),⟨s.g0,⟨⟨s.st.up.ext,⟨by simp;exact s.st.up.gr.size,fun c hc=>?_⟩,⟨by simp;exact s.st.up.g.size,fun c=>?_⟩⟩,s.st.own,fun x hx=>?_,s.st.lo,s.st.nd⟩,fun _ hx=>(by cases hx),.nil,s.mo,s.f.gw s.mo ⟨by simp,fun c _=>?_⟩⟩,clk,?_⟩
 ·have:=m.lo
  rw[Array.getElem?_setIfInBounds_ne oM];exact s.st.up.gr.blk c hc
 ·by_cases e:b=c
  ·subst e;left;rw[Array.getElem?_setIfInBounds_self_of_lt hlt];exact m.obj.symm
  ·rw[Array.getElem?_setIfInBounds_ne e];exact s.st.up.g.blk c
 ·rw[Array.getElem?_setIfInBounds_ne (Ne.symm (m.nb x hx))];exact s.st.jk x hx
 ·by_cases e:b=c
  ·subst e;exact .inr m.jk
  ·left;rw[Array.getElem?_setIfInBounds_ne e]
 ·rw[Array.getElem?_setIfInBounds_self_of_lt hlt]
end laws
def gj (c:Nat):Prop:=(97≤c∧c≤122)∨(65≤c∧c≤90)
def pQ (c:Nat):Prop:=((97≤c∧c≤122)∨(65≤c∧c≤90))∨(48≤c∧c≤57)∨c=95
instance (c:Nat):Decidable (gj c):=by unfold gj;infer_instance
instance (c:Nat):Decidable (pQ c):=by unfold pQ;infer_instance
def da (s:ByteArray):Int:=if s=⟨#[97,98,115]⟩ then 9 else if s=⟨#[114,97,109,112]⟩ then 10 else if s=⟨#[98,101,110,100]⟩ then 11 else if s=⟨#[109,97,120]⟩ then 12 else if s=⟨#[109,105,110]⟩ then 13 else 0
def bU (s:ByteArray):Bool:=decide (da s≠0)
def bg (s:ByteArray):Bool:=decide (1≤s.size∧s.size≤20∧gj (ax s 0)∧(∀ i,i<s.size→pQ (ax s i))∧bU s=false)
theorem rB {s:ByteArray}(h:¬(1≤s.size∧s.size≤20∧gj (ax s 0))):Value.bool false=.bool (bg s):=congrArg Value.bool (decide_eq_false fun x=>h ⟨x.1,x.2.1,x.2.2.1⟩).symm
theorem CK {s:ByteArray}{i:Nat}(h:i<s.size)(h2:¬pQ (ax s i)):Value.bool false=.bool (bg s):=congrArg Value.bool (decide_eq_false fun x=>h2 (x.2.2.2.1 i h)).symm
theorem B2 {s:ByteArray}(h1:1≤s.size∧s.size≤20)(h2:gj (ax s 0))(h3:∀ i,i<s.size→pQ (ax s i)):bg s = !bU s:=by
 unfold bg
 cases h:bU s
 ·exact decide_eq_true ⟨h1.1,h1.2,h2,h3,rfl⟩
 ·exact decide_eq_false fun x=>by cases x.2.2.2.2
def fl:List MapEntry:=[⟨.string ⟨#[97,98,115]⟩,.int .i64 9,0⟩,⟨.string ⟨#[114,97,109,112]⟩,.int .i64 10,1⟩,⟨.string ⟨#[98,101,110,100]⟩,.int .i64 11,2⟩,⟨.string ⟨#[109,97,120]⟩,.int .i64 12,3⟩,⟨.string ⟨#[109,105,110]⟩,.int .i64 13,4⟩]
theorem kr (s:ByteArray):(∃ i,Instr.findNow .string (.string s) fl 0=some (some (i,.int .i64 (da s)))∧bU s=true)∨(Instr.findNow .string (.string s) fl 0=some none∧bU s=false∧da s=0):=by
 by_cases h1:s=⟨#[97,98,115]⟩
 ·subst h1;exact .inl ⟨0,by kernel_rfl,by decide⟩
 by_cases h2:s=⟨#[114,97,109,112]⟩
 ·subst h2;exact .inl ⟨1,by kernel_rfl,by decide⟩
 by_cases h3:s=⟨#[98,101,110,100]⟩
 ·subst h3;exact .inl ⟨2,by kernel_rfl,by decide⟩
 by_cases h4:s=⟨#[109,97,120]⟩
 ·subst h4;exact .inl ⟨3,by kernel_rfl,by decide⟩
 by_cases h5:s=⟨#[109,105,110]⟩
 ·subst h5;exact .inl ⟨4,by kernel_rfl,by decide⟩
 have hc:da s=0:=by unfold da;rw[if_neg h1,if_neg h2,if_neg h3,if_neg h4,if_neg h5]
 refine .inr ⟨?_,by unfold bU;rw[hc];rfl,hc⟩
 rcases MapKept.findNow_spec (d:=.string) (k:=.string s) (by simp[MapKept.IsKey]) fl 0 (fun x hx=>by
  simp only[fl,List.mem_cons,List.not_mem_nil,or_false] at hx
  rcases hx with rfl|rfl|rfl|rfl|rfl<;>simp[MapKept.IsKey]) with ⟨a,_⟩|⟨j,e,a,b,c⟩
 ·exact a
 ·exfalso
  match j,b with
  | 0,b=>injection b with b;subst b;injection c with c;exact h1 c.symm
  | 1,b=>injection b with b;subst b;injection c with c;exact h2 c.symm
  | 2,b=>injection b with b;subst b;injection c with c;exact h3 c.symm
  | 3,b=>injection b with b;subst b;injection c with c;exact h4 c.symm
  | 4,b=>injection b with b;subst b;injection c with c;exact h5 c.symm
  | n+5,b=>cases b
def nz (p:Nat→Bool)(s:ByteArray):Nat→Nat→Nat
  | 0,a=>a
  | f+1,a=>if a<s.size∧p (ax s a)=true then nz p s f (a+1) else a
def rn (p:Nat→Bool)(s:ByteArray)(a:Nat):Nat:=nz p s (s.size-a) a
theorem rP (p:Nat→Bool)(s:ByteArray):∀ f a,a≤nz p s f a
  | 0,a=>Nat.le_refl a
  | f+1,a=>by
    unfold nz;split
    · exact Nat.le_trans (Nat.le_succ a) (rP p s f (a+1))
    · exact Nat.le_refl a
theorem sq (p:Nat→Bool)(s:ByteArray):∀ f a,a≤s.size→nz p s f a≤s.size
  | 0,a,h=>h
  | f+1,a,h=>by
    unfold nz;split
    · rename_i c;exact sq p s f (a+1) c.1
    · exact h
theorem oq (p:Nat→Bool)(s:ByteArray)(a:Nat):a≤rn p s a:=rP p s _ a
theorem iI {p:Nat→Bool}{s:ByteArray}{a:Nat}(h:a≤s.size):rn p s a≤s.size:=sq p s _ a h
theorem tc {p:Nat→Bool}{s:ByteArray}{j:Nat}:∀ f a,s.size-a≤f→a≤j→j≤s.size→(∀ i,a≤i→i<j→p (ax s i)=true)→(j=s.size∨p (ax s j)=false)→nz p s f a=j
  | 0,a,h1,h2,h3,_,_=>by show a=j;omega
  | f + 1,a,h1,h2,h3,h4,h5=>by
    unfold nz
    by_cases e:a=j
    · subst e
      rw[if_neg];rintro ⟨h6,h7⟩
      rcases h5 with h5|h5
      · omega
      · rw[h5] at h7;cases h7
    · rw[if_pos ⟨by omega,h4 a (Nat.le_refl a) oM⟩]
      exact tc f (a+1) oM oM h3 (fun i hi hj=>h4 i oM hj) h5
theorem mf {p:Nat→Bool}{s:ByteArray}{a j:Nat}(h2:a≤j)(h3:j≤s.size)(h4:∀ i,a≤i→i<j→p (ax s i)=true)(h5:j=s.size∨p (ax s j)=false):rn p s a=j:=tc _ a (Nat.le_refl _) h2 h3 h4 h5
theorem jg (p:Nat→Bool)(s:ByteArray):∀ f a,s.size-a≤f→nz p s f a<s.size→p (ax s (nz p s f a))=false
  | 0,a,h1,h2=>by
    have h2:a<s.size:=h2
    omega
  | f + 1,a,h1,h2=>by
    unfold nz at h2 ⊢
    split
    · rename_i c;rw[if_pos c] at h2;exact jg p s f (a+1) oM h2
    · rename_i c;rw[if_neg c] at h2
      cases h:p (ax s a) with
      | true=>exact absurd ⟨h2,h⟩ c
      | false=>rfl
def wj (c:Nat):Bool:=decide (c=32)
def iN (c:Nat):Bool:=decide (48≤c∧c≤57)
def fT (c:Nat):Bool:=decide ((48≤c∧c≤57)∨c=46)
def bO (c:Nat):Bool:=decide (pQ c)
def dh (c:Nat):Bool:=decide (c≠93)
def sk (s:ByteArray)(a:Nat):Nat:=rn wj s a
theorem dB {s:ByteArray}{a:Nat}(h:a≤s.size):sk s a≤s.size:=iI h
theorem wV (s:ByteArray)(a:Nat):sk s (sk s a)=sk s a:=by
 rcases Nat.lt_or_ge (sk s a) s.size with h1|h1
 ·exact mf (Nat.le_refl _) (Nat.le_of_lt h1) (fun i h2 h3=>absurd h2 oM) (.inr (jg wj s (s.size-a) a (Nat.le_refl _) h1))
 ·show nz wj s (s.size-sk s a) (sk s a)=sk s a
  rw[show s.size-sk s a=0 by omega];rfl
theorem oe {s:ByteArray}{a:Nat}(h:s.size≤a):ax s a=0:=by
 unfold ax
 rw[List.getD_eq_getElem?_getD,List.getElem?_eq_none (by simpa using h)];rfl
theorem nj {s:ByteArray}{a:Nat}(h:ax s a≠0):a<s.size:=by
 rcases Nat.lt_or_ge a s.size with h1|h1
 ·exact h1
 ·exact absurd (oe h1) h
inductive PR where
  | ok (t:Tm) (a:Nat)
  | err (b:Nat)
inductive PKd where
  | sum|prod|sign|pow|atom
  | call (op:Int)
  | more (lv:Bool) (t:Tm)
def iq (op:Int)(t:Tm):Tm:=.mk op 0 0 ⟨#[]⟩ [t]
def bB (op:Int)(t u:Tm):Tm:=.mk op 0 0 ⟨#[]⟩ [t,u]
def bW (q:Rat):Tm:=.mk 1 0 q ⟨#[]⟩ []
def bV (s:ByteArray):Tm:=.mk 2 0 0 s []
def jX (x:Option PR)(f:Tm→Nat→Option PR):Option PR:=match x with
  | none=>none
  | some (.ok t a)=>f t a
  | some (.err b)=>some (.err b)
def dv (s:ByteArray):Nat→Nat
  | 0=>0
  | n+1=>dv s n*10+(ax s n-48)
def gu (s:ByteArray):Option Nat:=if s.size=0∨(1<s.size∧ax s 0=48)∨¬(∀ i,i<s.size→iN (ax s i)=true) then none else some (dv s s.size)
theorem fO {x:ByteArray}{k:Nat}(h:gu x=some k):1≤x.size∧(1<x.size→ax x 0≠48)∧(∀ i,i<x.size→48≤ax x i∧ax x i≤57)∧k=dv x x.size:=by
 unfold gu at h
 by_cases c:x.size=0∨(1<x.size∧ax x 0=48)∨¬(∀ i,i<x.size→iN (ax x i)=true)
 ·rw[if_pos c] at h;cases h
 ·rw[if_neg c] at h;injection h with h
  refine ⟨by omega,fun h1 h2=>c (.inr (.inl ⟨h1,h2⟩)),fun i hi=>?_,h.symm⟩;exact oT (Decidable.byContradiction fun h2=>c (.inr (.inr (fun h3=>h2 (h3 i hi)))))
theorem ot {x:ByteArray}:∀ n,(∀ i,i<n→48≤ax x i∧ax x i≤57)→dv x n<10^n
  | 0,_=>Nat.one_pos
  | n+1,h=>by
    have h1:=ot n (fun i hi=>h i oM);have h2:=h n oM
    show dv x n*10+(ax x n-48)<10^(n+1)
    rw[Nat.pow_succ];omega
theorem oW {x:ByteArray}{k:Nat}(h:gu x=some k)(h3:x.size≤3):k≤999:=by
 obtain ⟨h1,_,h2,rfl⟩:=fO h;have h4:=ot x.size h2;have h5:10^x.size≤10^3:=Nat.pow_le_pow_right kD h3
 omega
def c1 (lv:Bool):Nat:=if lv then 42 else 43
def c2 (lv:Bool):Nat:=if lv then 47 else 45
def jN (lv:Bool):Int:=if lv then 5 else 3
def iQ (lv:Bool):Int:=if lv then 6 else 4
def part (lv:Bool):PKd:=if lv then .sign else .prod
def vI (s:ByteArray)(t:Tm)(a:Nat):PR :=
  let m:Bool:=decide (ax s (sk s a)=45)
  let b:=sk s (if m then sk s a+1 else sk s a)
  let e:=rn iN s b
  if 3<e-b then .err b else match gu (s.extract b e) with
    | none=>.err b
    | some k=>.ok (.mk 8 (if m then -(k:Int) else k) 0 ⟨#[]⟩ [t]) e
section
variable (nf bf:ByteArray→Option Rat) (s:ByteArray)
def cl : Nat→PKd→Nat→Option PR
  | 0,_,_=>none
  | n+1,.sum,a=>jX (cl n .prod a) fun t b=>cl n (.more false t) b
  | n+1,.prod,a=>jX (cl n .sign a) fun t b=>cl n (.more true t) b
  | n+1,.more lv t,a =>
    if ax s (sk s a)=c1 lv then jX (cl n (part lv) (sk s a+1)) fun u b=>cl n (.more lv (bB (jN lv) t u)) b
    else if ax s (sk s a)=c2 lv then jX (cl n (part lv) (sk s a+1)) fun u b=>cl n (.more lv (bB (iQ lv) t u)) b
    else some (.ok t (sk s a))
  | n+1,.sign,a=>if ax s (sk s a)=45 then jX (cl n .sign (sk s a+1)) fun t b=>some (.ok (iq 7 t) b) else cl n .pow (sk s a)
  | n+1,.pow,a=>jX (cl n .atom a) fun t b=>if ax s (sk s b)=94 then some (vI s t (sk s b+1)) else some (.ok t (sk s b))
  | n + 1,.atom,a =>
    if fT (ax s (sk s a))=true then match nf (s.extract (sk s a) (rn fT s (sk s a))) with
      | some q=>some (.ok (bW q) (rn fT s (sk s a)))
      | none=>some (.err (sk s a))
    else if gj (ax s (sk s a))∨ax s (sk s a)=95 then
      if bU (s.extract (sk s a) (rn bO s (sk s a)))=true then cl n (.call (da (s.extract (sk s a) (rn bO s (sk s a))))) (rn bO s (sk s a))
      else if bg (s.extract (sk s a) (rn bO s (sk s a)))=true then some (.ok (bV (s.extract (sk s a) (rn bO s (sk s a)))) (rn bO s (sk s a)))
      else some (.err (sk s a))
    else if ax s (sk s a)=91 then
      if rn dh s (sk s a+1)=s.size then some (.err (sk s a)) else match bf (s.extract (sk s a+1) (rn dh s (sk s a+1))) with
      | some q=>some (.ok (bW q) (rn dh s (sk s a+1)+1))
      | none=>some (.err (sk s a))
    else if ax s (sk s a)=40 then jX (cl n .sum (sk s a+1)) fun t b=>if ax s (sk s b)=41 then some (.ok t (sk s b+1)) else some (.err (sk s b))
    else some (.err (sk s a))
  | n + 1,.call op,a =>
    if ax s (sk s a)=40 then jX (cl n .sum (sk s a+1)) fun t b =>
      if op=12∨op=13 then
        if ax s (sk s b)=44 then jX (cl n .sum (sk s b+1)) fun u c=>if ax s (sk s c)=41 then some (.ok (bB op t u) (sk s c+1)) else some (.err (sk s c))
        else some (.err (sk s b))
      else if ax s (sk s b)=41 then some (.ok (iq op t) (sk s b+1)) else some (.err (sk s b))
    else some (.err (sk s a))
variable {nf bf s}
theorem eh {x:Option PR}{f:Tm→Nat→Option PR}{t:Tm}{b:Nat}(h:jX x f=some (.ok t b)):∃ u a,x=some (.ok u a)∧f u a=some (.ok t b):=by
 match x,h with
 | some (.ok u a),h=>exact ⟨u,a,rfl,h⟩
def pp (lv:Bool):PKd:=if lv then .prod else .sum
section
variable {n a b:Nat} {t u:Tm} {lv:Bool} {op:Int}
theorem vw {k:PKd}{r:PR}(h:cl nf bf s n k a=some r):∃ m,n=m+1:=by
 cases n with
 | zero=>cases h
 | succ m=>exact ⟨m,rfl⟩
theorem vZ (h:cl nf bf s (n+1) (pp lv) a=some (.ok t b)):∃ u c,cl nf bf s n (part lv) a=some (.ok u c)∧cl nf bf s n (.more lv u) c=some (.ok t b):=by
 cases lv<;>exact eh h
theorem o8 (h:cl nf bf s (n+1) (.more lv u) a=some (.ok t b))(c:ax s (sk s a)=c1 lv):∃ v e,cl nf bf s n (part lv) (sk s a+1)=some (.ok v e)∧cl nf bf s n (.more lv (bB (jN lv) u v)) e=some (.ok t b):=by
 unfold cl at h;rw[if_pos c] at h;exact eh h
theorem o0 (h:cl nf bf s (n+1) (.more lv u) a=some (.ok t b))(d:ax s (sk s a)≠c1 lv)(c:ax s (sk s a)=c2 lv):∃ v e,cl nf bf s n (part lv) (sk s a+1)=some (.ok v e)∧cl nf bf s n (.more lv (bB (iQ lv) u v)) e=some (.ok t b):=by
 unfold cl at h;rw[if_neg d,if_pos c] at h;exact eh h
theorem oZ (h:cl nf bf s (n+1) (.more lv u) a=some (.ok t b))(d:ax s (sk s a)≠c1 lv)(c:ax s (sk s a)≠c2 lv):t=u∧b=sk s a:=by
 unfold cl at h;rw[if_neg d,if_neg c] at h;injection h with h;injection h with h1 h2;exact ⟨h1.symm,h2.symm⟩
theorem vm (h:cl nf bf s (n+1) .sign a=some (.ok t b))(c:ax s (sk s a)=45):∃ v,cl nf bf s n .sign (sk s a+1)=some (.ok v b)∧t=iq 7 v:=by
 unfold cl at h;rw[if_pos c] at h
 obtain ⟨v,e,h1,h2⟩:=eh h
 injection h2 with h2;injection h2 with h2 h3;subst h3;exact ⟨v,h1,h2.symm⟩
theorem pD (h:cl nf bf s (n+1) .sign a=some (.ok t b))(c:ax s (sk s a)≠45):cl nf bf s n .pow (sk s a)=some (.ok t b):=by
 unfold cl at h;rw[if_neg c] at h;exact h
theorem vv (h:cl nf bf s (n+1) .pow a=some (.ok t b)):∃ v e,cl nf bf s n .atom a=some (.ok v e)∧(ax s (sk s e)≠94→t=v∧b=sk s e)∧(ax s (sk s e)=94→vI s v (sk s e+1)=.ok t b):=by
 unfold cl at h
 obtain ⟨v,e,h1,h2⟩:=eh h;refine ⟨v,e,h1,fun c=>?_,fun c=>?_⟩
 ·rw[if_neg c] at h2;injection h2 with h2;injection h2 with h2 h3;exact ⟨h2.symm,h3.symm⟩
 ·rw[if_pos c] at h2;injection h2
theorem va {v:Tm}(h:vI s v a=.ok t b):∃ k,gu (s.extract (sk s (if ax s (sk s a)=45 then sk s a+1 else sk s a)) b)=some k∧b=rn iN s (sk s (if ax s (sk s a)=45 then sk s a+1 else sk s a))∧b-sk s (if ax s (sk s a)=45 then sk s a+1 else sk s a)≤3∧t=.mk 8 (if ax s (sk s a)=45 then -(k:Int) else k) 0 ⟨#[]⟩ [v]:=by
  have e1:∀ x y:Nat,(if decide (ax s (sk s a)=45)=true then x else y)=if ax s (sk s a)=45 then x else y:=fun x y=>by by_cases c:ax s (sk s a)=45<;>simp[c]
  have e2:∀ x y:Int,(if decide (ax s (sk s a)=45)=true then x else y)=if ax s (sk s a)=45 then x else y:=fun x y=>by by_cases c:ax s (sk s a)=45<;>simp[c]
  unfold vI at h
  dsimp only at h
  rw[e1] at h
  generalize sk s (if ax s (sk s a)=45 then sk s a+1 else sk s a)=B at h ⊢
  by_cases c:3<rn iN s B-B
  · rw[if_pos c] at h;cases h
  · rw[if_neg c] at h
    revert h
    cases hk:gu (s.extract B (rn iN s B)) with
    | none=>intro h;cases h
    | some k =>
      intro h
      injection h with h1 h2
      subst h2;rw[e2] at h1
      exact ⟨k,hk,rfl,by omega,h1.symm⟩
section
variable (h:cl nf bf s (n+1) .atom a=some (.ok t b))
include h
theorem vD (c:fT (ax s (sk s a))=true):∃ q,nf (s.extract (sk s a) (rn fT s (sk s a)))=some q∧t=bW q∧b=rn fT s (sk s a):=by
 unfold cl at h;rw[if_pos c] at h
 split at h
 ·rename_i q hq;injection h with h;injection h with h1 h2;exact ⟨q,hq,h1.symm,h2.symm⟩
 ·cases h
variable (c0:fT (ax s (sk s a))=false)
include c0
theorem AK (c:gj (ax s (sk s a))∨ax s (sk s a)=95)(d:bU (s.extract (sk s a) (rn bO s (sk s a)))=true):cl nf bf s n (.call (da (s.extract (sk s a) (rn bO s (sk s a))))) (rn bO s (sk s a))=some (.ok t b):=by
 unfold cl at h;rw[if_neg (by rw[c0];decide),if_pos c,if_pos d] at h;exact h
theorem tT (c:gj (ax s (sk s a))∨ax s (sk s a)=95)(d:bU (s.extract (sk s a) (rn bO s (sk s a)))=false):bg (s.extract (sk s a) (rn bO s (sk s a)))=true∧t=bV (s.extract (sk s a) (rn bO s (sk s a)))∧b=rn bO s (sk s a):=by
 unfold cl at h;rw[if_neg (by rw[c0];decide),if_pos c,if_neg (by rw[d];decide)] at h
 split at h
 ·rename_i e;injection h with h;injection h with h1 h2;exact ⟨e,h1.symm,h2.symm⟩
 ·cases h
variable (cL:¬(gj (ax s (sk s a))∨ax s (sk s a)=95))
include cL
theorem xx (c:ax s (sk s a)=91):rn dh s (sk s a+1)≠s.size∧∃ q,bf (s.extract (sk s a+1) (rn dh s (sk s a+1)))=some q∧t=bW q∧b=rn dh s (sk s a+1)+1:=by
 unfold cl at h;rw[if_neg (by rw[c0];decide),if_neg cL,if_pos c] at h
 split at h
 ·cases h
 ·rename_i d
  split at h
  ·rename_i q hq;injection h with h;injection h with h1 h2;exact ⟨d,q,hq,h1.symm,h2.symm⟩
  ·cases h
variable (c9:ax s (sk s a)≠91)
include c9
theorem vj (c:ax s (sk s a)=40):∃ e,cl nf bf s n .sum (sk s a+1)=some (.ok t e)∧ax s (sk s e)=41∧b=sk s e+1:=by
 unfold cl at h;rw[if_neg (by rw[c0];decide),if_neg cL,if_neg c9,if_pos c] at h
 obtain ⟨v,e,h1,h2⟩:=eh h
 split at h2
 ·rename_i d;injection h2 with h2;injection h2 with h2 h3;subst h2;exact ⟨e,h1,d,h3.symm⟩
 ·cases h2
theorem BK (c:ax s (sk s a)≠40):False:=by
 unfold cl at h;rw[if_neg (by rw[c0];decide),if_neg cL,if_neg c9,if_neg c] at h;cases h
end
theorem qM (h:cl nf bf s (n+1) (.call op) a=some (.ok t b)):ax s (sk s a)=40∧∃ u e,cl nf bf s n .sum (sk s a+1)=some (.ok u e)∧((op=12∨op=13)→ax s (sk s e)=44∧∃ v f,cl nf bf s n .sum (sk s e+1)=some (.ok v f)∧ax s (sk s f)=41∧t=bB op u v∧b=sk s f+1)∧(¬(op=12∨op=13)→ax s (sk s e)=41∧t=iq op u∧b=sk s e+1):=by
  unfold cl at h
  split at h
  · rename_i c
    obtain ⟨u,e,h1,h2⟩:=eh h;refine ⟨c,u,e,h1,fun ho=>?_,fun ho=>?_⟩
    · rw[if_pos ho] at h2
      split at h2
      · rename_i d
        obtain ⟨v,f,h3,h4⟩:=eh h2
        split at h4
        · rename_i g;injection h4 with h4;injection h4 with h4 h5;exact ⟨d,v,f,h3,g,h4.symm,h5.symm⟩
        · cases h4
      · cases h2
    · rw[if_neg ho] at h2
      split at h2
      · rename_i d;injection h2 with h2;injection h2 with h2 h3;exact ⟨d,h2.symm,h3.symm⟩
      · cases h2
  · cases h
end
end
def PtH (h:Hp)(p:PTm)(t:Tm):Prop:=∃ d,TmH d h p t
theorem PtH.gw {h h':Hp}{p:PTm}{t:Tm}(x:PtH h p t)(u:Gw h h'):PtH h' p t:=by obtain ⟨d,x⟩:=x;exact ⟨d,x.gw u⟩
theorem PtH.one {h:Hp}{op n:Int}{p:PTm}{t:Tm}{b:Nat}(x:PtH h p t)(hA:SlO 9 aK ar h (some ⟨b,0,none⟩) [p]):PtH h ⟨op,n,0,⟨#[]⟩,some ⟨b,0,none⟩,1,1⟩ (.mk op n 0 ⟨#[]⟩ [t]):=by
 obtain ⟨d,x⟩:=x
 exact ⟨d+1,TmH.mk (ps:=[p]) (ks:=[t]) ⟨rfl,fun i hi=>by
  have:i=0:=by have:i<1:=hi;omega
  subst this;exact x⟩ (Nat.le_refl _) hA⟩
theorem PtH.two {h:Hp}{op:Int}{p q:PTm}{t u:Tm}{b:Nat}(x:PtH h p t)(y:PtH h q u)(hA:SlO 9 aK ar h (some ⟨b,0,none⟩) [p,q]):PtH h ⟨op,0,0,⟨#[]⟩,some ⟨b,0,none⟩,2,2⟩ (bB op t u):=by
 obtain ⟨d,x⟩:=x;obtain ⟨e,y⟩:=y
 exact ⟨max d e+1,TmH.mk (ps:=[p,q]) (ks:=[t,u]) ⟨rfl,fun i hi=>by
  have:i=0∨i=1:=by have:i<2:=hi;omega
  rcases this with rfl|rfl
  ·exact x.mono (Nat.le_max_left _ _)
  ·exact y.mono (Nat.le_max_right _ _)⟩ (Nat.le_refl _) hA⟩
theorem PtH.num {h:Hp}{q:Rat}:PtH h ⟨1,0,q,⟨#[]⟩,none,0,0⟩ (bW q):=⟨1,TmH.mk (ps:=[]) (ks:=[]) Tms.nil (Nat.le_refl _) SlO.nil⟩
theorem PtH.nam {h:Hp}{s:ByteArray}:PtH h ⟨2,0,0,s,none,0,0⟩ (bV s):=⟨1,TmH.mk (ps:=[]) (ks:=[]) Tms.nil (Nat.le_refl _) SlO.nil⟩
section ops
variable {P:Program} {Γ:bI} {o:Oper}
theorem ng {tx:TypeId}{x i e:Operand}{k k2:IntKind}{s:ByteArray}{n m:Nat}{j j2:Int}(ho:o.op=.slice tx x (some i) (some e) none)(hx:ev Γ x=.string s)(hi:ev Γ i=.int k j)(he:ev Γ e=.int k2 j2)(hu:P.underlying tx=some .string)(hj:j=(n:Int))(hj2:j2=(m:Int))(hn:n≤m)(hm:m≤s.size)(w:World) :
  (execOp (ev Γ) o).run P w=.ok (.value (.string (s.extract n m))) w:=by
 unfold execOp;simp only[ho]
 subst hj;subst hj2;have h0:(m:Int)≤(s.size:Int):=by omega
 simp[Instr.sliceAt,hx,hi,he,Instr.slice,run_underlying hu,Instr.sliceBounds,Instr.sliceBound,asIntOf,Result.andThen,h0,hn,hm]
end ops
structure Whole (lo:Nat) (h:Hp) (b:Nat) (ty:TypeId) (vs:List Value):Prop where
  lo:lo≤b
  ty0:(ty == 0)=false
  at_:h[b]?=some (.cells vs.toArray ty (0,0))
section ss
variable {w0:World} {h0:Hp} {w:World} {h:Hp} {B:List Bx} {R:List Rw} {F:List (Hp→Prop)}
end ss
structure Poked (h h':Hp) (b:Nat):Prop where
  oth:∀ c,c≠b→c<h.size→h'[c]?=h[c]?
section ss
variable {w0:World} {h0:Hp} {w:World} {h:Hp} {B:List Bx} {R:List Rw} {F:List (Hp→Prop)}
end ss
section laws
variable {M:Ms} {P:Program} {n:Nat} {N R:Po} {X:Nat→Po} {ops:Array Oper} {k k0:Nat} {hr:Hp} {AL:List Al} {L:Array Bool} {Γ:bI} {w:World} {h:Hp} {w0:World} {h0:Hp} {B:List Bx} {Rs:List Rw} {F:List (Hp→Prop)}
theorem tC (i t:Nat){f:FuncId}{args:Array Value}(c:Calls P f args w fun e w'=>∃ v,e=.returned v∧Tl M w w'∧AG M P n N R X ops k0 (L.setIfInBounds i true) ((t,v)::Γ) w')(hc:(ff ops k0 L i && aW Γ (am ops i) && ((am ops i).dst == some t) && decide (t<n))=true:=by kernel_rfl)(hw:aZ ops Γ (am ops i)=some true:=by kernel_rfl)
  (hr:(execOp (ev Γ) (am ops i)).run P w=.ok (.enter f args) w:=by kernel_rfl):AG M P n N R X ops k0 L Γ w:=by
 simp only[Bool.and_eq_true,decide_eq_true_eq,beq_iff_eq] at hc
 obtain ⟨⟨⟨h1,h2⟩,h3⟩,h4⟩:=hc;obtain ⟨hg,hs⟩:=gy h1;intro a ka;refine A.one h1 hg (R':=fun v w'=>Tl M w w'∧AG M P n N R X ops k0 (L.setIfInBounds i true) ((t,v)::Γ) w') ⟨ka.want hw,.inr (.inr ⟨f,args,?_,c⟩)⟩ (fun v w' hq=>hq.1) (fun v w' hq=>?_)
 ·rw[ka.exec (Region.noSelect_spec hs i _ · · hg) h2];exact hr
 ·rw[h3];exact hq.2 _ (ka.put h4 v)
theorem qJ (t:Nat)(ty:TypeId)(vs:List Value)(s:SS w0 h0 w h B Rs F)(H:∀ b w' h',Up w h w' h'→h.size≤b→SS w0 h0 w' h' (⟨b,ty,vs⟩::B) Rs F→LG P n N R X ops (k+1) ((t,.pointer (some ⟨b,0,none⟩))::Γ) w')(hc:cL ops Γ k t n=true:=by kernel_rfl)
  (hr:(execOp (ev Γ) (am ops k)).run P w=.ok (.value (.pointer (some ⟨w.heap.size,0,none⟩))) (w.alloc (.cells vs.toArray ty (0,0))):=by kernel_rfl):LG P n N R X ops k Γ w :=
 LG.var t ty vs s.st (bD hc).1 (bD hc).2 hr (fun b w' h' hb u s'=>H b w' h' u hb (s.new u hb s'))
theorem UpM.put2 {M2:List Nat}{wa w':World}{ha:Hp}{b:Nat}(u:UpM M2 wa ha w h)(p:Put b w w')(hb:ha.size≤b)(ga:G wa ha)(g:G w' h):UpM M2 wa ha w' h :=
 ⟨⟨p.os.trans u.mo.os,p.tape.trans u.mo.tape,p.output.trans u.mo.output,by rw[p.size];exact u.mo.size,fun c hc hm=>(p.blk c (fun e=>by subst e;have:=ga.size;omega)).trans (u.mo.blk c hc hm)⟩,u.gr,g⟩
end laws
section
variable {M:Ms} {P:Program} {n:Nat} {N R:Po} {X:Nat→Po} {ops:Array Oper} {k0:Nat} {hr:Hp} {AL:List Al} {L:Array Bool} {Γ:bI} {w:World} {h:Hp} {w0:World} {h0:Hp} {B:List Bx} {Rs:List Rw} {F:List (Hp→Prop)} {M2:List Nat} {wa:World} {ha:Hp}
theorem SS.pubM (s:SS w0 h0 w h B Rs F)(u:UpM M2 wa ha w h)(j:Nat)(hlo:ha.size≤(aw B j).b)(hj:decide (j<B.length)=true:=by kernel_rfl):∃ h',SS w0 h0 w h' (B.eraseIdx j) Rs F∧UpM M2 wa ha w h'∧Seg h' (aw B j).b 0 (aw B j).vs:=by
 have hj':=oT hj;obtain ⟨h',s',gw,sg,hc,oth⟩:=s.st.pubX j hj';have hm:=a6 hj';refine ⟨h',⟨s.g0,s',fun r hr=>((s.ro r hr).out (List.mem_map.2 ⟨_,hm,rfl⟩) oth).sub _ (fun b hb=>?_),s.ap,s.mo,s.f.gw s.mo gw⟩,⟨u.mo,⟨Nat.le_trans u.gr.size gw.size,fun b hb=>?_⟩,s'.up.g⟩,sg⟩
 ·obtain ⟨x,hx,e⟩:=List.mem_map.1 hb
  exact List.mem_map.2 ⟨x,List.mem_of_mem_eraseIdx hx,e⟩
 ·exact (oth b (fun e=>by subst e;omega)).trans (u.gr.blk b hb)
theorem wQ (i t:Nat){f:FuncId}{args:Array Value}{Φ:World→Hp→Value→Hp→Prop}(s:SS w0 h0 w h B Rs F)(m:UpM M2 wa ha w h)(c:∀ w1 h1,SS w0 h0 w1 h1 B Rs F→Calls P f args w1 (Ret w1 h1 (Φ w1 h1)))(H:∀ w1 h1 v w' h',UpM M2 wa ha w' h'→SS w0 h0 w' h' B Rs F→Φ w1 h1 v h'→EG M P n N R X ops k0 hr AL (L.setIfInBounds i true) ((t,v)::Γ) w' h')(hc:BO n ops k0 AL L Γ i t=true:=by kernel_rfl)(hv:∀ w,(execOp (ev Γ) (am ops i)).run P w=.ok (.enter f args) w:=by intro _;kernel_rfl):EG M P n N R X ops k0 hr AL L Γ w h :=
 Rg.call i t f args (j7 hc).1 (j7 hc).2 hv (fun w1 h1 u=>(c w1 h1 (s.step u)).mono fun e w' ⟨v,h',he,u2,hΦ⟩=>⟨v,h',he,u2.m M.l,H w1 h1 v w' h' (m.trans ((u.m _).trans (u2.m _))) ((s.step u).step u2) hΦ⟩)
theorem wg {F1:List (Hp→Prop)}{wr:World}{x:Al}(pre:List Bx)(sr:SS w0 h0 wr hr B Rs F1)(s:SS w0 h0 w h (pre++B) Rs F)(m:UpM M2 wa ha w h)(hs:ha.size≤hr.size)(t:TypeId)(vs:List Value)(H:∀ w' h' b,UpM M2 wa ha w' h'→ha.size≤b→SS w0 h0 w' h' (⟨b,t,vs⟩::(pre++B)) Rs F→AG M P n N R X ops k0 (L.setIfInBounds x.i true) ((x.t,.pointer (some ⟨b,0,none⟩))::Γ) w')(hc:(dX ops [x] L && decide (x.t<n))=true:=by kernel_rfl)(ho:x.o=.cells vs.toArray t (0,0):=by kernel_rfl)(hp:pre.all (fun y=>y.t != t)=true:=by kernel_rfl):EG M P n N R X ops k0 hr [x] L Γ w h :=
 Rg.fin1 hc (fun w' h' b u k=>H w' h' b (m.trans (u.m _)) (Nat.le_trans hs k.2.2) (SS.blkp pre sr (s.step u) k t vs ho hp))
theorem Dt (i j o:Nat)(cs:List Value)(s:SS w0 h0 w h B Rs F)(H:∀ w',Put (aw B j).b w w'→SS w0 h0 w' h (eo B j o cs) Rs F→AG M P n N R X ops k0 (L.setIfInBounds i true) Γ w')(hc:BN ops k0 L Γ i=true:=by kernel_rfl)
  (hj:(decide (j<B.length) && decide (o+cs.length≤(aw B j).vs.length))=true:=by kernel_rfl)(he:cV P (execOp (ev Γ) (am ops i))=some (.skip,kI (aw B j).b o cs):=by kernel_rfl)(hz:∀ K bs,M.z=some (K,bs)→K≤(aw B j).b∨(aw B j).b∈bs:=by intro _ _ e;cases e):AG M P n N R X ops k0 L Γ w :=
 T.put i j o cs s.st s.g0 (iC hc).1 (iC hc).2 hj he (fun w' p s'=>H w' p (s.put0 (oT (Bool.and_eq_true _ _▸hj).1) p s' (ji (oT (Bool.and_eq_true _ _▸hj).1)))) hz
end
theorem gC (c:Nat)(hc:c<256)(w:World)(h:Hp)(g:G w h):CV 25 #[.int .u8 (c:Nat)] w h (.bool (decide (gj (c)))):=by
 have hs:=sS g;refine go Tryz.func25 [(0,.int .u8 (c:Nat))] rfl (aa hs [.v 2 qF] (aG (lL hs [.m 3 0] ?_)));cases hb1:(decide ((97:Int)≤(c:Int)))
 ·
  have phb1:=oF hb1;refine lB 4 hb1 (lL hs [.m 5 4] (lG 6 ?_));refine lG 7 (lL hs [.v 8 qF,.m 9 8,.m 10 0] ?_);cases hb2:(decide ((65:Int)≤(c:Int)))
  ·
   have phb2:=oF hb2;refine lB 11 hb2 (lL hs [.m 12 11] (lG 13 ?_));exact lG 14 (lL hs [.v 15 qF,.v 16 qF,.m 2 16] (ac hs [] qF (congrArg Value.bool (decide_eq_false (by unfold gj;omega)).symm)))
  have phb2:=oT hb2;refine lB 11 hb2 (lL hs [.m 12 11,.m 13 0] ?_);cases hb3:(decide ((c:Int)≤(90:Int)))
  ·
   have phb3:=oF hb3;exact lB 14 hb3 (lL hs [.v 15 qF,.v 16 qF,.m 2 16] (ac hs [] qF (congrArg Value.bool (decide_eq_false (by unfold gj;omega)).symm)))
  have phb3:=oT hb3;exact lB 14 hb3 (lL hs [.v 15 qT,.v 16 qT,.m 2 16] (ac hs [] qT (congrArg Value.bool (decide_eq_true (by unfold gj;omega)).symm)))
 have phb1:=oT hb1;refine lB 4 hb1 (lL hs [.m 5 4,.m 6 0] ?_);cases hb4:(decide ((c:Int)≤(122:Int)))
 ·
  have phb4:=oF hb4;refine lB 7 hb4 (lL hs [.v 8 qF,.m 9 8,.m 10 0] ?_);have ⟨hb5,phb5⟩:=dT (p:=(65:Int)≤(c:Int)) oM;refine lB 11 hb5 (lL hs [.m 12 11,.m 13 0] ?_);have ⟨hb6,phb6⟩:=dF (p:=(c:Int)≤(90:Int)) oM;exact lB 14 hb6 (lL hs [.v 15 qF,.v 16 qF,.m 2 16] (ac hs [] qF (congrArg Value.bool (decide_eq_false (by unfold gj;omega)).symm)))
 have phb4:=oT hb4;refine lB 7 hb4 (lL hs [.v 8 qT,.m 9 8] (lG 10 ?_));exact lG 11 (lG 12 (lG 13 (lG 14 (lG 15 (lL hs [.v 16 qT,.m 2 16] (ac hs [] qT (congrArg Value.bool (decide_eq_true (by unfold gj;omega)).symm)))))))
theorem fJ (c:Nat)(hc:c<256)(w:World)(h:Hp)(g:G w h):CV 50 #[.int .u8 (c:Nat)] w h (.bool (decide (48≤(c)∧(c)≤57))):=by
 have hs:=sS g;refine go Tryz.func50 [(0,.int .u8 (c:Nat))] rfl (aa hs [.v 2 qF] (aG (lL hs [.m 3 0] ?_)));cases hb1:(decide ((48:Int)≤(c:Int)))
 ·
  have phb1:=oF hb1;refine lB 4 hb1 (lL hs [.m 5 4] (lG 6 ?_));exact lG 7 (lL hs [.v 8 qF,.m 2 8] (ac hs [] qF (congrArg Value.bool (decide_eq_false oM).symm)))
 have phb1:=oT hb1;refine lB 4 hb1 (lL hs [.m 5 4,.m 6 0] ?_);cases hb2:(decide ((c:Int)≤(57:Int)))
 ·
  have phb2:=oF hb2;exact lB 7 hb2 (lL hs [.v 8 qF,.m 2 8] (ac hs [] qF (congrArg Value.bool (decide_eq_false oM).symm)))
 have phb2:=oT hb2;exact lB 7 hb2 (lL hs [.v 8 qT,.m 2 8] (ac hs [] qT (congrArg Value.bool (decide_eq_true oM).symm)))
theorem jL (c:Nat)(hc:c<256)(w:World)(h:Hp)(g:G w h):CV 26 #[.int .u8 (c:Nat)] w h (.bool (decide (pQ (c)))):=by
 have hs:=sS g;refine go Tryz.func26 [(0,.int .u8 (c:Nat))] rfl (aa hs [.v 2 qF] (aG (lL hs [.m 3 0] (ag 4 hs (gC c hc _ _ hs.g) (fun w1 h2 hs=>?_)))));cases hb3:(decide (gj (c)))
 ·
  have phb3:=oF hb3;refine lL hs [.m 5 4,.m 6 0] (ag 7 hs (fJ c hc _ _ hs.g) (fun w4 h5 hs=>?_));cases hb6:(decide (48≤(c)∧(c)≤57))
  ·
   have phb6:=oF hb6;refine lL hs [.v 8 qF,.m 9 8,.m 10 0] ?_;cases hb7:((c:Int) == (95:Int))
   ·
    have phb7:=ai hb7;exact lB 11 hb7 (lL hs [.v 12 qF,.m 2 12] (ac hs [] qF (congrArg Value.bool (decide_eq_false (by unfold gj at *;unfold pQ;omega)).symm)))
   have phb7:=eq_of_beq hb7;exact lB 11 hb7 (lL hs [.v 12 qT,.m 2 12] (ac hs [] qT (congrArg Value.bool (decide_eq_true (by unfold gj at *;unfold pQ;omega)).symm)))
  have phb6:=oT hb6;refine lL hs [.v 8 qT,.m 9 8] (lG 10 ?_);exact lG 11 (lL hs [.v 12 qT,.m 2 12] (ac hs [] qT (congrArg Value.bool (decide_eq_true (by unfold gj at *;unfold pQ;omega)).symm)))
 have phb3:=oT hb3;refine lL hs [.m 5 4] (lG 6 ?_);refine lG 7 (lL hs [.v 8 qT,.m 9 8] (lG 10 ?_));exact lG 11 (lL hs [.v 12 qT,.m 2 12] (ac hs [] qT (congrArg Value.bool (decide_eq_true (by unfold gj at *;unfold pQ;omega)).symm)))
theorem kw  (w:World)(h:Hp)(g:G w h):CR 27 #[] w h (fun v h1=>∃ b,v=.map (some b)∧MapS h1 b fl):=by
 have hs:=sS g;refine go Tryz.func27 [] rfl (aa hs [.v 0 (.map none)] (aG (E2 1 hs (fun b1 w2 h3 hs hmp4=>CQ 77 9 3 (⟨#[97,98,115]⟩) (iV 9) hs hmp4 (fun w5 hs hmp6=>CQ 77 9 3 (⟨#[114,97,109,112]⟩) (iV 10) hs hmp6 (fun w7 hs hmp8=>CQ 77 9 3 (⟨#[98,101,110,100]⟩) (iV 11) hs hmp8 (fun w9 hs hmp10=>CQ 77 9 3 (⟨#[109,97,120]⟩) (iV 12) hs hmp10 (fun _ hs hmp12=>CQ 77 9 3 (⟨#[109,105,110]⟩) (iV 13) hs hmp12 (fun _ hs hmp14=>lL hs [.m 2 1] ?_)))))))));obtain ⟨_,hs,sg16⟩:=hs.pubMap hmp14;replace hs:=hs.to [] [];replace hs:=hs.add (K:=fun h_=>MapS h_ b1 [⟨.string (⟨#[97,98,115]⟩),iV 9,0⟩,⟨.string (⟨#[114,97,109,112]⟩),iV 10,1⟩,⟨.string (⟨#[98,101,110,100]⟩),iV 11,2⟩,⟨.string (⟨#[109,97,120]⟩),iV 12,3⟩,⟨.string (⟨#[109,105,110]⟩),iV 13,4⟩]) sg16;exact lL hs [.m 0 2] (ac hs [] (.map (some b1)) (⟨_,rfl,hs.f.1⟩))
theorem pn (s:ByteArray)(hs:s.size≤1000000)(w:World)(h:Hp)(g:G w h):CV 11 #[.string s] w h (.bool (bg s)):=by
 have hs:=sS g;refine go Tryz.func11 [(0,.string s)] rfl (aa hs [.v 2 qF] (af (aa hs [.m 6 0,.v 7 (nV s.size)] ?_)));cases hb1:(decide ((s.size:Int)<(1:Int)))
 ·
  have phb1:=oF hb1;refine lB 8 hb1 (lL hs [.m 9 8,.m 10 0,.v 11 (nV s.size)] ?_);cases hb2:(decide ((20:Int)<(s.size:Int)))
  ·
   have phb2:=oF hb2;refine lB 12 hb2 (lL hs [.v 13 qF,.m 14 13,.m 15 0] (lV 16 (.int .u8 (ax s 0:Nat)) ?_ (hr:=cj (tx:=9) (x:=.tmp 15) (i:=.const (iV 0)) (k:=.i64) (s:=s) (n:=0) (j:=(0:Int)) kR kR kR kR oM oM _)));refine ag 17 hs (gC ((ax s 0)) (bS _ _) _ _ hs.g) (fun w3 h4 hs=>?_);cases hb5:(decide (gj ((ax s 0))))
   ·
    have phb5:=oF hb5;exact lL hs [.v 18 qT,.v 19 qT] (ao (aa hs [.v 2 qF] (ac hs [] qF (rB (fun h_=>by have h1_:=h_.1;have h2_:=h_.2.1;first|omega|exact absurd h_.2.2 aM)))))
   have phb5:=oT hb5;refine lL hs [.v 18 qF,.v 19 qF] (ah (cK (cQ (aa hs [.m 20 0,.v 21 (nV s.size),.v 22 (iV 0)] (bn ?_)))));refine bQ _ (CG.loop (fun μ_ Γ w_=>∃ (k:Nat) (h_:Hp),μ_=s.size-k∧Γ=[(0,.string s),(21,nV s.size),(22,nV k)]∧SS w h w_ h_ [] [] []∧k≤s.size∧(∀ i,i<k→pQ (ax s i))) _ ⟨0,h4,rfl,rfl,hs.to _ _,Nat.zero_le _,(fun i hi=>absurd hi (Nat.not_lt_zero i))⟩ ?_);rintro _ _ w6 ⟨k,h7,hm8,rfl,hs,hk,hin⟩;refine aE ?_;cases hb9:(decide ((k:Int)<(s.size:Int)))
   ·
    have phb9:=oF hb9;refine lB 23 hb9 (af (cw (CG.exit ?_)))
    show CG _ _ _ _ _ _ _ _
    refine aE (lC 32 hs (kw _ _ hs.g) ?_);rintro _ _ _ hs ⟨bm,rfl,hcm⟩;replace hs:=(hs.add (K:=fun h_=>MapS h_ bm fl) hcm);refine lL hs [.m 33 0] (DH 34 77 9 3 (s) true (iV (da s)) ((bU s)) hs hs.f.1 ?_ (hf:=(by rcases kr s with ⟨i_,e1_,e2_⟩|⟨e1_,e2_,e3_⟩;exact .inl ⟨i_,e1_,e2_⟩;exact .inr ⟨e1_,e2_,fun _=>by rw[e3_];kernel_rfl⟩)));refine lL hs [.m 31 34,.v 35 (iV (da s)),.v 36 (.bool (bU s)),.m 4 35,.m 5 36] (aG (lL hs [.m 37 5] ?_));cases za:(!(bU s))
    ·
     refine lB 38 za (lL hs [.m 2 38] (lN (kX ?_)));have hq_:=B2 (s:=s) ⟨by omega,by omega⟩ aM (fun i hi=>hin i oM);exact hs.ret [] qF (congrArg Value.bool (by rw[hq_];exact (by assumption:(!bU s)=false).symm))
    refine lB 38 za (lL hs [.m 2 38] (lN (kX ?_)));have hq_:=B2 (s:=s) ⟨by omega,by omega⟩ aM (fun i hi=>hin i oM);exact hs.ret [] qT (congrArg Value.bool (by rw[hq_];exact (by assumption:(!bU s)=true).symm))
   have phb9:=oT hb9;refine lB 23 hb9 (af (ce (cK (cQ (kZ (aa hs [.m 24 22,.m 3 24] (aG (lL hs [.m 25 0,.m 26 3] (lV 27 (.int .u8 (ax s k:Nat)) ?_ (hr:=cj (tx:=9) (x:=.tmp 25) (i:=.tmp 26) (k:=.i64) (s:=s) (n:=k) (j:=(k:Int)) kR kR kR kR oM oM _))))))))));refine ag 28 hs (jL ((ax s k)) (bS _ _) _ _ hs.g) (fun _ zd hs=>?_);cases zb:(decide (pQ ((ax s k))))
   ·
    have zc:=oF zb;exact lL hs [.v 29 qT] (ao (aa hs [.v 2 qF] (ac hs [] qF (CK (i:=k) oM aM))))
   have zc:=oT zb;refine lL hs [.v 29 qF] (ah (cK (kQ (bH 30 ((k:Nat)+1) (k+1) ?_))));refine lL hs [.m 22 30] (lD ?_);intro a_ ka;refine ⟨_,_,?_,⟨k+1,zd,rfl,rfl,hs.to _ _,oM,(fun i hi=>by rcases Nat.lt_succ_iff_lt_or_eq.1 hi with h_|rfl;exact hin i h_;assumption)⟩,ka.to _ kR⟩
   omega
  have phb2:=oT hb2;refine lB 12 hb2 (lL hs [.v 13 qT,.m 14 13] (lG 15 ?_));exact lG 16 (lG 17 (lG 18 (lL hs [.v 19 qT] (ao (aa hs [.v 2 qF] (ac hs [] qF (rB (fun h_=>by have h1_:=h_.1;have h2_:=h_.2.1;first|omega|exact absurd h_.2.2 aM))))))))
 have phb1:=oT hb1;refine lB 8 hb1 (lL hs [.m 9 8] (lG 10 ?_));refine lG 11 (lG 12 (lL hs [.v 13 qT,.m 14 13] (lG 15 ?_)));exact lG 16 (lG 17 (lG 18 (lL hs [.v 19 qT] (ao (aa hs [.v 2 qF] (ac hs [] qF (rB (fun h_=>by have h1_:=h_.1;have h2_:=h_.2.1;first|omega|exact absurd h_.2.2 aM))))))))
theorem rd {α:Type}{l:List α}{d x:α}{k i:Nat}(hk:k<l.length):(l.set k x).getD i d=if i=k then x else l.getD i d:=by
 rw[List.getD_eq_getElem?_getD,List.getElem?_set]
 by_cases e:k=i
 ·subst e;rw[if_pos rfl,if_pos hk,if_pos rfl];rfl
 ·rw[if_neg e,if_neg (fun h=>e h.symm),←List.getD_eq_getElem?_getD]
def TmsU (d:Nat)(h:Hp)(k:Nat)(ps:List PTm)(ts:List Tm):Prop:=∀ i,i<k→TmH d h (ps.getD i ar) (ts.getD i ca)
theorem TmsU.gw {d:Nat}{h h':Hp}{k:Nat}{ps:List PTm}{ts:List Tm}(x:TmsU d h k ps ts)(u:Gw h h'):TmsU d h' k ps ts:=fun i hi=>(x i hi).gw u
theorem TmsU.set {d:Nat}{h:Hp}{k:Nat}{ps:List PTm}{ts:List Tm}{p:PTm}(x:TmsU d h k ps ts)(hk:k<ps.length)(y:TmH d h p (ts.getD k ca)):TmsU d h (k+1) (ps.set k p) ts:=fun i hi=>by
 rw[rd hk]
 by_cases e:i=k
 ·subst e;rw[if_pos rfl];exact y
 ·rw[if_neg e];exact x i oM
theorem Tms.of_u {d:Nat}{h:Hp}{k:Nat}{ps:List PTm}{ts:List Tm}(hl:ps.length=ts.length)(hk:ts.length≤k)(x:TmsU d h k ps ts):Tms d h ps ts:=⟨hl,fun i hi=>x i oM⟩
theorem pL (f:Nat→Nat){a b:Nat}(h:a≤b):fG f a≤fG f b:=by
 induction h with
 | refl=>exact Nat.le_refl _
 | step _ ih=>exact Nat.le_trans ih (Nat.le_add_right _ _)
def fj (op n:Int):Nat:=if op=11 then 2 else if op=8 then cd n else 1
theorem cg (op n:Int):1≤fj op n:=by
 unfold fj cd
 split
 ·omega
 ·split
  ·split<;>omega
  ·omega
theorem kl {d:Nat}{op n:Int}{q:Rat}{s:ByteArray}{ks:List Tm}(h:ks.length=0):ba (d+1) (.mk op n q s ks)=1:=if_pos h
theorem iM {d:Nat}{op n:Int}{q:Rat}{s:ByteArray}{ks:List Tm}(h:ks.length≠0):ba (d+1) (.mk op n q s ks)=fj op n*fG (fun i=>ba d (ks.getD i ca)) ks.length:=if_neg h
theorem mU {d:Nat}{op n:Int}{q:Rat}{s:ByteArray}{ks:List Tm}(h:ks.length≠0):fG (fun i=>ba d (ks.getD i ca)) ks.length≤ba (d+1) (.mk op n q s ks):=by
 rw[iM h];exact Nat.le_mul_of_pos_left _ (cg op n)
theorem js {m s:Nat}(h:1≤m):min (m*min s 1001) 1001=min (m*s) 1001:=by
 rcases Nat.le_total s 1001 with e|e
 ·rw[Nat.min_eq_left e]
 ·rw[Nat.min_eq_right e,Nat.min_eq_right (Nat.le_trans e (Nat.le_mul_of_pos_left _ h)),Nat.min_eq_right (Nat.le_mul_of_pos_left _ h)]
theorem nX (op:Int)(w:World)(h:Hp)(g:G w h):CV 54 #[iV op] w h (iV (eF op)):=by
 have hs:=sS g;refine go Tryz.func54 [(0,iV op)] rfl (aa hs [.v 2 (iV 0)] (af (aa hs [.m 3 0] (bn (cQ (aE ?_))))));cases hb1:((op:Int) == (1:Int))
 ·
  have phb1:=ai hb1;refine lB 5 hb1 (lL hs [.m 4 5] (ah (kQ ?_)));cases hb2:((op:Int) == (2:Int))
  ·
   have phb2:=ai hb2;refine lB 6 hb2 (lL hs [.m 4 6] (ah (cQ (aE ?_))));cases hb3:((op:Int) == (7:Int))
   ·
    have phb3:=ai hb3;refine lB 8 hb3 (lL hs [.m 7 8] (ah (aE ?_)));cases hb4:((op:Int) == (8:Int))
    ·
     have phb4:=ai hb4;refine lB 9 hb4 (lL hs [.m 7 9] (ah (aE ?_)));cases hb5:((op:Int) == (9:Int))
     ·
      have phb5:=ai hb5;refine lB 10 hb5 (lL hs [.m 7 10] (ah (aE ?_)));cases hb6:((op:Int) == (10:Int))
      ·
       have phb6:=ai hb6;refine lB 11 hb6 (lL hs [.m 7 11] (ah (kQ ?_)));cases hb7:((op:Int) == (11:Int))
       ·
        have phb7:=ai hb7;refine lB 12 hb7 (lL hs [.m 7 12] (ah (cQ (aE ?_))));cases hb8:((op:Int) == (3:Int))
        ·
         have phb8:=ai hb8;refine lB 14 hb8 (lL hs [.m 13 14] (ah (aE ?_)));cases hb9:((op:Int) == (4:Int))
         ·
          have phb9:=ai hb9;refine lB 15 hb9 (lL hs [.m 13 15] (ah (aE ?_)));cases za:((op:Int) == (5:Int))
          ·
           have ze:=ai za;refine lB 16 za (lL hs [.m 13 16] (ah (aE ?_)));cases zb:((op:Int) == (6:Int))
           ·
            have zf:=ai zb;refine lB 17 zb (lL hs [.m 13 17] (ah (aE ?_)));cases zc:((op:Int) == (12:Int))
            ·
             have zg:=ai zc;refine lB 18 zc (lL hs [.m 13 18] (ah (kQ ?_)));cases zd:((op:Int) == (13:Int))
             ·
              have zi:=ai zd;exact lB 19 zd (lL hs [.m 13 19] (ah (cK (aa hs [.v 2 (iV (-1))] (ac hs [] (iV (-1)) (congrArg (Value.int .i64) (by have:=aT op;omega)))))))
             have zi:=eq_of_beq zd;exact lB 19 zd (lL hs [.m 13 19] (ao (aa hs [.v 2 (iV 2)] (ac hs [] (iV 2) (congrArg (Value.int .i64) (by have:=aT op;omega))))))
            have zg:=eq_of_beq zc;exact lB 18 zc (lL hs [.m 13 18] (ao (cK (ce (aa hs [.v 2 (iV 2)] (ac hs [] (iV 2) (congrArg (Value.int .i64) (by have:=aT op;omega))))))))
           have zf:=eq_of_beq zb;exact lB 17 zb (lL hs [.m 13 17] (ao (cK (ce (aa hs [.v 2 (iV 2)] (ac hs [] (iV 2) (congrArg (Value.int .i64) (by have:=aT op;omega))))))))
          have ze:=eq_of_beq za;exact lB 16 za (lL hs [.m 13 16] (ao (cK (ce (aa hs [.v 2 (iV 2)] (ac hs [] (iV 2) (congrArg (Value.int .i64) (by have:=aT op;omega))))))))
         have phb9:=eq_of_beq hb9;exact lB 15 hb9 (lL hs [.m 13 15] (ao (cK (ce (aa hs [.v 2 (iV 2)] (ac hs [] (iV 2) (congrArg (Value.int .i64) (by have:=aT op;omega))))))))
        have phb8:=eq_of_beq hb8;exact lB 14 hb8 (lL hs [.m 13 14] (ao (cK (ce (aa hs [.v 2 (iV 2)] (ac hs [] (iV 2) (congrArg (Value.int .i64) (by have:=aT op;omega))))))))
       have phb7:=eq_of_beq hb7;exact lB 12 hb7 (lL hs [.m 7 12] (ao (aa hs [.v 2 (iV 1)] (ac hs [] (iV 1) (congrArg (Value.int .i64) (by have:=aT op;omega))))))
      have phb6:=eq_of_beq hb6;exact lB 11 hb6 (lL hs [.m 7 11] (ao (cK (ce (aa hs [.v 2 (iV 1)] (ac hs [] (iV 1) (congrArg (Value.int .i64) (by have:=aT op;omega))))))))
     have phb5:=eq_of_beq hb5;exact lB 10 hb5 (lL hs [.m 7 10] (ao (cK (ce (aa hs [.v 2 (iV 1)] (ac hs [] (iV 1) (congrArg (Value.int .i64) (by have:=aT op;omega))))))))
    have phb4:=eq_of_beq hb4;exact lB 9 hb4 (lL hs [.m 7 9] (ao (cK (ce (aa hs [.v 2 (iV 1)] (ac hs [] (iV 1) (congrArg (Value.int .i64) (by have:=aT op;omega))))))))
   have phb3:=eq_of_beq hb3;exact lB 8 hb3 (lL hs [.m 7 8] (ao (cK (ce (aa hs [.v 2 (iV 1)] (ac hs [] (iV 1) (congrArg (Value.int .i64) (by have:=aT op;omega))))))))
  have phb2:=eq_of_beq hb2;exact lB 6 hb2 (lL hs [.m 4 6] (ao (aa hs [.v 2 (iV 0)] (ac hs [] (iV 0) (congrArg (Value.int .i64) (by have:=aT op;omega))))))
 have phb1:=eq_of_beq hb1;exact lB 5 hb1 (lL hs [.m 4 5] (ao (cK (ce (aa hs [.v 2 (iV 0)] (ac hs [] (iV 0) (congrArg (Value.int .i64) (by have:=aT op;omega))))))))
theorem Bd (n:Int)(h0 : -12≤n)(h1:n≤12)(w:World)(h:Hp)(g:G w h):CV 55 #[iV n] w h (nV (cd n)):=by
 have hs:=sS g;refine go Tryz.func55 [(0,iV n)] rfl (aa hs [.v 2 (iV 0)] (af (aa hs [.m 3 0] ?_)));cases hb1:(decide ((n:Int)≤(-1073741824:Int)))
 ·
  have phb1:=oF hb1;refine lB 4 hb1 (lL hs [.m 5 4,.m 6 0] ?_);cases hb2:(decide ((1073741824:Int)≤(n:Int)))
  ·
   have phb2:=oF hb2;refine lB 7 hb2 (lL hs [.v 8 qF] (ah (cK (aa hs [.m 9 0,.m 10 0] (lI 11 (0-n) ?_)))));refine lV 12 (iV (max (max (n:Int) (0-n:Int)) (1:Int))) ?_ (hr:=aU (n:=(if (1:Int)>(if (0-n:Int)>(n:Int) then (0-n:Int) else (n:Int)) then (1:Int) else (if (0-n:Int)>(n:Int) then (0-n:Int) else (n:Int)))) kR (by simp only[oO]));exact lL hs [.m 2 12] (ac hs [] (iV (max (max (n:Int) (0-n:Int)) (1:Int))) (congrArg (Value.int .i64) (by unfold cd;(repeat' split)<;>omega)))
  have phb2:=oT hb2;exact lB 7 hb2 (lL hs [.v 8 qT] (ao (aa hs [.v 2 (iV 1073741824)] (ac hs [] (iV 1073741824) (congrArg (Value.int .i64) (by unfold cd;(repeat' split)<;>omega))))))
 have phb1:=oT hb1;refine lB 4 hb1 (lL hs [.m 5 4] (lG 6 ?_));exact lG 7 (lL hs [.v 8 qT] (ao (aa hs [.v 2 (iV 1073741824)] (ac hs [] (iV 1073741824) (congrArg (Value.int .i64) (by unfold cd;(repeat' split)<;>omega))))))
theorem sJ  (sm:ByteArray→Prop)(d:Nat)(ih:∀ (p:PTm) (t:Tm) (most:Int) (w:World) (h:Hp),G w h→TmH d h p t→lr sm d t→(d:Int)≤most→most≤1000→Calls Tryz.prog 30 #[aF p,iV most] w (Ret w h (fun v _=>v=.bool false)))(op n:Int)(q:Rat)(s:ByteArray)(A:Option Addr)(c:Nat)(ps:List PTm)(ks:List Tm)(hc:ps.length≤c)(hlp:ps.length≤3)(hk3:ks.length≤3)(hop : -1000≤op∧op≤1000)(hn : -1000≤n∧n≤1000)(hq:LQ 3000 q)(hsm:sm s)(hW:∀ i,i<ks.length→lr sm d (ks.getD i ca))(most:Int)(hm:((d+1:Nat):Int)≤most)(hm2:most≤1000)(w:World)(h:Hp)(g:G w h)(hK:SlO 9 aK ar h A ps)(hKs:Tms d h ps ks):CV 30 #[pW op n q s A ps.length c,iV most] w h (.bool false):=by
 have hs:=(((sS g).aS hK).add (K:=fun h_=>Tms d h_ ps ks) hKs);have hln:=(hs.f.1).len;refine go Tryz.func30 [(0,pW op n q s A ps.length c),(1,iV most)] rfl (aE (lA 2 31 (pG op n q s A ps.length c) hs (fun b1 w2 h3 hs=>lL hs [.v 4 qF] (af (aa hs [.m 7 1] ?_)))));cases hb4:(decide ((most:Int)<(1:Int)))
 ·
  have phb4:=oF hb4;refine lB 8 hb4 (ah (cK (cQ (aa hs [.v 9 (qP b1 8),.o 10 (qS A ps.length c) 0 8 1,.v 11 (nV ps.length),.v 12 (iV 0)] (bn ?_)))));refine bQ _ (CG.loop (fun μ_ Γ w_=>∃ (k:Nat) (h_:Hp),μ_=ps.length-k∧Γ=[(1,iV most),(10,qS A ps.length c),(11,nV ps.length),(12,nV k)]∧SS w h w_ h_ [⟨b1,31,pG op n q s A ps.length c⟩] [] [fun h_=>Tms d h_ ps ks,fun h_=>SlO 9 aK ar h_ A ps]∧k≤ps.length) _ ⟨0,h3,rfl,rfl,hs.to _ _,Nat.zero_le _⟩ ?_);rintro _ _ w5 ⟨k,h6,hm7,rfl,hs,hk⟩;refine aE ?_;cases hb8:(decide ((k:Int)<(ps.length:Int)))
  ·
   have phb8:=oF hb8;refine lB 13 hb8 (af (cw (CG.exit ?_)))
   show CG _ _ _ _ _ _ _ _
   exact aa hs [.v 4 qF] (ac hs [] qF rfl)
  have phb8:=oT hb8;refine lB 13 hb8 (af (ce (cK (cQ (kZ (aE (lX 14 A ps.length c 9 (k:Nat) k ((hs.f.2.1).ok oM) ?_)))))));refine lH 15 (aF (ps.getD k ar)) hs ((hs.f.2.1).el k oM) (lA 6 31 ([iV 0,iV 0,qF,uV 0,eS,uV 0,eS,eS,sZ]) hs (fun b9 _ _ hs=>lP 0 0 (aK (ps.getD k ar)) hs (fun _ hs=>aG (lL hs [.o 16 (aF (ps.getD k ar)) 0 0 9,.m 17 1] (lI 18 (most-1) ?_)))));refine ag 19 hs (ih (ps.getD k ar) (ks.getD k ca) (most-1) _ _ hs.g ((hs.f.1).at_ k oM) (hW k oM) oM oM) (fun _ za hs=>ah (cK (kQ (bH 20 ((k:Nat)+1) (k+1) ?_))));refine lL hs [.m 12 20] (lD ?_);intro a_ ka;replace hs:=hs.drop 1 0;refine ⟨_,_,?_,⟨k+1,za,rfl,rfl,hs.to _ _,oM⟩,ka.to _ kR⟩
  omega
 have phb4:=oT hb4;refine lB 8 hb4 (ao (aa hs [.v 4 qT] (lN (kX ?_))))
 exfalso;omega
theorem oR (sm:ByteArray→Prop):∀ (d:Nat) (p:PTm) (t:Tm) (most:Int) (w:World) (h:Hp),G w h→TmH d h p t→lr sm d t→(d:Int)≤most→most≤1000→Calls Tryz.prog 30 #[aF p,iV most] w (Ret w h (fun v _=>v=.bool false))
  | 0,_,_,_,_,_,_,x,_,_,_=>x.elim
  | d+1,p,t,most,w,h,g,x,wf,hm,hm2=>by
    obtain ⟨op,n,q,s,A,c,ps,ks,rfl,rfl,hc,hK,hKs⟩:=x.open;obtain ⟨s1,s2,s3,s4,s5,s6⟩:=wf;have s1_:ks.length≤3:=s1;exact sJ sm d (fun p t most w h=>oR sm d p t most w h) op n q s A c ps ks hc (by have:=hKs.len;omega) s1 s2 s3 s4 s5 s6 most hm hm2 w h g hK hKs
theorem qN  (isb:ByteArray→Bool)(sm:ByteArray→Prop)(pF:∀ s,sm s→∀ (w:World) (h:Hp),G w h→Calls Tryz.prog 11 #[.string s] w (Ret w h (fun v _=>∃ b,v=.bool b∧b=isb s)))(d:Nat)(ih:∀ (p:PTm) (t:Tm) (w:World) (h:Hp),G w h→TmH d h p t→lr sm d t →  Calls Tryz.prog 31 #[aF p] w (Ret w h (fun v _=>∃ bb,v=.bool bb∧(bb=true↔WfT (fun s=>isb s=true) d t))))(op n:Int)(q:Rat)(s:ByteArray)(A:Option Addr)(c:Nat)(ps:List PTm)(ks:List Tm)(hc:ps.length≤c)(hlp:ps.length≤3)(hk3:ks.length≤3)(hop : -1000≤op∧op≤1000)(hn : -1000≤n∧n≤1000)(hq:LQ 3000 q)(hsm:sm s)(hW:∀ i,i<ks.length→lr sm d (ks.getD i ca))(w:World)(h:Hp)(g:G w h)(hK:SlO 9 aK ar h A ps)(hKs:Tms d h ps ks):CR 31 #[pW op n q s A ps.length c] w h (fun v _=>∃ bb,v=.bool bb∧(bb=true↔WfT (fun s=>isb s=true) (d+1) (.mk op n q s ks))):=by
 have hs:=(((sS g).aS hK).add (K:=fun h_=>Tms d h_ ps ks) hKs);have hln:=(hs.f.1).len;have hsg:q.num.sign=0↔q.num=0:=Int.sign_eq_zero_iff_zero;refine go Tryz.func31 [(0,pW op n q s A ps.length c)] rfl (aE (lA 1 31 (pG op n q s A ps.length c) hs (fun b1 w2 h3 hs=>lL hs [.v 2 qF] (af (cQ (cR 7 [] mixed hs av ?_))))));refine eV 0 5 (pB b1) (eO 1 6 [(0,0,1)] (iV op) hs (eV 3 8 (qP b1 8) (eO 4 9 [(0,8,1)] (qS A ps.length c) hs (eV 5 10 (nV ps.length) (aq 2 7 hs (fun _ _ hs=>nX op _ _ hs.g) (fun w4 h5 hs=>?_))))));cases hb6:((eF op:Int) != (ps.length:Int))
 ·
  have phb6:=az hb6;refine eB 6 11 hb6 (cC hs (fun w7 h8 hs=>?_));refine tN (cw (cK (cQ (CG.join (fun Γ w_=>∃ (zm:Bool) (h_:Hp),Γ=[(1,pB b1),(2,qF),(20,.bool zm)]∧SS w h w_ h_ [⟨b1,31,pG op n q s A ps.length c⟩] [] [fun h_=>Tms d h_ ps ks,fun h_=>SlO 9 aK ar h_ A ps]∧(zm=true→¬(op=1∨q.num=0))∧(zm=false→(op=1∨q.num=0))) ?_ ?_))))
  ·
   refine kQ (lL hs [.v 12 (pB b1),.o 13 (iV op) 0 0 1] ?_);cases hb9:((op:Int) != (1:Int))
   ·
    have phb9:=az hb9;refine lB 14 hb9 (lL hs [.m 15 14] (lG 16 ?_));refine lG 17 (lG 18 (lG 19 (lL hs [.v 20 qF] (lD ?_))));intro a_ ka;exact ⟨_,⟨false,h8,rfl,hs.to _ _,(fun h_=>absurd h_ kD),(fun _=>by omega)⟩,ka.to _ kR⟩
   have phb9:=aY hb9;refine lB 14 hb9 (lL hs [.m 15 14,.v 16 (qP b1 2),.o 17 (qv q) 0 2 5] (ag 18 hs (gQ q (hq.mono oM) _ _ hs.g) (fun _ zD hs=>?_)));cases za:((q.num.sign:Int) != (0:Int))
   ·
    have zs:=az za;refine lB 19 za (lL hs [.v 20 qF] (lD ?_));intro a_ ka;exact ⟨_,⟨false,zD,rfl,hs.to _ _,(fun h_=>absurd h_ kD),(fun _=>by omega)⟩,ka.to _ kR⟩
   have zs:=aY za;refine lB 19 za (lL hs [.v 20 qT] (lD ?_));intro a_ ka;exact ⟨_,⟨true,zD,rfl,hs.to _ _,(fun _=>by omega),(fun h_=>absurd h_ kD)⟩,ka.to _ kR⟩
  rintro _ _ ⟨zm,zE,rfl,hs,zH,hF20⟩;cases zb:(zm)
  ·
   try rw[zb] at hs
   try rw[zb]
   refine cw (cK (cQ (CG.join (fun Γ w_=>∃ (zn:Bool) (h_:Hp),Γ=[(1,pB b1),(2,qF),(39,.bool zn)]∧SS w h w_ h_ [⟨b1,31,pG op n q s A ps.length c⟩] [] [fun h_=>Tms d h_ ps ks,fun h_=>SlO 9 aK ar h_ A ps]∧(zn=true→¬((op=2→isb s=true)∧(op≠2→s=⟨#[]⟩)))∧(zn=false→((op=2→isb s=true)∧(op≠2→s=⟨#[]⟩)))) ?_ ?_)))
   ·
    refine kQ (lL hs [.v 21 (pB b1),.o 22 (iV op) 0 0 1] ?_);cases zc:((op:Int) == (2:Int))
    ·
     have zt:=ai zc;refine lB 23 zc (lL hs [.m 24 23] (lG 25 ?_));refine lG 26 (lG 27 (lG 28 (lL hs [.v 29 qF,.m 30 29,.v 31 (pB b1),.o 32 (iV op) 0 0 1] ?_)));have zq:((op:Int) != (2:Int))=true:=DT oM;have phb23:=aY zq;refine lB 33 zq (lL hs [.m 34 33,.v 35 (qP b1 7),.o 36 (.string s) 0 7 1] ?_);cases zd:(l5 s (⟨#[]⟩))
     ·
      have zu:=wn zd;refine lB 37 zd (lL hs [.v 38 qF,.v 39 qF] (lD ?_));intro a_ ka;exact ⟨_,⟨false,zE,rfl,hs.to _ _,(fun h_=>absurd h_ kD),(fun _=>⟨fun h_=>by first|exact hbi.symm.trans aM|exact absurd h_ oM,fun h_=>by first|assumption|exact absurd h_ oM⟩)⟩,ka.to _ kR⟩
     have zu:=vA zd;refine lB 37 zd (lL hs [.v 38 qT,.v 39 qT] (lD ?_));intro a_ ka;exact ⟨_,⟨true,zE,rfl,hs.to _ _,(fun _ h_=>by first|exact Bool.noConfusion ((h_.1 oM).symm.trans (hbi.symm.trans aM))|exact absurd (h_.2 oM) aM),(fun h_=>absurd h_ kD)⟩,ka.to _ kR⟩
    have zt:=eq_of_beq zc;refine lB 23 zc (lL hs [.m 24 23,.v 25 (qP b1 7),.o 26 (.string s) 0 7 1] (lC 27 hs (pF s hsm _ _ hs.g) ?_));rintro _ _ zG hs ⟨bi,rfl,hbi⟩;cases hb31:(bi)
    ·
     refine lL hs [.v 28 qT,.v 29 qT,.m 30 29] (lG 31 ?_);refine lG 32 (lG 33 (lG 34 (lG 35 (lG 36 (lG 37 (lG 38 (lL hs [.v 39 qT] (lD ?_))))))));intro a_ ka;exact ⟨_,⟨true,zG,rfl,hs.to _ _,(fun _ h_=>by first|exact Bool.noConfusion ((h_.1 oM).symm.trans (hbi.symm.trans aM))|exact absurd (h_.2 oM) aM),(fun h_=>absurd h_ kD)⟩,ka.to _ kR⟩
    refine lL hs [.v 28 qF,.v 29 qF,.m 30 29,.v 31 (pB b1),.o 32 (iV op) 0 0 1] ?_;have zr:((op:Int) != (2:Int))=false:=EF oM;have phb34:=az zr;refine lB 33 zr (lL hs [.m 34 33] (lG 35 ?_));refine lG 36 (lG 37 (lL hs [.v 38 qF,.v 39 qF] (lD ?_)));intro a_ ka;exact ⟨_,⟨false,zG,rfl,hs.to _ _,(fun h_=>absurd h_ kD),(fun _=>⟨fun h_=>by first|exact hbi.symm.trans aM|exact absurd h_ oM,fun h_=>by first|assumption|exact absurd h_ oM⟩)⟩,ka.to _ kR⟩
   rintro _ _ ⟨zn,zo,rfl,hs,zI,hF39⟩;cases ze:(zn)
   ·
    try rw[ze] at hs
    try rw[ze]
    refine cw (cK (cQ (CG.join (fun Γ w_=>∃ (zp:Bool) (h_:Hp),Γ=[(1,pB b1),(2,qF),(57,.bool zp)]∧SS w h w_ h_ [⟨b1,31,pG op n q s A ps.length c⟩] [] [fun h_=>Tms d h_ ps ks,fun h_=>SlO 9 aK ar h_ A ps]∧(zp=true→¬((op=8∨n=0) ∧ -12≤n∧n≤12))∧(zp=false→((op=8∨n=0) ∧ -12≤n∧n≤12))) ?_ ?_)))
    ·
     refine kQ (lL hs [.v 40 (pB b1),.o 41 (iV op) 0 0 1] ?_);cases zf:((op:Int) != (8:Int))
     ·
      have zv:=az zf;refine lB 42 zf (lL hs [.m 43 42] (lG 44 ?_));refine lG 45 (lG 46 (lL hs [.v 47 qF,.m 48 47,.v 49 (qP b1 1),.o 50 (iV n) 0 1 1] ?_));cases zg:(decide ((n:Int)<(-12:Int)))
      ·
       have zw:=oF zg;refine lB 51 zg (lL hs [.v 52 qF,.m 53 52,.v 54 (qP b1 1),.o 55 (iV n) 0 1 1] ?_);cases zi:(decide ((12:Int)<(n:Int)))
       ·
        have zx:=oF zi;refine lB 56 zi (lL hs [.v 57 qF] (lD ?_));intro a_ ka;exact ⟨_,⟨false,zo,rfl,hs.to _ _,(fun h_=>absurd h_ kD),(fun _=>by omega)⟩,ka.to _ kR⟩
       have zx:=oT zi;refine lB 56 zi (lL hs [.v 57 qT] (lD ?_));intro a_ ka;exact ⟨_,⟨true,zo,rfl,hs.to _ _,(fun _=>by omega),(fun h_=>absurd h_ kD)⟩,ka.to _ kR⟩
      have zw:=oT zg;refine lB 51 zg (lL hs [.v 52 qT,.m 53 52] (lG 54 ?_));refine lG 55 (lG 56 (lL hs [.v 57 qT] (lD ?_)));intro a_ ka;exact ⟨_,⟨true,zo,rfl,hs.to _ _,(fun _=>by omega),(fun h_=>absurd h_ kD)⟩,ka.to _ kR⟩
     have zv:=aY zf;refine lB 42 zf (lL hs [.m 43 42,.v 44 (qP b1 1),.o 45 (iV n) 0 1 1] ?_);cases zj:((n:Int) != (0:Int))
     ·
      have zA:=az zj;refine lB 46 zj (lL hs [.v 47 qF,.m 48 47,.v 49 (qP b1 1),.o 50 (iV n) 0 1 1] ?_);have ⟨zJ,phb50⟩:=dF (p:=(n:Int)<(-12:Int)) oM;refine lB 51 zJ (lL hs [.v 52 qF,.m 53 52,.v 54 (qP b1 1),.o 55 (iV n) 0 1 1] ?_);have ⟨zK,phb51⟩:=dF (p:=(12:Int)<(n:Int)) oM;refine lB 56 zK (lL hs [.v 57 qF] (lD ?_));intro a_ ka;exact ⟨_,⟨false,zo,rfl,hs.to _ _,(fun h_=>absurd h_ kD),(fun _=>by omega)⟩,ka.to _ kR⟩
     have zA:=aY zj;refine lB 46 zj (lL hs [.v 47 qT,.m 48 47] (lG 49 ?_));refine lG 50 (lG 51 (lL hs [.v 52 qT,.m 53 52] (lG 54 ?_)));refine lG 55 (lG 56 (lL hs [.v 57 qT] (lD ?_)));intro a_ ka;exact ⟨_,⟨true,zo,rfl,hs.to _ _,(fun _=>by omega),(fun h_=>absurd h_ kD)⟩,ka.to _ kR⟩
    rintro _ _ ⟨zp,zM,rfl,hs,zL,hF57⟩;cases zk:(zp)
    ·
     try rw[zk] at hs
     try rw[zk]
     refine cw (cK (cQ (aa hs [.v 58 (qP b1 8),.o 59 (qS A ps.length c) 0 8 1,.v 60 (nV ps.length),.v 61 (iV 0)] (bn ?_))));refine bQ _ (CG.loop (fun μ_ Γ w_=>∃ (k:Nat) (h_:Hp),μ_=ps.length-k∧Γ=[(59,qS A ps.length c),(60,nV ps.length),(61,nV k)]∧SS w h w_ h_ [⟨b1,31,pG op n q s A ps.length c⟩] [] [fun h_=>Tms d h_ ps ks,fun h_=>SlO 9 aK ar h_ A ps]∧k≤ps.length∧(∀ i,i<k→WfT (fun s=>isb s=true) d (ks.getD i ca))) _ ⟨0,zM,rfl,rfl,hs.to _ _,Nat.zero_le _,(fun i hi=>absurd hi (Nat.not_lt_zero i))⟩ ?_);rintro _ _ _ ⟨k,_,hm61,rfl,hs,hk,hWk⟩;refine aE ?_;cases zl:(decide ((k:Int)<(ps.length:Int)))
     ·
      have zB:=oF zl;refine lB 62 zl (af (cw (CG.exit ?_)))
      show CG _ _ _ _ _ _ _ _
      exact aa hs [.v 2 qT] (ac hs [] qT (Dr ⟨by omega,hF20 aM,hF39 aM,hF57 aM⟩ hq (fun i hi=>hWk i oM)))
     have zB:=oT zl;refine lB 62 zl (af (ce (cK (cQ (kZ (aE (lX 63 A ps.length c 9 (k:Nat) k ((hs.f.2.1).ok oM) ?_)))))));refine lH 64 (aF (ps.getD k ar)) hs ((hs.f.2.1).el k oM) (lA 4 31 ([iV 0,iV 0,qF,uV 0,eS,uV 0,eS,eS,sZ]) hs (fun b63 _ _ hs=>lP 0 0 (aK (ps.getD k ar)) hs (fun _ hs=>aG (lL hs [.o 65 (aF (ps.getD k ar)) 0 0 9] (lC 66 hs (ih (ps.getD k ar) (ks.getD k ca) _ _ hs.g ((hs.f.1).at_ k oM) (hW k oM)) ?_)))));rintro _ _ zN hs ⟨bk,rfl,hbk⟩;cases hb69:(bk)
     ·
      exact lL hs [.v 67 qT] (ao (aa hs [.v 2 qF] (ac hs [] qF (CO (k:=k) oM aM hbk))))
     refine lL hs [.v 67 qF] (ah (cK (kQ (bH 68 ((k:Nat)+1) (k+1) ?_))));refine lL hs [.m 61 68] (lD ?_);intro a_ ka;replace hs:=hs.drop 1 0;refine ⟨_,_,?_,⟨k+1,zN,rfl,rfl,hs.to _ _,oM,(fun i hi=>by rcases Nat.lt_succ_iff_lt_or_eq.1 hi with h_|rfl;exact hWk i h_;exact hbk.1 aM)⟩,ka.to _ kR⟩
     omega
    try rw[zk] at hs
    try rw[zk]
    exact ce (aa hs [.v 2 qF] (ac hs [] qF (ob (fun h_=>zL aM h_.2.2.2))))
   try rw[ze] at hs
   try rw[ze]
   exact ce (aa hs [.v 2 qF] (ac hs [] qF (ob (fun h_=>zI aM h_.2.2.1))))
  try rw[zb] at hs
  try rw[zb]
  exact ce (aa hs [.v 2 qF] (ac hs [] qF (ob (fun h_=>zH aM h_.2.1))))
 have phb6:=aY hb6;exact eB 6 11 hb6 (cC hs (fun _ _ hs=>tN (ce (aa hs [.v 2 qF] (ac hs [] qF (ob (fun h_=>absurd h_.1 oM)))))))
theorem mn (isb:ByteArray→Bool)(sm:ByteArray→Prop)(pF:∀ s,sm s→∀ (w:World) (h:Hp),G w h→Calls Tryz.prog 11 #[.string s] w (Ret w h (fun v _=>∃ b,v=.bool b∧b=isb s))):∀ (d:Nat) (p:PTm) (t:Tm) (w:World) (h:Hp),G w h→TmH d h p t→lr sm d t →  Calls Tryz.prog 31 #[aF p] w (Ret w h (fun v _=>∃ bb,v=.bool bb∧(bb=true↔WfT (fun s=>isb s=true) d t)))
  | 0,_,_,_,_,_,x,_=>x.elim
  | d+1,p,t,w,h,g,x,wf=>by
    obtain ⟨op,n,q,s,A,c,ps,ks,rfl,rfl,hc,hK,hKs⟩:=x.open;obtain ⟨s1,s2,s3,s4,s5,s6⟩:=wf;have s1_:ks.length≤3:=s1;exact qN isb sm pF d (fun p t w h=>mn isb sm pF d p t w h) op n q s A c ps ks hc (by have:=hKs.len;omega) s1 s2 s3 s4 s5 s6 w h g hK hKs
theorem q5  (ok:ByteArray→Prop)(d:Nat)(ih:∀ (p:PTm) (t:Tm) (w:World) (h:Hp),G w h→TmH d h p t→WfT ok d t →  Calls Tryz.prog 32 #[aF p,iV 1001] w (Ret w h (fun v _=>v=iV ((min (ba d t) 1001:Nat):Int))))(op n:Int)(q:Rat)(s:ByteArray)(A:Option Addr)(c:Nat)(ps:List PTm)(ks:List Tm)(hc:ps.length≤c)(hlp:ps.length≤2)(hari:eF op=(ks.length:Nat))(hq0:op≠1→q=0)(hq:LQ 3000 q)(hok:op=2→ok s)(hs0:op≠2→s=⟨#[]⟩)(hn0:op≠8→n=0)(hn1 : -12≤n)(hn2:n≤12)(hW:∀ i,i<ks.length→WfT ok d (ks.getD i ca))(w:World)(h:Hp)(g:G w h)(hK:SlO 9 aK ar h A ps)(hKs:Tms d h ps ks):CV 32 #[pW op n q s A ps.length c,iV 1001] w h (iV ((min (ba (d+1) (.mk op n q s ks)) 1001:Nat):Int)):=by
 have hs:=(((sS g).aS hK).add (K:=fun h_=>Tms d h_ ps ks) hKs);have hln:=(hs.f.1).len;refine go Tryz.func32 [(0,pW op n q s A ps.length c),(1,iV 1001)] rfl (aE (lA 2 31 (pG op n q s A ps.length c) hs (fun b1 w2 h3 hs=>lL hs [.v 4 (iV 0)] (af (aa hs [.v 8 (qP b1 8),.o 9 (qS A ps.length c) 0 8 1,.v 10 (nV ps.length)] ?_)))));cases hb4:((ps.length:Int) == (0:Int))
 ·
  have phb4:=ai hb4;refine lB 11 hb4 (ah (cK (aa hs [.v 5 (iV 0)] (af (aa hs [.v 14 (qP b1 8),.o 15 (qS A ps.length c) 0 8 1,.v 16 (nV ps.length),.v 17 (iV 0)] (bn ?_))))));refine bQ _ (CG.loop (fun μ_ Γ w_=>∃ (k:Nat) (sm:Nat) (h_:Hp),μ_=ps.length-k∧Γ=[(1,iV 1001),(2,pB b1),(15,qS A ps.length c),(16,nV ps.length),(17,nV k),(5,nV sm)]∧SS w h w_ h_ [⟨b1,31,pG op n q s A ps.length c⟩] [] [fun h_=>Tms d h_ ps ks,fun h_=>SlO 9 aK ar h_ A ps]∧k≤ps.length∧sm=min (fG (fun i=>ba d (ks.getD i ca)) k) 1001) _ ⟨0,0,h3,rfl,rfl,hs.to _ _,Nat.zero_le _,rfl⟩ ?_);rintro _ _ w5 ⟨k,sm,h6,hm7,rfl,hs,hk,hsm⟩;have hs1:(fG (fun i=>ba d (ks.getD i ca)) (k+1))=(fG (fun i=>ba d (ks.getD i ca)) k)+ba d (ks.getD k ca):=rfl;refine aE ?_;cases hb8:(decide ((k:Int)<(ps.length:Int)))
  ·
   have phb8:=oF hb8;refine lB 18 hb8 (af (cw (CG.exit ?_)))
   show CG _ _ _ _ _ _ _ _
   refine cQ (aa hs [.v 33 (pB b1),.o 34 (iV op) 0 0 1] (bn (aE ?_)));cases hb9:((op:Int) == (11:Int))
   ·
    have phb9:=ai hb9;refine lB 36 hb9 (lL hs [.m 35 36] (ah (aE ?_)));cases za:((op:Int) == (8:Int))
    ·
     have zc:=ai za;refine lB 40 za (lL hs [.m 39 40] (ah (cK (aa hs [.m 46 5,.m 47 1] (lV 48 (iV (min (sm:Int) (1001:Int))) ?_ (hr:=aU (n:=(if (1001:Int)<(sm:Int) then (1001:Int) else (sm:Int))) kR (by simp only[rH])))))));refine lL hs [.m 4 48] (lN (kX ?_));have hkn:k=ks.length:=by omega
     have hw_:=iM (d:=d) (op:=op) (n:=n) (q:=q) (s:=s) (ks:=ks) oM;have hm_:=js (s:=(fG (fun i=>ba d (ks.getD i ca)) k)) (cg op n);rw[←hkn] at hw_
     rw[←hw_,←hsm] at hm_
     exact hs.ret [] (iV (min (sm:Int) (1001:Int))) (congrArg (Value.int .i64) (by rw[←hm_];unfold fj;first|(rw[if_pos oM];(repeat' split)<;>omega)|(rw[if_neg oM,if_pos oM,Nat.mul_comm];(repeat' split)<;>omega)|(rw[if_neg oM,if_neg oM];(repeat' split)<;>omega)))
    have zc:=eq_of_beq za;refine lB 40 za (lL hs [.m 39 40] (ao (kQ (lL hs [.m 41 5,.v 42 (qP b1 1),.o 43 (iV n) 0 1 1] (ag 44 hs (Bd n oM oM _ _ hs.g) (fun _ _ hs=>?_))))));have htm:cd n≤12∧1≤cd n:=by unfold cd;split<;>omega
    have hmb:sm*cd n≤1001*12:=Nat.mul_le_mul oM oM;refine lI 45 ((sm:Nat)*(cd n:Nat)) (lL hs [.m 5 45] (aG (lL hs [.m 46 5,.m 47 1] (lV 48 (iV (min ((sm:Nat)*(cd n:Nat):Int) (1001:Int))) ?_ (hr:=aU (n:=(if (1001:Int)<((sm:Nat)*(cd n:Nat):Int) then (1001:Int) else ((sm:Nat)*(cd n:Nat):Int))) kR (by simp only[rH]))))));refine lL hs [.m 4 48] (lN (kX ?_));have hkn:k=ks.length:=by omega
    have hw_:=iM (d:=d) (op:=op) (n:=n) (q:=q) (s:=s) (ks:=ks) oM;have hm_:=js (s:=(fG (fun i=>ba d (ks.getD i ca)) k)) (cg op n);rw[←hkn] at hw_
    rw[←hw_,←hsm] at hm_
    exact hs.ret [] (iV (min ((sm:Nat)*(cd n:Nat):Int) (1001:Int))) (congrArg (Value.int .i64) (by rw[←hm_];unfold fj;first|(rw[if_pos oM];(repeat' split)<;>omega)|(rw[if_neg oM,if_pos oM,Nat.mul_comm];(repeat' split)<;>omega)|(rw[if_neg oM,if_neg oM];(repeat' split)<;>omega)))
   have phb9:=eq_of_beq hb9;refine lB 36 hb9 (lL hs [.m 35 36] (ao (kQ (lL hs [.m 37 5] (lI 38 ((sm:Nat)*2) ?_)))));refine lL hs [.m 5 38] (aG (lL hs [.m 46 5,.m 47 1] (lV 48 (iV (min ((sm:Nat)*2:Int) (1001:Int))) ?_ (hr:=aU (n:=(if (1001:Int)<((sm:Nat)*2:Int) then (1001:Int) else ((sm:Nat)*2:Int))) kR (by simp only[rH])))));refine lL hs [.m 4 48] (lN (kX ?_));have hkn:k=ks.length:=by omega
   have hw_:=iM (d:=d) (op:=op) (n:=n) (q:=q) (s:=s) (ks:=ks) oM;have hm_:=js (s:=(fG (fun i=>ba d (ks.getD i ca)) k)) (cg op n);rw[←hkn] at hw_
   rw[←hw_,←hsm] at hm_
   exact hs.ret [] (iV (min ((sm:Nat)*2:Int) (1001:Int))) (congrArg (Value.int .i64) (by rw[←hm_];unfold fj;first|(rw[if_pos oM];(repeat' split)<;>omega)|(rw[if_neg oM,if_pos oM,Nat.mul_comm];(repeat' split)<;>omega)|(rw[if_neg oM,if_neg oM];(repeat' split)<;>omega)))
  have phb8:=oT hb8;refine lB 18 hb8 (af (ce (cK (cQ (kZ (aE (lX 19 A ps.length c 9 (k:Nat) k ((hs.f.2.1).ok oM) ?_)))))));refine lH 20 (aF (ps.getD k ar)) hs ((hs.f.2.1).el k oM) (lA 7 31 ([iV 0,iV 0,qF,uV 0,eS,uV 0,eS,eS,sZ]) hs (fun b13 _ _ hs=>lP 0 0 (aK (ps.getD k ar)) hs (fun _ hs=>aG (lL hs [.m 21 5,.o 22 (aF (ps.getD k ar)) 0 0 9,.m 23 1] (ag 24 hs (ih (ps.getD k ar) (ks.getD k ca) _ _ hs.g ((hs.f.1).at_ k oM) (hW k oM)) (fun _ ze hs=>lI 25 ((sm:Nat)+((min (ba d (ks.getD k ca)) 1001:Nat):Int)) (lL hs [.m 26 1] (lV 27 (iV ((min (fG (fun i=>ba d (ks.getD i ca)) (k+1)) 1001:Nat):Int)) ?_ (hr:=aU (n:=if (1001:Int)<((sm:Nat)+((min (ba d (ks.getD k ca)) 1001:Nat):Int)) then (1001:Int) else ((sm:Nat)+((min (ba d (ks.getD k ca)) 1001:Nat):Int))) kR (by split<;>omega))))))))));refine lL hs [.m 5 27] (aG (lL hs [.m 28 5,.m 29 1] ?_));cases zb:((((min (fG (fun i=>ba d (ks.getD i ca)) (k+1)) 1001:Nat):Int):Int) == (1001:Int))
  ·
   have zd:=ai zb;refine lB 30 zb (ah (cK (kQ (bH 32 ((k:Nat)+1) (k+1) ?_))));refine lL hs [.m 17 32] (lD ?_);intro a_ ka;replace hs:=hs.drop 1 0;refine ⟨_,_,?_,⟨k+1,(min (fG (fun i=>ba d (ks.getD i ca)) (k+1)) 1001),ze,rfl,rfl,hs.to _ _,oM,rfl⟩,ka.to _ kR⟩
   omega
  have zd:=eq_of_beq zb;exact lB 30 zb (ao (aa hs [.m 31 1,.m 4 31] (ac hs [] (iV 1001) (congrArg (Value.int .i64) (by have h1_:=pL (fun i=>ba d (ks.getD i ca)) (show k+1≤ks.length by omega);have h2_:=mU (d:=d) (op:=op) (n:=n) (q:=q) (s:=s) (ks:=ks) oM;omega)))))
 have phb4:=eq_of_beq hb4;exact lB 11 hb4 (ao (aa hs [.m 12 1,.v 13 (iV 1),.m 4 13] (ac hs [] (iV 1) (congrArg (Value.int .i64) (by rw[kl oM];first|rfl|omega)))))
theorem l9 (ok:ByteArray→Prop):∀ (d:Nat) (p:PTm) (t:Tm) (w:World) (h:Hp),G w h→TmH d h p t→WfT ok d t →  Calls Tryz.prog 32 #[aF p,iV 1001] w (Ret w h (fun v _=>v=iV ((min (ba d t) 1001:Nat):Int)))
  | 0,_,_,_,_,_,x,_=>x.elim
  | d + 1,p,t,w,h,g,x,wf=>by
    obtain ⟨op,n,q,s,A,c,ps,ks,rfl,rfl,hc,hK,hKs⟩:=x.open;obtain ⟨w1,w2,w3,w4,w5,w6,w7,w8,w9⟩:=wf
    have hl2:ps.length≤2:=by
      have e1:eF op=ks.length:=w1;have:=aT op;have:=hKs.len
      omega
    exact q5 ok d (fun p t w h=>l9 ok d p t w h) op n q s A c ps ks hc hl2 w1 w2 w3 w4 w5 w6 w7 w8 w9 w h g hK hKs
def sH (pb:Nat)(s:ByteArray)(t:Tm)(b:Nat)(bd:Int):Value→World→Hp→Prop:=fun v w' h'=>∃ (tb:Nat) (p:PTm),v=.pointer (some ⟨tb,0,none⟩)∧b≤s.size∧Own w' pb 52 [.string s,.int .i64 (b:Nat),.int .i64 bd]∧Seg h' tb 0 (aK p)∧PtH h' p t
def PC (nf bf:ByteArray→Option Rat)(f:FuncId)(n:Nat)(k:PKd):Prop:=∀ (pb:Nat) (s:ByteArray),s.size≤1000000→∀ (a:Nat),a≤s.size→∀ (bd:Int) (t:Tm) (b:Nat),cl nf bf s n k a=some (.ok t b)→∀ (w:World) (h:Hp),G w h→Own w pb 52 [.string s,nV a,iV bd]→h[pb]?=some junk→Tab h→Calls Tryz.prog f #[pB pb] w (cA pb w h (sH pb s t b bd))
theorem jd  (pb:Nat)(s:ByteArray)(hsz:s.size≤1000000)(a:Nat)(ha:a≤s.size)(bd:Int)(w:World)(h:Hp)(g:G w h)(ho:Own w pb 52 [.string s,nV a,iV bd])(hj:h[pb]?=some junk)(tb:Tab h):Calls Tryz.prog 13 #[pB pb] w (cA pb w h fun v w' _=>v=.int .u8 (ax s (sk s a):Nat)∧Own w' pb 52 [.string s,nV (sk s a),iV bd]):=by
 have hmo:UpM [pb] w h w h:=UpM.refl g;obtain ⟨wz,hz0_,hs⟩:=SS.at_ g ho hj;replace hs:=(hs.aB tb);refine go Tryz.func13 [(0,pB pb)] rfl (aa hs [.v 2 (.int .u8 0)] (af (kZ ?_)));refine bQ _ (CG.loop (fun μ_ Γ w_=>∃ (k:Nat) (h_:Hp),μ_=s.size-k∧Γ=[(0,pB pb),(2,.int .u8 0)]∧SS wz hz0_ w_ h_ [⟨pb,52,[.string s,nV k,iV bd]⟩] [] [fun h_=>Tab h_]∧a≤k∧k≤s.size∧UpM [pb] w h w_ h_∧(∀ i,a≤i→i<k→wj (ax s i)=true)) _ ⟨a,h,rfl,rfl,hs.to _ _,nR _,ha,hmo,(fun i h1 h2=>absurd h1 oM)⟩ ?_);rintro _ _ w1 ⟨k,h2,hm3,rfl,hs,hk1,hk2,hmo,hkb⟩;refine cQ (cQ (cR 22 [] mixed hs av ?_));refine eV 0 3 (pB pb) (eV 1 4 (pB pb) (eV 2 5 (qP pb 1) (eO 3 6 [(0,1,1)] (nV k) hs (eV 4 7 (pB pb) (eV 5 8 (pB pb) (eV 6 9 (pB pb) (eO 7 10 [(0,0,1)] (.string s) hs (eV 8 11 (nV s.size) ?_))))))));cases hb4:(decide ((k:Int)<(s.size:Int)))
 ·
  have phb4:=oF hb4;refine eB 9 12 hb4 (eV 10 13 qF (eG 11 14 (eG 12 15 (eG 13 16 (eG 14 17 (eG 15 18 (eG 16 19 (eG 17 20 (eG 18 21 (eG 19 22 (eG 20 23 (eV 21 24 qF (iP hs (fun w5 h6 u7 hs=>?_))))))))))))));replace hmo:=hmo.trans (u7.m _);refine tN (cw (CG.exit ?_))
  show CG _ _ _ _ _ _ _ _
  refine cQ (cQ (cR 10 [] mixed hs av ?_));refine eV 0 32 (pB pb) (eV 1 33 (pB pb) (eV 2 34 (qP pb 1) (eO 3 35 [(0,1,1)] (nV k) hs (eV 4 36 (pB pb) (eV 5 37 (pB pb) (eV 6 38 (pB pb) (eO 7 39 [(0,0,1)] (.string s) hs (eV 8 40 (nV s.size) ?_))))))));have ⟨hb8,phb8⟩:=dF (p:=(k:Int)<(s.size:Int)) oM;refine eB 9 41 hb8 (iP hs (fun w9 _ u11 hs=>?_));replace hmo:=hmo.trans (u11.m _);refine tN (cw (cK (aa hs [.v 2 (.int .u8 0)] (lN (kX ?_)))));have hk_:sk s a=k:=mf hk1 hk2 hkb (by first|exact .inl oM|exact .inr (decide_eq_false oM));exact hs.retM hmo [] (.int .u8 0) (by rw[hk_,oe oM];exact ⟨rfl,hs.own 0⟩)
 have phb4:=oT hb4;refine eB 9 12 hb4 (eV 10 13 qT (eV 11 14 (pB pb) (eV 12 15 (pB pb) (eV 13 16 (pB pb) (eO 14 17 [(0,0,1)] (.string s) hs (eV 15 18 (pB pb) (eV 16 19 (pB pb) (eV 17 20 (qP pb 1) (eO 18 21 [(0,1,1)] (nV k) hs (eV 19 22 (.int .u8 (ax s k:Nat)) ?_ (hv:=fun _=>cj (tx:=9) (x:=.tmp 17) (i:=.tmp 21) (k:=.i64) (s:=s) (n:=k) (j:=(k:Int)) kR kR kR kR oM oM _)))))))))));cases za:(((ax s k:Nat):Int) == (32:Int))
 ·
  have zb:=ai za;refine eB 20 23 za (eV 21 24 qF (iP hs (fun _ _ u15 hs=>?_)));replace hmo:=hmo.trans (u15.m _);refine tN (cw (CG.exit ?_))
  show CG _ _ _ _ _ _ _ _
  refine cQ (cQ (cR 10 [] mixed hs av ?_));refine eV 0 32 (pB pb) (eV 1 33 (pB pb) (eV 2 34 (qP pb 1) (eO 3 35 [(0,1,1)] (nV k) hs (eV 4 36 (pB pb) (eV 5 37 (pB pb) (eV 6 38 (pB pb) (eO 7 39 [(0,0,1)] (.string s) hs (eV 8 40 (nV s.size) ?_))))))));have ⟨zc,phb16⟩:=dT (p:=(k:Int)<(s.size:Int)) oM;refine eB 9 41 zc (iP hs (fun _ _ u19 hs=>?_));replace hmo:=hmo.trans (u19.m _);refine tN (ce (cQ (cR 9 [] mixed hs av ?_)));refine eV 0 42 (pB pb) (eV 1 43 (pB pb) (eV 2 44 (pB pb) (eO 3 45 [(0,0,1)] (.string s) hs (eV 4 46 (pB pb) (eV 5 47 (pB pb) (eV 6 48 (qP pb 1) (eO 7 49 [(0,1,1)] (nV k) hs (eV 8 50 (.int .u8 (ax s k:Nat)) ?_ (hv:=fun _=>cj (tx:=9) (x:=.tmp 45) (i:=.tmp 49) (k:=.i64) (s:=s) (n:=k) (j:=(k:Int)) kR kR kR kR oM oM _)))))))));refine iP hs (fun _ _ u22 hs=>?_);replace hmo:=hmo.trans (u22.m _);refine tV 9 2 (.int .u8 (ax s k:Nat)) (tN (bQ [(2,.int .u8 (ax s k:Nat))] ?_));refine kX ?_;have hk_:sk s a=k:=mf hk1 hk2 hkb (by first|exact .inl oM|exact .inr (decide_eq_false oM));exact hs.retM hmo [] (.int .u8 (ax s k:Nat)) (by rw[hk_];exact ⟨rfl,hs.own 0⟩)
 have zb:=eq_of_beq za;refine eB 20 23 za (eV 21 24 qT (iP hs (fun _ zd u25 hs=>?_)));replace hmo:=hmo.trans (u25.m _);refine tN (ce (cK (kZ (kQ (lL hs [.m 25 0,.v 26 (pB pb),.v 27 (qP pb 1),.o 28 (nV k) 0 1 1] (bH 29 ((k:Nat)+1) (k+1) ?_))))));refine lL hs [.v 30 (pB pb),.v 31 (qP pb 1)] (kT 0 1 ([nV (k+1)]) hs (fun _ pu hs=>?_));replace hmo:=hmo.put pu (List.mem_singleton.2 rfl) hs.g;refine lD ?_;intro a_ ka;refine ⟨_,_,?_,⟨k+1,zd,rfl,rfl,hs.to _ _,oM,oM,hmo,(fun i h1 h2=>by rcases Nat.lt_succ_iff_lt_or_eq.1 h2 with h_|rfl;exact hkb i h1 h_;exact decide_eq_true oM)⟩,ka.to _ kR⟩
 omega
theorem gJ  (pb:Nat)(s:ByteArray)(hsz:s.size≤1000000)(a:Nat)(ha:a≤s.size)(bd:Int)(c:Nat)(hc:c≠0)(w:World)(h:Hp)(g:G w h)(ho:Own w pb 52 [.string s,nV a,iV bd])(hj:h[pb]?=some junk)(tb:Tab h):Calls Tryz.prog 51 #[pB pb,.int .u8 (c:Nat)] w (cA pb w h fun v w' _=>(v=.bool true∧ax s (sk s a)=c∧sk s a<s.size∧Own w' pb 52 [.string s,nV (sk s a+1),iV bd])∨(v=.bool false∧ax s (sk s a)≠c∧Own w' pb 52 [.string s,nV (sk s a),iV bd])):=by
 have hmo:UpM [pb] w h w h:=UpM.refl g;obtain ⟨wz,hz0_,hs⟩:=SS.at_ g ho hj;replace hs:=(hs.aB tb);refine go Tryz.func51 [(0,pB pb),(1,.int .u8 (c:Nat))] rfl (aa hs [.v 4 qF] (af (aa hs [.m 5 0] ?_)));have hskq1:=dB (s:=s) (a:=a) oM;refine cY 6 (jd pb s hsz a ha bd _ _ hs.g (hs.own 0) (hs.jk 0) hs.f.1) ?_;rintro _ w2 h3 u4 ⟨rfl,hOq1⟩;replace hs:=(hs.stepM 0 u4 hOq1).to [⟨pb,52,[.string s,nV (sk s a),iV bd]⟩] [];replace hmo:=hmo.trans u4;refine lL hs [.m 7 1] ?_;cases hb5:(((ax s (sk s a):Nat):Int) != (c:Int))
 ·
  have phb5:=az hb5;refine lB 8 hb5 (ah (cK (aa hs [.m 9 0,.v 10 (pB pb),.v 11 (qP pb 1),.o 12 (nV (sk s a)) 0 1 1] (bH 13 ((sk s a:Nat)+1) ((sk s a)+1) ?_))));refine lL hs [.v 14 (pB pb),.v 15 (qP pb 1)] (kT 0 1 ([nV ((sk s a)+1)]) hs (fun w6 pu hs=>?_));replace hmo:=hmo.put pu (List.mem_singleton.2 rfl) hs.g;refine aG (lL hs [.v 4 qT] (lN (kX ?_)));have hin_:=nj (s:=s) (a:=sk s a) oM;exact hs.retM hmo [] qT (.inl ⟨rfl,by omega,by omega,hs.own 0⟩)
 have phb5:=aY hb5;exact lB 8 hb5 (ao (aa hs [.v 4 qF] (lN (kX (hs.retM hmo [] qF (.inr ⟨rfl,by omega,hs.own 0⟩))))))
theorem rM (pb:Nat)(s:ByteArray)(hsz:s.size≤1000000)(a:Nat)(ha:a≤s.size)(bd:Int)(c:Nat)(hc:c≠0)(hka:sk s a=a)(w:World)(h:Hp)(g:G w h)(ho:Own w pb 52 [.string s,nV a,iV bd])(hj:h[pb]?=some junk)(tb:Tab h):Calls Tryz.prog 51 #[pB pb,.int .u8 (c:Nat)] w (cA pb w h fun v w' _=>(v=.bool true∧ax s a=c∧a<s.size∧Own w' pb 52 [.string s,nV (a+1),iV bd])∨(v=.bool false∧ax s a≠c∧Own w' pb 52 [.string s,nV a,iV bd])):=by
 have q:=gJ pb s hsz a ha bd c hc w h g ho hj tb;rw[hka] at q;exact q
theorem jH (pb:Nat)(s:ByteArray)(hsz:s.size≤1000000)(a:Nat)(ha:a≤s.size)(bd:Int)(c:Nat)(hc:c≠0)(hka:ax s (sk s a)=c)(w:World)(h:Hp)(g:G w h)(ho:Own w pb 52 [.string s,nV a,iV bd])(hj:h[pb]?=some junk)(tb:Tab h):Calls Tryz.prog 51 #[pB pb,.int .u8 (c:Nat)] w (cA pb w h fun v w' _=>v=.bool true∧sk s a<s.size∧Own w' pb 52 [.string s,nV (sk s a+1),iV bd]) :=
 (gJ pb s hsz a ha bd c hc w h g ho hj tb).mono fun e w' ⟨v,h',he,u,hΦ⟩=>⟨v,h',he,u,by
  rcases hΦ with ⟨h1,h2,h3,h4⟩|⟨h1,h2,h3⟩
  ·exact ⟨h1,h3,h4⟩
  ·exact absurd hka h2⟩
theorem th  (fo:FuncId)(p:Nat→Bool)(hen:∀ (args:Array Value) (w:World),(callFunc fo args).run Tryz.prog w=.ok (.enter fo args) w)(hfo:∀ c,c<256→∀ (w:World) (h:Hp),G w h→Calls Tryz.prog fo #[.int .u8 (c:Nat)] w (Ret w h fun v _=>v=.bool (p c)))(pb:Nat)(s:ByteArray)(hsz:s.size≤1000000)(a:Nat)(ha:a≤s.size)(bd:Int)(w:World)(h:Hp)(g:G w h)(ho:Own w pb 52 [.string s,nV a,iV bd])(hj:h[pb]?=some junk)(tb:Tab h):Calls Tryz.prog 117 #[pB pb,.func (.func fo) #[] #[]] w (cA pb w h fun v w' _=>v=.string (s.extract a (rn p s a))∧Own w' pb 52 [.string s,nV (rn p s a),iV bd]):=by
 have hmo:UpM [pb] w h w h:=UpM.refl g;obtain ⟨wz,hz0_,hs⟩:=SS.at_ g ho hj;replace hs:=(hs.aB tb);refine go Tryz.func117 [(0,pB pb),(1,.func (.func fo) #[] #[])] rfl (aa hs [.v 4 (eS)] (aG (lL hs [.m 6 0,.v 7 (pB pb),.v 8 (qP pb 1),.o 9 (nV a) 0 1 1,.m 5 9] (af (kZ ?_)))));refine bQ _ (CG.loop (fun μ_ Γ w_=>∃ (k:Nat) (h_:Hp),μ_=s.size-k∧Γ=[(0,pB pb),(1,.func (.func fo) #[] #[]),(4,eS),(5,nV a)]∧SS wz hz0_ w_ h_ [⟨pb,52,[.string s,nV k,iV bd]⟩] [] [fun h_=>Tab h_]∧a≤k∧k≤s.size∧UpM [pb] w h w_ h_∧(∀ i,a≤i→i<k→p (ax s i)=true)) _ ⟨a,h,rfl,rfl,hs.to _ _,nR _,ha,hmo,(fun i h1 h2=>absurd h1 oM)⟩ ?_);rintro _ _ w1 ⟨k,h2,hm3,rfl,hs,hk1,hk2,hmo,hkb⟩;refine cQ (cQ (cR 23 [] mixed hs av ?_));refine eV 0 10 (pB pb) (eV 1 11 (pB pb) (eV 2 12 (qP pb 1) (eO 3 13 [(0,1,1)] (nV k) hs (eV 4 14 (pB pb) (eV 5 15 (pB pb) (eV 6 16 (pB pb) (eO 7 17 [(0,0,1)] (.string s) hs (eV 8 18 (nV s.size) ?_))))))));cases hb4:(decide ((k:Int)<(s.size:Int)))
 ·
  have phb4:=oF hb4;refine eB 9 19 hb4 (eV 10 20 qF (eG 11 21 (eG 12 22 (eG 13 23 (eG 14 24 (eG 15 25 (eG 16 26 (eG 17 27 (eG 18 28 (eG 19 29 (eG 20 30 (eG 21 31 (eV 22 32 qF (iP hs (fun w5 h6 u7 hs=>?_)))))))))))))));replace hmo:=hmo.trans (u7.m _);refine tN (cw (CG.exit ?_))
  show CG _ _ _ _ _ _ _ _
  refine cQ (cR 10 [] mixed hs av ?_);refine eV 0 40 (pB pb) (eV 1 41 (pB pb) (eV 2 42 (pB pb) (eO 3 43 [(0,0,1)] (.string s) hs (eV 4 44 (nV a) (eV 5 45 (pB pb) (eV 6 46 (pB pb) (eV 7 47 (qP pb 1) (eO 8 48 [(0,1,1)] (nV k) hs (eV 9 49 (.string (s.extract a k)) ?_ (hv:=fun _=>ng (tx:=9) (x:=.tmp 43) (i:=.tmp 44) (e:=.tmp 48) (k:=.i64) (k2:=.i64) (s:=s) (n:=a) (m:=k) (j:=(a:Int)) (j2:=(k:Int)) kR kR kR kR kR oM oM oM oM _))))))))));refine iP hs (fun w8 h9 u10 hs=>?_);replace hmo:=hmo.trans (u10.m _);refine tV 10 4 (.string (s.extract a k)) (tN (kX ?_));have hk_:rn p s a=k:=mf hk1 hk2 hkb (by first|exact .inl oM|exact .inr aM);exact hs.retM hmo [] (.string (s.extract a k)) (by rw[hk_];exact ⟨rfl,hs.own 0⟩)
 have phb4:=oT hb4;refine eB 9 19 hb4 (eV 10 20 qT (eV 11 21 (.func (.func fo) #[] #[]) (eV 12 22 (pB pb) (eV 13 23 (pB pb) (eV 14 24 (pB pb) (eO 15 25 [(0,0,1)] (.string s) hs (eV 16 26 (pB pb) (eV 17 27 (pB pb) (eV 18 28 (qP pb 1) (eO 19 29 [(0,1,1)] (nV k) hs (eV 20 30 (.int .u8 (ax s k:Nat)) ?_ (hv:=fun _=>cj (tx:=9) (x:=.tmp 25) (i:=.tmp 29) (k:=.i64) (s:=s) (n:=k) (j:=(k:Int)) kR kR kR kR oM oM _))))))))))));refine wQ 21 31 hs hmo (fun _ _ hs=>hfo ((ax s k)) (bS _ _) _ _ hs.g) ?_ (hv:=fun _=>Eq.trans kR (hen _ _));rintro _ _ _ _ _ hmo hs rfl;cases hb13:(p ((ax s k)))
 ·
  refine eV 22 32 qF (iP hs (fun _ _ u16 hs=>?_));replace hmo:=hmo.trans (u16.m _);refine tN (cw (CG.exit ?_))
  show CG _ _ _ _ _ _ _ _
  refine cQ (cR 10 [] mixed hs av ?_);refine eV 0 40 (pB pb) (eV 1 41 (pB pb) (eV 2 42 (pB pb) (eO 3 43 [(0,0,1)] (.string s) hs (eV 4 44 (nV a) (eV 5 45 (pB pb) (eV 6 46 (pB pb) (eV 7 47 (qP pb 1) (eO 8 48 [(0,1,1)] (nV k) hs (eV 9 49 (.string (s.extract a k)) ?_ (hv:=fun _=>ng (tx:=9) (x:=.tmp 43) (i:=.tmp 44) (e:=.tmp 48) (k:=.i64) (k2:=.i64) (s:=s) (n:=a) (m:=k) (j:=(a:Int)) (j2:=(k:Int)) kR kR kR kR kR oM oM oM oM _))))))))));refine iP hs (fun _ _ u19 hs=>?_);replace hmo:=hmo.trans (u19.m _);refine tV 10 4 (.string (s.extract a k)) (tN (kX ?_));have hk_:rn p s a=k:=mf hk1 hk2 hkb (by first|exact .inl oM|exact .inr aM);exact hs.retM hmo [] (.string (s.extract a k)) (by rw[hk_];exact ⟨rfl,hs.own 0⟩)
 refine eV 22 32 qT (iP hs (fun _ za u22 hs=>?_));replace hmo:=hmo.trans (u22.m _);refine tN (ce (cK (kZ (kQ (lL hs [.m 33 0,.v 34 (pB pb),.v 35 (qP pb 1),.o 36 (nV k) 0 1 1] (bH 37 ((k:Nat)+1) (k+1) ?_))))));refine lL hs [.v 38 (pB pb),.v 39 (qP pb 1)] (kT 0 1 ([nV (k+1)]) hs (fun _ pu hs=>?_));replace hmo:=hmo.put pu (List.mem_singleton.2 rfl) hs.g;refine lD ?_;intro a_ ka;refine ⟨_,_,?_,⟨k+1,za,rfl,rfl,hs.to _ _,oM,oM,hmo,(fun i h1 h2=>by rcases Nat.lt_succ_iff_lt_or_eq.1 h2 with h_|rfl;exact hkb i h1 h_;exact aM)⟩,ka.to _ kR⟩
 omega
theorem wO (op:Int)(pa pc:PTm)(w:World)(h:Hp)(g:G w h):CR 52 #[iV op,aF pa,aF pc] w h (fun v h1=>∃ b,v=aF ⟨op,0,0,⟨#[]⟩,sB b,2,2⟩∧SlO 9 aK ar h1 (sB b) [pa,pc]):=by
 have hs:=sS g;refine go Tryz.func52 [(0,iV op),(1,aF pa),(2,aF pc)] rfl (aE (lA 4 31 (aK pa) hs (fun b1 w2 h3 hs=>lA 5 31 (aK pc) hs (fun b4 w5 h6 hs=>lA 6 31 ([iV 0,iV 0,qF,uV 0,eS,uV 0,eS,eS,sZ]) hs (fun b7 w8 h9 hs=>aG (lL hs [.m 7 0,.o 8 (aF pa) 2 0 9,.o 9 (aF pc) 1 0 9] (lR 10 31 2 ([iV pa.op,iV pa.n,.bool (aD pa.q.num),uV (lo (ab pa.q.num)),.string (hi (ab pa.q.num)),uV (lo (qd pa.q)),.string (hi (qd pa.q)),.string pa.s,qS pa.A pa.m pa.c,iV pc.op,iV pc.n,.bool (aD pc.q.num),uV (lo (ab pc.q.num)),.string (hi (ab pc.q.num)),uV (lo (qd pc.q)),.string (hi (qd pc.q)),.string pc.s,qS pc.A pc.m pc.c]) hs (fun za _ _ hs=>?_))))))));replace hs:=hs.aS (SlO.of_flat (sz:=9) (f:=aK) (d:=ar) (b:=za) (o:=0) (l:=([pa,pc]:List PTm)) (fun _=>rfl) hs.f.1);exact lL hs [.v 11 (.agg #[iV op,iV 0,qF,uV 0,eS,uV 0,eS,eS,qS (sB za) 2 2])] (lP 0 0 ([iV op,iV 0,qF,uV 0,eS,uV 0,eS,eS,qS (sB za) 2 2]) hs (fun _ hs=>ac hs [(0,0,9)] (.agg #[iV op,iV 0,qF,uV 0,eS,uV 0,eS,eS,qS (sB za) 2 2]) (⟨_,rfl,hs.f.1⟩)))
theorem s7 (op:Int)(pa:PTm)(w:World)(h:Hp)(g:G w h):CR 68 #[iV op,aF pa] w h (fun v h1=>∃ b,v=aF ⟨op,0,0,⟨#[]⟩,sB b,1,1⟩∧SlO 9 aK ar h1 (sB b) [pa]):=by
 have hs:=sS g;refine go Tryz.func68 [(0,iV op),(1,aF pa)] rfl (aE (lA 3 31 (aK pa) hs (fun b1 w2 h3 hs=>lA 4 31 ([iV 0,iV 0,qF,uV 0,eS,uV 0,eS,eS,sZ]) hs (fun b4 w5 h6 hs=>aG (lL hs [.m 5 0,.o 6 (aF pa) 1 0 9] (lR 7 31 1 (pC pa) hs (fun b7 w8 h9 hs=>?_)))))));replace hs:=hs.aS (SlO.of_flat (sz:=9) (f:=aK) (d:=ar) (b:=b7) (o:=0) (l:=([pa]:List PTm)) (fun _=>rfl) hs.f.1);exact lL hs [.v 8 (.agg #[iV op,iV 0,qF,uV 0,eS,uV 0,eS,eS,qS (sB b7) 1 1])] (lP 0 0 ([iV op,iV 0,qF,uV 0,eS,uV 0,eS,eS,qS (sB b7) 1 1]) hs (fun _ hs=>ac hs [(0,0,9)] (.agg #[iV op,iV 0,qF,uV 0,eS,uV 0,eS,eS,qS (sB b7) 1 1]) (⟨_,rfl,hs.f.1⟩)))
theorem nU (q:Rat)(w:World)(h:Hp)(g:G w h):CR 66 #[qv q] w h (fun v h1=>∃ p,v=aF p∧PtH h1 p (bW q)):=by
 have hs:=sS g;exact go Tryz.func66 [(0,qv q)] rfl (aE (lA 1 28 (qc q) hs (fun b1 w2 h3 hs=>lA 2 31 ([iV 0,iV 0,qF,uV 0,eS,uV 0,eS,eS,sZ]) hs (fun b4 w5 h6 hs=>aG (lL hs [.o 3 (qv q) 1 0 5,.v 4 (aF ⟨1,0,q,⟨#[]⟩,none,0,0⟩)] (lP 0 0 (aK ⟨1,0,q,⟨#[]⟩,none,0,0⟩) hs (fun w7 hs=>ac hs [(0,0,9)] (aF ⟨1,0,q,⟨#[]⟩,none,0,0⟩) (⟨⟨1,0,q,⟨#[]⟩,none,0,0⟩,rfl,PtH.num⟩))))))))
theorem rR (op:Int)(pa pc:PTm)(t u:Tm)(w:World)(h:Hp)(g:G w h)(x:PtH h pa t)(y:PtH h pc u):CR 52 #[iV op,aF pa,aF pc] w h (fun v h1=>∃ p,v=aF p∧PtH h1 p (bB op t u)) :=
 (wO op pa pc w h g).mono fun e w' ⟨v,h',e1,up,b,e2,e3⟩=>⟨v,h',e1,up,_,e2,(x.gw up.gr.gw).two (y.gw up.gr.gw) e3⟩
theorem tF (op:Int)(pa:PTm)(t:Tm)(w:World)(h:Hp)(g:G w h)(x:PtH h pa t):CR 68 #[iV op,aF pa] w h (fun v h1=>∃ p,v=aF p∧PtH h1 p (iq op t)) :=
 (s7 op pa w h g).mono fun e w' ⟨v,h',e1,up,b,e2,e3⟩=>⟨v,h',e1,up,_,e2,(x.gw up.gr.gw).one e3⟩
section
variable {nf bf:ByteArray→Option Rat} (n:Nat)
theorem qp  (lv:Bool)(fp:FuncId)(hen:∀ (args:Array Value) (w:World),(callFunc fp args).run Tryz.prog w=.ok (.enter fp args) w)(hp:∀ m,m≤n→PC nf bf fp m (part lv))(pb:Nat)(s:ByteArray)(hsz:s.size≤1000000)(a:Nat)(ha:a≤s.size)(bd:Int)(t:Tm)(b:Nat)(hq:cl nf bf s (n+1) (pp lv) a=some (.ok t b))(w:World)(h:Hp)(g:G w h)(ho:Own w pb 52 [.string s,nV a,iV bd])(hj:h[pb]?=some junk)(tb:Tab h):Calls Tryz.prog 28 #[pB pb,.func (.func fp) #[pB pb] #[],.int .u8 (c1 lv:Nat),iV (jN lv),.int .u8 (c2 lv:Nat),iV (iQ lv)] w (cA pb w h (sH pb s t b bd)):=by
 have hmo:UpM [pb] w h w h:=UpM.refl g;obtain ⟨wz,hz0_,hs⟩:=SS.at_ g ho hj;obtain ⟨t1,b1,hq1,hq2⟩:=vZ hq;have hc1_:c1 lv≠0:=by cases lv<;>decide
 have hc2_:c2 lv≠0:=by cases lv<;>decide
 replace hs:=(hs.aB tb);refine go Tryz.func28 [(0,pB pb),(1,.func (.func fp) #[pB pb] #[]),(2,.int .u8 (c1 lv:Nat)),(3,iV (jN lv)),(4,.int .u8 (c2 lv:Nat)),(5,iV (iQ lv))] rfl (aa hs [.v 12 (.pointer none)] (aG (lL hs [.m 17 1] (cY 18 (hp n (nR _) pb s hsz a ha bd t1 b1 hq1 _ _ hs.g (hs.own 0) (hs.jk 0) hs.f.1) ?_ (hr:=Eq.trans kR (hen _ _))))));rintro _ w2 h3 u4 ⟨tbq1,pq1,rfl,hbq1,hOq1,hSq1,hTq1⟩;replace hs:=(hs.stepM 0 u4 hOq1).to [⟨pb,52,[.string s,nV b1,iV bd]⟩] [];replace hmo:=hmo.trans u4;replace hs:=((hs.a_Seg hSq1).add (K:=fun h_=>PtH h_ pq1 t1) hTq1);refine lL hs [.m 13 18] (af (kZ ?_));replace hs:=hs.add (K:=fun h_=>PtH h_ pq1 t1) (hs.f.1);replace hs:=hs.add (K:=fun h_=>Seg h_ tbq1 0 (aK pq1)) (hs.f.r.1);refine bQ _ (CG.loop (fun μ_ Γ w_=>∃ (m:Nat) (tq:Nat) (p:PTm) (u:Tm) (k:Nat) (h_:Hp),μ_=m∧Γ=[(0,pB pb),(1,.func (.func fp) #[pB pb] #[]),(2,.int .u8 (c1 lv:Nat)),(3,iV (jN lv)),(4,.int .u8 (c2 lv:Nat)),(5,iV (iQ lv)),(13,pB tq)]∧SS wz hz0_ w_ h_ [⟨pb,52,[.string s,nV k,iV bd]⟩] [] [fun h_=>Seg h_ tq 0 (aK p),fun h_=>PtH h_ p u,fun h_=>PtH h_ pq1 t1,fun h_=>Seg h_ tbq1 0 (aK pq1),fun h_=>Tab h_]∧m≤n∧k≤s.size∧UpM [pb] w h w_ h_∧cl nf bf s m (.more lv u) k=some (.ok t b)) _ ⟨n,tbq1,pq1,t1,b1,h3,rfl,rfl,hs.to _ _,nR _,hbq1,hmo,hq2⟩ ?_);rintro _ _ w5 ⟨m,tq,p,u,k,h6,hm7,rfl,hs,hm,hk,hmo,hq⟩;obtain ⟨m1,rfl⟩:=vw hq;have hskk:=dB (s:=s) (a:=k) hk;refine cQ (aa hs [.m 19 13,.v 20 qT] (ao (cK (kZ (aa hs [.v 14 (iV 0)] (af (aa hs [.m 21 0,.m 22 2] ?_)))))));have hskq8:=dB (s:=s) (a:=k) oM;refine cY 23 (gJ pb s hsz k oM bd (c1 lv) hc1_ _ _ hs.g (hs.own 0) (hs.jk 0) hs.f.q.1) ?_;rintro _ w9 _ u11 (⟨rfl,hcq8,hlq8,hOq8⟩|⟨rfl,hcq8,hOq8⟩)
 ·
  replace hs:=(hs.stepM 0 u11 hOq8).to [⟨pb,52,[.string s,nV (sk s k+1),iV bd]⟩] [];replace hmo:=hmo.trans u11;obtain ⟨vq8,eq8,hvq8,hwq8⟩:=o8 hq hcq8;refine ao (kQ (lL hs [.m 24 3,.m 14 24] (aG (lL hs [.m 30 1] (cY 31 (hp m1 oM pb s hsz (sk s k+1) oM bd vq8 eq8 hvq8 _ _ hs.g (hs.own 0) (hs.jk 0) hs.f.q.1) ?_ (hr:=Eq.trans kR (hen _ _)))))));rintro _ _ _ u15 ⟨tbq12,pq12,rfl,hbq12,hOq12,hSq12,hTq12⟩;replace hs:=(hs.stepM 0 u15 hOq12).to [⟨pb,52,[.string s,nV eq8,iV bd]⟩] [];replace hmo:=hmo.trans u15;replace hs:=((hs.a_Seg hSq12).add (K:=fun h_=>PtH h_ pq12 vq8) hTq12);refine lL hs [.m 15 31] (af (aa hs [.m 32 15,.v 33 qF] (ah (cK (cQ ?_)))));have hsr:=hs;have hge_:=hmo.gr.size;refine cR 9 [⟨8,16,.cells (List.toArray [iV 0,iV 0,qF,uV 0,eS,uV 0,eS,eS,sZ]) 31 (0,0)⟩] mixed hs (bG (dY kR (fun _ _=>by kernel_rfl)) av) (eV 0 34 (iV (jN lv)) (eV 1 35 (pB tq) (eV 2 36 (pB tq) (eH 3 37 (aF p) hs hs.f.r.1 (eV 4 38 (pB tbq12) (eV 5 39 (pB tbq12) (eH 6 40 (aF pq12) hs hs.f.2.1 (wQ 7 41 hs hmo (fun _ _ hs=>rR (jN lv) p pq12 u vq8 _ _ hs.g hs.f.r.2.1 hs.f.1) ?_))))))));rintro _ _ _ _ _ hmo hs ⟨pq16,rfl,hTq16⟩;replace hs:=(hs.add (K:=fun h_=>PtH h_ pq16 (bB (jN lv) u vq8)) hTq16);refine wg [] hsr hs hmo hge_ 31 [iV 0,iV 0,qF,uV 0,eS,uV 0,eS,eS,sZ] (fun _ _ za hmo hlo_b21 hs=>Dt 9 0 0 (aK pq16) hs (fun _ pu hs=>?_));replace hmo:=hmo.put2 pu hlo_b21 g hs.g;refine tN ?_;obtain ⟨zc,hs,hmo,sg24⟩:=hs.pubM hmo 0 hlo_b21;replace hs:=hs.to [⟨pb,52,[.string s,nV eq8,iV bd]⟩] [];have sg26:Seg zc za 0 (aK pq16):=sg24;replace hs:=hs.a_Seg sg26;refine kQ (lL hs [.m 13 16] (lD ?_));intro a_ ka;replace hs:=((hs.tl.tl.tl.tl.tl.tl.add (K:=fun h_=>PtH h_ pq16 (bB (jN lv) u vq8)) hs.f.2.1).add (K:=fun h_=>Seg h_ za 0 (aK pq16)) hs.f.1);refine ⟨_,_,?_,⟨m1,za,pq16,bB (jN lv) u vq8,eq8,zc,rfl,rfl,hs.to _ _,oM,hbq12,hmo,hwq8⟩,ka.to _ kR⟩
  omega
 replace hs:=(hs.stepM 0 u11 hOq8).to [⟨pb,52,[.string s,nV (sk s k),iV bd]⟩] [];replace hmo:=hmo.trans u11;have hcF:=hcq8;refine ah (aa hs [.m 25 0,.m 26 4] ?_);have hskq33:=dB (s:=s) (a:=(sk s k)) oM;refine cY 27 (rM pb s hsz (sk s k) oM bd (c2 lv) hc2_ (wV _ _) _ _ hs.g (hs.own 0) (hs.jk 0) hs.f.q.1) ?_;rintro _ _ _ u36 (⟨rfl,hcq33,hlq33,hOq33⟩|⟨rfl,hcq33,hOq33⟩)
 ·
  replace hs:=(hs.stepM 0 u36 hOq33).to [⟨pb,52,[.string s,nV ((sk s k)+1),iV bd]⟩] [];replace hmo:=hmo.trans u36;obtain ⟨vq33,eq33,hvq33,hwq33⟩:=o0 hq hcF hcq33;refine ao (kQ (lL hs [.m 28 5,.m 14 28] (aG (lL hs [.m 30 1] (cY 31 (hp m1 oM pb s hsz ((sk s k)+1) oM bd vq33 eq33 hvq33 _ _ hs.g (hs.own 0) (hs.jk 0) hs.f.q.1) ?_ (hr:=Eq.trans kR (hen _ _)))))));rintro _ _ _ u40 ⟨tbq37,pq37,rfl,hbq37,hOq37,hSq37,hTq37⟩;replace hs:=(hs.stepM 0 u40 hOq37).to [⟨pb,52,[.string s,nV eq33,iV bd]⟩] [];replace hmo:=hmo.trans u40;replace hs:=((hs.a_Seg hSq37).add (K:=fun h_=>PtH h_ pq37 vq33) hTq37);refine lL hs [.m 15 31] (af (aa hs [.m 32 15,.v 33 qF] (ah (cK (cQ ?_)))));have hsr:=hs;have hge_:=hmo.gr.size;refine cR 9 [⟨8,16,.cells (List.toArray [iV 0,iV 0,qF,uV 0,eS,uV 0,eS,eS,sZ]) 31 (0,0)⟩] mixed hs (bG (dY kR (fun _ _=>by kernel_rfl)) av) (eV 0 34 (iV (iQ lv)) (eV 1 35 (pB tq) (eV 2 36 (pB tq) (eH 3 37 (aF p) hs hs.f.r.1 (eV 4 38 (pB tbq37) (eV 5 39 (pB tbq37) (eH 6 40 (aF pq37) hs hs.f.2.1 (wQ 7 41 hs hmo (fun _ _ hs=>rR (iQ lv) p pq37 u vq33 _ _ hs.g hs.f.r.2.1 hs.f.1) ?_))))))));rintro _ _ _ _ _ hmo hs ⟨pq41,rfl,hTq41⟩;replace hs:=(hs.add (K:=fun h_=>PtH h_ pq41 (bB (iQ lv) u vq33)) hTq41);refine wg [] hsr hs hmo hge_ 31 [iV 0,iV 0,qF,uV 0,eS,uV 0,eS,eS,sZ] (fun _ _ zb hmo hlo_b46 hs=>Dt 9 0 0 (aK pq41) hs (fun _ pu hs=>?_));replace hmo:=hmo.put2 pu hlo_b46 g hs.g;refine tN ?_;obtain ⟨zd,hs,hmo,sg49⟩:=hs.pubM hmo 0 hlo_b46;replace hs:=hs.to [⟨pb,52,[.string s,nV eq33,iV bd]⟩] [];have sg51:Seg zd zb 0 (aK pq41):=sg49;replace hs:=hs.a_Seg sg51;refine kQ (lL hs [.m 13 16] (lD ?_));intro a_ ka;replace hs:=((hs.tl.tl.tl.tl.tl.tl.add (K:=fun h_=>PtH h_ pq41 (bB (iQ lv) u vq33)) hs.f.2.1).add (K:=fun h_=>Seg h_ zb 0 (aK pq41)) hs.f.1);refine ⟨_,_,?_,⟨m1,zb,pq41,bB (iQ lv) u vq33,eq33,zd,rfl,rfl,hs.to _ _,oM,hbq37,hmo,hwq33⟩,ka.to _ kR⟩
  omega
 replace hs:=(hs.stepM 0 u36 hOq33).to [⟨pb,52,[.string s,nV (sk s k),iV bd]⟩] [];replace hmo:=hmo.trans u36;have hcF2:=hcq33;refine ah (aa hs [.m 29 13,.m 12 29] (lN (kX ?_)));obtain ⟨ht_,hb_⟩:=oZ hq hcF hcF2;exact hs.retM hmo [] (pB tq) (by rw[ht_];rw[hb_];exact ⟨tq,p,rfl,by first|assumption|omega,hs.own 0,hs.f.1,hs.f.2.1⟩)
theorem DR  (hp:∀ m,m≤n→PC nf bf 29 m .prod)(pb:Nat)(s:ByteArray)(hsz:s.size≤1000000)(a:Nat)(ha:a≤s.size)(bd:Int)(t:Tm)(b:Nat)(hq:cl nf bf s (n+1) .sum a=some (.ok t b))(w:World)(h:Hp)(g:G w h)(ho:Own w pb 52 [.string s,nV a,iV bd])(hj:h[pb]?=some junk)(tb:Tab h):Calls Tryz.prog 12 #[pB pb] w (cA pb w h (sH pb s t b bd)):=by
 have hmo:UpM [pb] w h w h:=UpM.refl g;obtain ⟨wz,hz0_,hs⟩:=SS.at_ g ho hj;replace hs:=(hs.aB tb);refine go Tryz.func12 [(0,pB pb)] rfl (aa hs [.v 2 (.pointer none)] (aG (lL hs [.m 3 0,.m 4 0,.v 5 (.func (.func 29) #[pB pb] #[])] (cY 6 (qp n false 29 (fun _ _=>by kernel_rfl) hp pb s hsz a ha bd t b hq _ _ hs.g (hs.own 0) (hs.jk 0) hs.f.1) ?_))));rintro _ w2 h3 u4 ⟨tbq1,pq1,rfl,hbq1,hOq1,hSq1,hTq1⟩;replace hs:=(hs.stepM 0 u4 hOq1).to [⟨pb,52,[.string s,nV b,iV bd]⟩] [];replace hmo:=hmo.trans u4;replace hs:=((hs.a_Seg hSq1).add (K:=fun h_=>PtH h_ pq1 t) hTq1);exact lL hs [.m 2 6] (lN (kX (hs.retM hmo [] (pB tbq1) (by exact ⟨tbq1,pq1,rfl,by first|assumption|omega,hs.own 0,hs.f.2.1,hs.f.1⟩))))
theorem sV  (hp:∀ m,m≤n→PC nf bf 53 m .sign)(pb:Nat)(s:ByteArray)(hsz:s.size≤1000000)(a:Nat)(ha:a≤s.size)(bd:Int)(t:Tm)(b:Nat)(hq:cl nf bf s (n+1) .prod a=some (.ok t b))(w:World)(h:Hp)(g:G w h)(ho:Own w pb 52 [.string s,nV a,iV bd])(hj:h[pb]?=some junk)(tb:Tab h):Calls Tryz.prog 29 #[pB pb] w (cA pb w h (sH pb s t b bd)):=by
 have hmo:UpM [pb] w h w h:=UpM.refl g;obtain ⟨wz,hz0_,hs⟩:=SS.at_ g ho hj;replace hs:=(hs.aB tb);refine go Tryz.func29 [(0,pB pb)] rfl (aa hs [.v 2 (.pointer none)] (aG (lL hs [.m 3 0,.m 4 0,.v 5 (.func (.func 53) #[pB pb] #[])] (cY 6 (qp n true 53 (fun _ _=>by kernel_rfl) hp pb s hsz a ha bd t b hq _ _ hs.g (hs.own 0) (hs.jk 0) hs.f.1) ?_))));rintro _ w2 h3 u4 ⟨tbq1,pq1,rfl,hbq1,hOq1,hSq1,hTq1⟩;replace hs:=(hs.stepM 0 u4 hOq1).to [⟨pb,52,[.string s,nV b,iV bd]⟩] [];replace hmo:=hmo.trans u4;replace hs:=((hs.a_Seg hSq1).add (K:=fun h_=>PtH h_ pq1 t) hTq1);exact lL hs [.m 2 6] (lN (kX (hs.retM hmo [] (pB tbq1) (by exact ⟨tbq1,pq1,rfl,by first|assumption|omega,hs.own 0,hs.f.2.1,hs.f.1⟩))))
theorem tH  (ihs:PC nf bf 53 n .sign)(ihp:PC nf bf 89 n .pow)(pb:Nat)(s:ByteArray)(hsz:s.size≤1000000)(a:Nat)(ha:a≤s.size)(bd:Int)(t:Tm)(b:Nat)(hq:cl nf bf s (n+1) .sign a=some (.ok t b))(w:World)(h:Hp)(g:G w h)(ho:Own w pb 52 [.string s,nV a,iV bd])(hj:h[pb]?=some junk)(tb:Tab h):Calls Tryz.prog 53 #[pB pb] w (cA pb w h (sH pb s t b bd)):=by
 have hmo:UpM [pb] w h w h:=UpM.refl g;obtain ⟨wz,hz0_,hs⟩:=SS.at_ g ho hj;replace hs:=(hs.aB tb);refine go Tryz.func53 [(0,pB pb)] rfl (aa hs [.v 2 (.pointer none)] (af (aa hs [.m 5 0] ?_)));have hskq1:=dB (s:=s) (a:=a) oM;refine cY 6 (gJ pb s hsz a ha bd 45 kD _ _ hs.g (hs.own 0) (hs.jk 0) hs.f.1) ?_;rintro _ w2 h3 u4 (⟨rfl,hcq1,hlq1,hOq1⟩|⟨rfl,hcq1,hOq1⟩)
 ·
  replace hs:=(hs.stepM 0 u4 hOq1).to [⟨pb,52,[.string s,nV (sk s a+1),iV bd]⟩] [];replace hmo:=hmo.trans u4;obtain ⟨v1,hv1,ht_⟩:=vm hq hcq1;refine lL hs [.v 7 qF] (ah (cK (aa hs [.m 10 0] (cY 11 (ihs pb s hsz (sk s a+1) oM bd v1 b hv1 _ _ hs.g (hs.own 0) (hs.jk 0) hs.f.1) ?_))));rintro _ w6 h7 u8 ⟨tbq5,pq5,rfl,hbq5,hOq5,hSq5,hTq5⟩;replace hs:=(hs.stepM 0 u8 hOq5).to [⟨pb,52,[.string s,nV b,iV bd]⟩] [];replace hmo:=hmo.trans u8;replace hs:=((hs.a_Seg hSq5).add (K:=fun h_=>PtH h_ pq5 v1) hTq5);refine lL hs [.m 3 11] (af (aa hs [.m 12 3,.v 13 qF] (ah (cK (aa hs [.m 14 3,.v 15 (pB tbq5)] (lH 16 (aF pq5) hs hs.f.2.1 ?_))))));refine iz 17 (tF 7 pq5 v1 _ _ hs.g hs.f.1) ?_;rintro _ _ _ u12 ⟨pq9,rfl,hTq9⟩;replace hmo:=hmo.trans (u12.m _);replace hs:=hs.step u12;replace hs:=(hs.add (K:=fun h_=>PtH h_ pq9 (iq 7 v1)) hTq9);refine qJ 4 31 ([iV 0,iV 0,qF,uV 0,eS,uV 0,eS,eS,sZ]) hs (fun za _ _ u16 hlo_b13 hs=>?_);replace hlo_b13:=Nat.le_trans hmo.gr.size hlo_b13;replace hmo:=hmo.trans (u16.m _);refine kT 0 0 (aK pq9) hs (fun _ pu hs=>?_);replace hmo:=hmo.put2 pu hlo_b13 g hs.g;refine aG (lL hs [.m 2 4] (lN (kX ?_)));obtain ⟨zb,hs,hmo,sg19⟩:=hs.pubM hmo 0 hlo_b13;replace hs:=hs.to [⟨pb,52,[.string s,nV b,iV bd]⟩] [];have sg21:Seg zb za 0 (aK pq9):=sg19;replace hs:=hs.a_Seg sg21;exact hs.retM hmo [] (pB za) (by rw[ht_];exact ⟨za,pq9,rfl,by first|assumption|omega,hs.own 0,hs.f.1,hs.f.2.1⟩)
 replace hs:=(hs.stepM 0 u4 hOq1).to [⟨pb,52,[.string s,nV (sk s a),iV bd]⟩] [];replace hmo:=hmo.trans u4;have hcF:=hcq1;refine lL hs [.v 7 qT] (ao (aa hs [.m 8 0] (cY 9 (ihp pb s hsz (sk s a) oM bd t b (pD hq hcF) _ _ hs.g (hs.own 0) (hs.jk 0) hs.f.1) ?_)));rintro _ _ _ u25 ⟨tbq22,pq22,rfl,hbq22,hOq22,hSq22,hTq22⟩;replace hs:=(hs.stepM 0 u25 hOq22).to [⟨pb,52,[.string s,nV b,iV bd]⟩] [];replace hmo:=hmo.trans u25;replace hs:=((hs.a_Seg hSq22).add (K:=fun h_=>PtH h_ pq22 t) hTq22);exact lL hs [.m 2 9] (lN (kX (hs.retM hmo [] (pB tbq22) (by exact ⟨tbq22,pq22,rfl,by first|assumption|omega,hs.own 0,hs.f.2.1,hs.f.1⟩))))
end
theorem Ew (c:Nat)(hc:c<256)(w:World)(h:Hp)(g:G w h):CV 148 #[.int .u8 (c:Nat)] w h (.bool (fT c)):=by
 have hs:=sS g;refine go Tryz.func148 [(0,.int .u8 (c:Nat))] rfl (aa hs [.v 2 qF] (aG (lL hs [.m 3 0] (ag 4 hs (fJ c hc _ _ hs.g) (fun w1 h2 hs=>?_)))));cases hb3:(decide (48≤c∧c≤57))
 ·
  have phb3:=oF hb3;refine lL hs [.m 5 4,.m 6 0] ?_;cases hb4:((c:Int) == (46:Int))
  ·
   have phb4:=ai hb4;exact lB 7 hb4 (lL hs [.v 8 qF,.m 2 8] (ac hs [] qF (congrArg Value.bool (decide_eq_false oM).symm)))
  have phb4:=eq_of_beq hb4;exact lB 7 hb4 (lL hs [.v 8 qT,.m 2 8] (ac hs [] qT (congrArg Value.bool (decide_eq_true oM).symm)))
 have phb3:=oT hb3;refine lL hs [.m 5 4] (lG 6 ?_);exact lG 7 (lL hs [.v 8 qT,.m 2 8] (ac hs [] qT (congrArg Value.bool (decide_eq_true oM).symm)))
theorem PtH.setN {h:Hp}{p:PTm}{op n:Int}{q:Rat}{s:ByteArray}{ks:List Tm}(x:PtH h p (.mk op n q s ks))(m:Int):PtH h ⟨p.op,m,p.q,p.s,p.A,p.m,p.c⟩ (.mk op m q s ks):=by
 obtain ⟨d,x⟩:=x
 match d,x with
 | d+1,⟨h1,_,h3,h4,h5,h6,h7⟩=>exact ⟨d+1,h1,rfl,h3,h4,h5,h6,h7⟩
theorem mK {x:ByteArray}(h:bU x=true):9≤da x∧da x≤13:=by
 have h:=oT h
 revert h
 unfold da
 repeat' split
 all_goals intro h;first|(constructor<;>decide)|exact absurd rfl h
theorem vt {op:Int}(h:9≤op∧op≤13):((op=12∨op=13)∧eF op=2)∨(¬(op=12∨op=13)∧eF op=1):=by
 have:=aT op
 omega
def EO (nf bf:ByteArray→Option Rat)(n:Nat):Prop:=∀ (op:Int),9≤op∧op≤13→∀ (pb:Nat) (s:ByteArray),s.size≤1000000→∀ (a:Nat),a≤s.size→∀ (bd:Int) (t:Tm) (b:Nat),cl nf bf s n (.call op) a=some (.ok t b)→∀ (w:World) (h:Hp),G w h→Own w pb 52 [.string s,nV a,iV bd]→h[pb]?=some junk→Tab h→Calls Tryz.prog 149 #[pB pb,iV op] w (cA pb w h (sH pb s t b bd))
def lU (nf:ByteArray→Option Rat):Prop:=∀ x q,nf x=some q→∀ (w:World) (h:Hp),G w h→Tab h→CV 147 #[.string x] w h (.tuple #[qv q,.bool true])
def vH:Prop:=∀ (x:ByteArray) (k:Nat),x.size≤3→gu x=some k→∀ (w:World) (h:Hp),G w h→CV 118 #[.string x] w h (.tuple #[nv k,.bool true])
def wY (bf:ByteArray→Option Rat):Prop:=∀ (pb:Nat) (s:ByteArray),s.size≤1000000→∀ (a:Nat),a≤s.size→∀ (bd:Int) (q:Rat),ax s a=91→rn dh s (a+1)≠s.size→bf (s.extract (a+1) (rn dh s (a+1)))=some q→∀ (w:World) (h:Hp),G w h→Own w pb 52 [.string s,nV a,iV bd]→h[pb]?=some junk→Tab h→Calls Tryz.prog 150 #[pB pb] w (cA pb w h (sH pb s (bW q) (rn dh s (a+1)+1) bd))
theorem rm:wY (fun _=>none):=fun _ _ _ _ _ _ _ _ _ h=>(by cases h)
section
variable {nf bf:ByteArray→Option Rat} (n:Nat)
theorem Bw  (hnp:vH)(iha:PC nf bf 116 n .atom)(pb:Nat)(s:ByteArray)(hsz:s.size≤1000000)(a:Nat)(ha:a≤s.size)(bd:Int)(t:Tm)(b:Nat)(hq:cl nf bf s (n+1) .pow a=some (.ok t b))(w:World)(h:Hp)(g:G w h)(ho:Own w pb 52 [.string s,nV a,iV bd])(hj:h[pb]?=some junk)(tb:Tab h):Calls Tryz.prog 89 #[pB pb] w (cA pb w h (sH pb s t b bd)):=by
 have hmo:UpM [pb] w h w h:=UpM.refl g;obtain ⟨wz,hz0_,hs⟩:=SS.at_ g ho hj;obtain ⟨v1,e1,hv1,hP0,hP1⟩:=vv hq;replace hs:=(hs.aB tb);refine go Tryz.func89 [(0,pB pb)] rfl (aa hs [.v 2 (.pointer none)] (aG (lL hs [.m 12 0] (cY 13 (iha pb s hsz a ha bd v1 e1 hv1 _ _ hs.g (hs.own 0) (hs.jk 0) hs.f.1) ?_))));rintro _ w2 h3 u4 ⟨tbq1,pq1,rfl,hbq1,hOq1,hSq1,hTq1⟩;replace hs:=(hs.stepM 0 u4 hOq1).to [⟨pb,52,[.string s,nV e1,iV bd]⟩] [];replace hmo:=hmo.trans u4;replace hs:=((hs.a_Seg hSq1).add (K:=fun h_=>PtH h_ pq1 v1) hTq1);refine lL hs [.m 3 13] (af (aa hs [.m 14 3,.v 15 qF,.m 16 15,.m 17 0] ?_));have hskq5:=dB (s:=s) (a:=e1) oM;refine cY 18 (gJ pb s hsz e1 oM bd 94 kD _ _ hs.g (hs.own 0) (hs.jk 0) hs.f.r.1) ?_;rintro _ w6 h7 u8 (⟨rfl,hcq5,hlq5,hOq5⟩|⟨rfl,hcq5,hOq5⟩)
 ·
  replace hs:=(hs.stepM 0 u8 hOq5).to [⟨pb,52,[.string s,nV (sk s e1+1),iV bd]⟩] [];replace hmo:=hmo.trans u8;have zb:=hcq5;obtain ⟨k,hnat,hbe_,hb3_,ht_⟩:=va (hP1 zb);refine lL hs [.v 19 qF,.v 20 qF] (ah (cK (aa hs [.m 22 0] ?_)));have hskq9:=dB (s:=s) (a:=(sk s e1+1)) oM;refine cY 23 (gJ pb s hsz (sk s e1+1) oM bd 45 kD _ _ hs.g (hs.own 0) (hs.jk 0) hs.f.r.1) ?_;rintro _ _ _ u12 (⟨rfl,hcq9,hlq9,hOq9⟩|⟨rfl,hcq9,hOq9⟩)
  ·
   replace hs:=(hs.stepM 0 u12 hOq9).to [⟨pb,52,[.string s,nV (sk s (sk s e1+1)+1),iV bd]⟩] [];replace hmo:=hmo.trans u12;rw[if_pos hcq9] at hnat hbe_ hb3_ ht_
   generalize hB1:sk s (sk s (sk s e1+1)+1)=B at hnat hbe_ hb3_ ht_
   rw[←Int.zero_sub] at ht_
   refine lL hs [.m 4 23] (aG (lL hs [.m 24 0] ?_));have hskB:=dB (s:=s) (a:=(sk s (sk s e1+1)+1)) oM;refine cY 25 (jd pb s hsz (sk s (sk s e1+1)+1) oM bd _ _ hs.g (hs.own 0) (hs.jk 0) hs.f.r.1) ?_;rintro _ _ _ u15 ⟨rfl,hOp⟩;rw[hB1] at hOp hskB
   rw[hB1];replace hs:=(hs.stepM 0 u15 hOp).to [⟨pb,52,[.string s,nV B,iV bd]⟩] [];replace hmo:=hmo.trans u15;have hdge:=oq iN s B;have hdgl:=iI (p:=iN) (s:=s) (a:=B) hskB;rw[←hbe_] at hdge hdgl
   have hxs:(s.extract B b).size=b-B:=by rw[ByteArray.size_extract];omega
   have hk9:=oW hnat oM;refine aG (lL hs [.m 26 0,.v 27 (pB pb),.v 28 (qP pb 1),.o 29 (nV B) 0 1 1,.m 5 29] (aG (lL hs [.m 30 0] (cY 31 (th 50 iN (fun _ _=>by kernel_rfl) (fun c hc w h g=>fJ c hc w h g) pb s hsz B oM bd _ _ hs.g (hs.own 0) (hs.jk 0) hs.f.r.1) ?_))));rintro _ _ _ u18 ⟨rfl,hOr⟩;rw[←hbe_] at hOr
   rw[←hbe_];replace hs:=(hs.stepM 0 u18 hOr).to [⟨pb,52,[.string s,nV b,iV bd]⟩] [];replace hmo:=hmo.trans u18;refine lL hs [.m 6 31] (af (aa hs [.m 32 6,.v 33 (nV ((s.extract B b).size))] ?_));have zd:(decide ((3:Int)<(((s.extract B b).size:Nat):Int)))=false:=decide_eq_false oM;refine lB 34 zd (ah (cK (aa hs [.m 39 6] (iz 40 (hnp (s.extract B b) k oM hnat _ _ hs.g) ?_))));rintro _ _ _ u22 rfl;replace hmo:=hmo.trans (u22.m _);replace hs:=hs.step u22;refine lL hs [.m 38 40,.v 41 (nv k),.v 42 qT] (qJ 7 24 ([uV 0,eS]) hs (fun zf _ _ u26 hlo_b23 hs=>?_));replace hlo_b23:=Nat.le_trans hmo.gr.size hlo_b23;replace hmo:=hmo.trans (u26.m _);refine kT 0 0 (nc k) hs (fun _ pu hs=>?_);replace hmo:=hmo.put2 pu hlo_b23 g hs.g;refine lL hs [.m 8 42] (af (aa hs [.m 43 8,.v 44 qF] (ah (cK (aa hs [.o 49 (nv k) 0 0 2] (iz 50 (gY k oM _ _ hs.g) ?_))))));rintro _ _ _ u30 rfl;replace hmo:=hmo.trans (u30.m _);replace hs:=hs.step u30;refine lL hs [.m 48 50,.v 51 (mV k),.v 52 qT,.m 9 51,.m 10 52] (lN (bQ [(2,.pointer none),(3,pB tbq1),(4,qT),(9,mV k)] ?_));refine aa hs [.m 53 3,.v 54 (pB tbq1)] (lH 55 (aF pq1) hs hs.f.2.1 ?_);refine iz 56 (tF 8 pq1 v1 _ _ hs.g hs.f.1) ?_;rintro _ _ _ u34 ⟨pq31,rfl,hTq31⟩;replace hmo:=hmo.trans (u34.m _);replace hs:=hs.step u34;replace hs:=(hs.add (K:=fun h_=>PtH h_ pq31 (iq 8 v1)) hTq31);refine qJ 11 31 ([iV 0,iV 0,qF,uV 0,eS,uV 0,eS,eS,sZ]) hs (fun za _ _ u38 hlo_b35 hs=>?_);replace hlo_b35:=Nat.le_trans hmo.gr.size hlo_b35;replace hmo:=hmo.trans (u38.m _);refine kT 0 0 (aK pq31) hs (fun _ pu hs=>?_);replace hmo:=hmo.put2 pu hlo_b35 g hs.g;refine aG (lL hs [.m 57 9] (lV 58 (nV k) ?_ (hr:=rS ((k:Int)) kR (lc oM oM))));refine lL hs [.v 59 (qP za 1)] (kT 0 1 ([nV k]) hs (fun _ pu hs=>?_));replace hmo:=hmo.put2 pu hlo_b35 g hs.g;refine af (aa hs [.m 60 4] (ao (kQ (lL hs [.v 61 (qP za 1),.o 62 (nV k) 0 1 1] (lI 63 (0-(k:Nat)) ?_)))));refine lL hs [.v 64 (qP za 1)] (kT 0 1 ([iV (0-(k:Nat))]) hs (fun _ pu hs=>?_));replace hmo:=hmo.put2 pu hlo_b35 g hs.g;refine aG (lL hs [.m 2 11] (lN (kX ?_)));obtain ⟨zg,hs,hmo,sg43⟩:=hs.pubM hmo 0 hlo_b35;replace hs:=hs.to [⟨zf,24,nc k⟩,⟨pb,52,[.string s,nV b,iV bd]⟩] [];have sg45:Seg zg za 0 (aK ⟨pq31.op,0-(k:Nat),pq31.q,pq31.s,pq31.A,pq31.m,pq31.c⟩):=sg43;replace hs:=hs.a_Seg sg45;exact hs.retM hmo [] (pB za) (by rw[ht_];exact ⟨za,⟨pq31.op,0-(k:Nat),pq31.q,pq31.s,pq31.A,pq31.m,pq31.c⟩,rfl,by first|assumption|omega,hs.own 1,hs.f.1,(PtH.setN hs.f.2.1 _)⟩)
  replace hs:=(hs.stepM 0 u12 hOq9).to [⟨pb,52,[.string s,nV (sk s (sk s e1+1)),iV bd]⟩] [];replace hmo:=hmo.trans u12;rw[if_neg hcq9] at hnat hbe_ hb3_ ht_
  generalize hB1:sk s (sk s (sk s e1+1))=B at hnat hbe_ hb3_ ht_
  refine lL hs [.m 4 23] (aG (lL hs [.m 24 0] ?_));have hskB:=dB (s:=s) (a:=(sk s (sk s e1+1))) oM;refine cY 25 (jd pb s hsz (sk s (sk s e1+1)) oM bd _ _ hs.g (hs.own 0) (hs.jk 0) hs.f.r.1) ?_;rintro _ _ _ u48 ⟨rfl,hOp⟩;rw[hB1] at hOp hskB
  rw[hB1];replace hs:=(hs.stepM 0 u48 hOp).to [⟨pb,52,[.string s,nV B,iV bd]⟩] [];replace hmo:=hmo.trans u48;have hdge:=oq iN s B;have hdgl:=iI (p:=iN) (s:=s) (a:=B) hskB;rw[←hbe_] at hdge hdgl
  have hxs:(s.extract B b).size=b-B:=by rw[ByteArray.size_extract];omega
  have hk9:=oW hnat oM;refine aG (lL hs [.m 26 0,.v 27 (pB pb),.v 28 (qP pb 1),.o 29 (nV B) 0 1 1,.m 5 29] (aG (lL hs [.m 30 0] (cY 31 (th 50 iN (fun _ _=>by kernel_rfl) (fun c hc w h g=>fJ c hc w h g) pb s hsz B oM bd _ _ hs.g (hs.own 0) (hs.jk 0) hs.f.r.1) ?_))));rintro _ _ _ u51 ⟨rfl,hOr⟩;rw[←hbe_] at hOr
  rw[←hbe_];replace hs:=(hs.stepM 0 u51 hOr).to [⟨pb,52,[.string s,nV b,iV bd]⟩] [];replace hmo:=hmo.trans u51;refine lL hs [.m 6 31] (af (aa hs [.m 32 6,.v 33 (nV ((s.extract B b).size))] ?_));have ze:(decide ((3:Int)<(((s.extract B b).size:Nat):Int)))=false:=decide_eq_false oM;refine lB 34 ze (ah (cK (aa hs [.m 39 6] (iz 40 (hnp (s.extract B b) k oM hnat _ _ hs.g) ?_))));rintro _ _ _ u55 rfl;replace hmo:=hmo.trans (u55.m _);replace hs:=hs.step u55;refine lL hs [.m 38 40,.v 41 (nv k),.v 42 qT] (qJ 7 24 ([uV 0,eS]) hs (fun zi _ _ u59 hlo_b56 hs=>?_));replace hlo_b56:=Nat.le_trans hmo.gr.size hlo_b56;replace hmo:=hmo.trans (u59.m _);refine kT 0 0 (nc k) hs (fun _ pu hs=>?_);replace hmo:=hmo.put2 pu hlo_b56 g hs.g;refine lL hs [.m 8 42] (af (aa hs [.m 43 8,.v 44 qF] (ah (cK (aa hs [.o 49 (nv k) 0 0 2] (iz 50 (gY k oM _ _ hs.g) ?_))))));rintro _ _ _ u63 rfl;replace hmo:=hmo.trans (u63.m _);replace hs:=hs.step u63;refine lL hs [.m 48 50,.v 51 (mV k),.v 52 qT,.m 9 51,.m 10 52] (lN (bQ [(2,.pointer none),(3,pB tbq1),(4,qF),(9,mV k)] ?_));refine aa hs [.m 53 3,.v 54 (pB tbq1)] (lH 55 (aF pq1) hs hs.f.2.1 ?_);refine iz 56 (tF 8 pq1 v1 _ _ hs.g hs.f.1) ?_;rintro _ _ _ u67 ⟨pq64,rfl,hTq64⟩;replace hmo:=hmo.trans (u67.m _);replace hs:=hs.step u67;replace hs:=(hs.add (K:=fun h_=>PtH h_ pq64 (iq 8 v1)) hTq64);refine qJ 11 31 ([iV 0,iV 0,qF,uV 0,eS,uV 0,eS,eS,sZ]) hs (fun zc _ _ u71 hlo_b68 hs=>?_);replace hlo_b68:=Nat.le_trans hmo.gr.size hlo_b68;replace hmo:=hmo.trans (u71.m _);refine kT 0 0 (aK pq64) hs (fun _ pu hs=>?_);replace hmo:=hmo.put2 pu hlo_b68 g hs.g;refine aG (lL hs [.m 57 9] (lV 58 (nV k) ?_ (hr:=rS ((k:Int)) kR (lc oM oM))));refine lL hs [.v 59 (qP zc 1)] (kT 0 1 ([nV k]) hs (fun _ pu hs=>?_));replace hmo:=hmo.put2 pu hlo_b68 g hs.g;refine af (aa hs [.m 60 4] (ah (cK (aa hs [.m 2 11] (lN (kX ?_))))));obtain ⟨zj,hs,hmo,sg75⟩:=hs.pubM hmo 0 hlo_b68;replace hs:=hs.to [⟨zi,24,nc k⟩,⟨pb,52,[.string s,nV b,iV bd]⟩] [];have sg77:Seg zj zc 0 (aK ⟨pq64.op,(k:Nat),pq64.q,pq64.s,pq64.A,pq64.m,pq64.c⟩):=sg75;replace hs:=hs.a_Seg sg77;exact hs.retM hmo [] (pB zc) (by rw[ht_];exact ⟨zc,⟨pq64.op,(k:Nat),pq64.q,pq64.s,pq64.A,pq64.m,pq64.c⟩,rfl,by first|assumption|omega,hs.own 1,hs.f.1,(PtH.setN hs.f.2.1 _)⟩)
 replace hs:=(hs.stepM 0 u8 hOq5).to [⟨pb,52,[.string s,nV (sk s e1),iV bd]⟩] [];replace hmo:=hmo.trans u8;have zb:=hcq5;refine lL hs [.v 19 qT,.v 20 qT] (ao (aa hs [.m 21 3,.m 2 21] (lN (kX ?_))));obtain ⟨ht_,hb_⟩:=hP0 zb;exact hs.retM hmo [] (pB tbq1) (by rw[ht_];rw[hb_];exact ⟨tbq1,pq1,rfl,by first|assumption|omega,hs.own 0,hs.f.2.1,hs.f.1⟩)
theorem C2  (hnf:lU nf)(hbf:wY bf)(ihc:EO nf bf n)(ihs:PC nf bf 12 n .sum)(pb:Nat)(s:ByteArray)(hsz:s.size≤1000000)(a:Nat)(ha:a≤s.size)(bd:Int)(t:Tm)(b:Nat)(hq:cl nf bf s (n+1) .atom a=some (.ok t b))(w:World)(h:Hp)(g:G w h)(ho:Own w pb 52 [.string s,nV a,iV bd])(hj:h[pb]?=some junk)(tb:Tab h):Calls Tryz.prog 116 #[pB pb] w (cA pb w h (sH pb s t b bd)):=by
 have hmo:UpM [pb] w h w h:=UpM.refl g;obtain ⟨wz,hz0_,hs⟩:=SS.at_ g ho hj;replace hs:=(hs.aB tb);refine go Tryz.func116 [(0,pB pb)] rfl (aa hs [.v 2 (.pointer none)] (aG (lL hs [.m 12 0] ?_)));have hskq1:=dB (s:=s) (a:=a) oM;refine cY 13 (jd pb s hsz a ha bd _ _ hs.g (hs.own 0) (hs.jk 0) hs.f.1) ?_;rintro _ w2 h3 u4 ⟨rfl,hOq1⟩;replace hs:=(hs.stepM 0 u4 hOq1).to [⟨pb,52,[.string s,nV (sk s a),iV bd]⟩] [];replace hmo:=hmo.trans u4;refine lL hs [.m 3 13] (aG (lL hs [.m 14 0,.v 15 (pB pb),.v 16 (qP pb 1),.o 17 (nV (sk s a)) 0 1 1,.m 4 17] (af (kZ (CG.join (fun Γ w_=>∃ (ze:Bool) (h_:Hp),Γ=[(0,pB pb),(2,.pointer none),(3,.int .u8 (ax s (sk s a):Nat)),(4,nV (sk s a)),(18,.bool ze)]∧SS wz hz0_ w_ h_ [⟨pb,52,[.string s,nV (sk s a),iV bd]⟩] [] [fun h_=>Tab h_]∧(ze=true→¬¬((48≤ax s (sk s a)∧ax s (sk s a)≤57)∨ax s (sk s a)=46))∧(ze=false→fT (ax s (sk s a))=false)∧UpM [pb] w h w_ h_) ?_ ?_)))))
 ·
  refine kQ (lL hs [.m 19 3] (iz 20 (fJ (ax s (sk s a)) (bS _ _) _ _ hs.g) ?_));rintro _ w5 h6 u7 rfl;replace hmo:=hmo.trans (u7.m _);replace hs:=hs.step u7;cases hb8:(decide (48≤ax s (sk s a)∧ax s (sk s a)≤57))
  ·
   have phb8:=oF hb8;refine lL hs [.m 21 20,.m 22 3] ?_;cases hb9:(((ax s (sk s a):Nat):Int) == (46:Int))
   ·
    have phb9:=ai hb9;refine lB 23 hb9 (lL hs [.v 24 qF,.m 18 24] (lD ?_));intro a_ ka;exact ⟨_,⟨false,h6,rfl,hs.to _ _,(fun h_=>absurd h_ kD),(fun _=>decide_eq_false oM),hmo⟩,ka.to _ kR⟩
   have phb9:=eq_of_beq hb9;refine lB 23 hb9 (lL hs [.v 24 qT,.m 18 24] (lD ?_));intro a_ ka;exact ⟨_,⟨true,h6,rfl,hs.to _ _,(fun _=>by omega),(fun h_=>absurd h_ kD),hmo⟩,ka.to _ kR⟩
  have phb8:=oT hb8;refine lL hs [.m 21 20] (lG 22 ?_);refine lG 23 (lL hs [.v 24 qT,.m 18 24] (lD ?_));intro a_ ka;exact ⟨_,⟨true,h6,rfl,hs.to _ _,(fun _=>by omega),(fun h_=>absurd h_ kD),hmo⟩,ka.to _ kR⟩
 rintro _ _ ⟨ze,_,rfl,hs,zo,hD18,hmo⟩;cases za:(ze)
 ·
  try rw[za] at hs
  try rw[za]
  refine cw (CG.join (fun Γ w_=>∃ (zf:Bool) (h_:Hp),Γ=[(0,pB pb),(2,.pointer none),(3,.int .u8 (ax s (sk s a):Nat)),(4,nV (sk s a)),(38,.bool zf)]∧SS wz hz0_ w_ h_ [⟨pb,52,[.string s,nV (sk s a),iV bd]⟩] [] [fun h_=>Tab h_]∧(zf=true→gj (ax s (sk s a))∨ax s (sk s a)=95)∧(zf=false→¬(gj (ax s (sk s a))∨ax s (sk s a)=95))∧UpM [pb] w h w_ h_) ?_ ?_)
  ·
   refine kQ (lL hs [.m 39 3] (iz 40 (gC (ax s (sk s a)) (bS _ _) _ _ hs.g) ?_));rintro _ _ zi u24 rfl;replace hmo:=hmo.trans (u24.m _);replace hs:=hs.step u24;cases zj:(decide (gj (ax s (sk s a))))
   ·
    have zm:=oF zj;refine lL hs [.m 41 40,.m 42 3] ?_;cases zb:(((ax s (sk s a):Nat):Int) == (95:Int))
    ·
     have zn:=ai zb;refine lB 43 zb (lL hs [.v 44 qF,.m 38 44] (lD ?_));intro a_ ka;exact ⟨_,⟨false,zi,rfl,hs.to _ _,(fun h_=>absurd h_ kD),(fun _ h_=>by rcases h_ with h_|h_;exact absurd h_ aM;omega),hmo⟩,ka.to _ kR⟩
    have zn:=eq_of_beq zb;refine lB 43 zb (lL hs [.v 44 qT,.m 38 44] (lD ?_));intro a_ ka;exact ⟨_,⟨true,zi,rfl,hs.to _ _,(fun _=>by first|exact .inl aM|exact .inr oM),(fun h_=>absurd h_ kD),hmo⟩,ka.to _ kR⟩
   have zm:=oT zj;refine lL hs [.m 41 40] (lG 42 ?_);refine lG 43 (lL hs [.v 44 qT,.m 38 44] (lD ?_));intro a_ ka;exact ⟨_,⟨true,zi,rfl,hs.to _ _,(fun _=>by first|exact .inl aM|exact .inr oM),(fun h_=>absurd h_ kD),hmo⟩,ka.to _ kR⟩
  rintro _ _ ⟨zf,_,rfl,hs,hW38,hN38,hmo⟩;cases zc:(zf)
  ·
   try rw[zc] at hs
   try rw[zc]
   refine cw (aa hs [.m 67 3] ?_)
   rcases Decidable.em (ax s (sk s a)=91) with zg|zg
   ·
    obtain ⟨hne9,q9,hbq9,ht_,hbe_⟩:=xx hq (hD18 aM) (hN38 aM) zg;have zp:(((ax s (sk s a):Nat):Int) == (91:Int))=true:=jR oM;refine lB 68 zp (lL hs [.m 66 68] (ao (aa hs [.m 69 0] (cY 70 (hbf pb s hsz (sk s a) oM bd q9 zg hne9 hbq9 _ _ hs.g (hs.own 0) (hs.jk 0) hs.f.1) ?_))));rintro _ _ _ u43 ⟨tbq40,pq40,rfl,hbq40,hOq40,hSq40,hTq40⟩;replace hs:=(hs.stepM 0 u43 hOq40).to [⟨pb,52,[.string s,nV (rn dh s (sk s a+1)+1),iV bd]⟩] [];replace hmo:=hmo.trans u43;replace hs:=((hs.a_Seg hSq40).add (K:=fun h_=>PtH h_ pq40 (bW q9)) hTq40);exact lL hs [.m 2 70] (lN (kX (hs.retM hmo [] (pB tbq40) (by rw[ht_];rw[hbe_];exact ⟨tbq40,pq40,rfl,by first|assumption|omega,hs.own 0,hs.f.2.1,hs.f.1⟩))))
   have zq:(((ax s (sk s a):Nat):Int) == (91:Int))=false:=cv oM;refine lB 68 zq (lL hs [.m 66 68] (ah (aa hs [.m 72 3] ?_)));have zs:ax s (sk s a)=40:=Decidable.byContradiction fun e_=>BK hq (hD18 aM) (hN38 aM) zg e_
   obtain ⟨e1,hq1,hd1,hbe_⟩:=vj hq (hD18 aM) (hN38 aM) zg zs;have hin_:=nj (s:=s) (a:=sk s a) oM;have zr:(((ax s (sk s a):Nat):Int) == (40:Int))=true:=jR oM;refine lB 73 zr (lL hs [.m 71 73] (ao (aa hs [.m 74 0,.v 75 (pB pb),.v 76 (qP pb 1),.o 77 (nV (sk s a)) 0 1 1] (bH 78 ((sk s a:Nat)+1) ((sk s a)+1) ?_))));refine lL hs [.v 79 (pB pb),.v 80 (qP pb 1)] (kT 0 1 ([nV ((sk s a)+1)]) hs (fun _ pu hs=>?_));replace hmo:=hmo.put pu (List.mem_singleton.2 rfl) hs.g;refine aG (lL hs [.m 81 0] (cY 82 (ihs pb s hsz ((sk s a)+1) oM bd t e1 hq1 _ _ hs.g (hs.own 0) (hs.jk 0) hs.f.1) ?_));rintro _ _ _ u50 ⟨tbq47,pq47,rfl,hbq47,hOq47,hSq47,hTq47⟩;replace hs:=(hs.stepM 0 u50 hOq47).to [⟨pb,52,[.string s,nV e1,iV bd]⟩] [];replace hmo:=hmo.trans u50;replace hs:=((hs.a_Seg hSq47).add (K:=fun h_=>PtH h_ pq47 t) hTq47);refine lL hs [.m 11 82] (af (aa hs [.m 83 11,.v 84 qT,.m 85 84,.m 86 0] (cY 87 (jH pb s hsz e1 oM bd 41 kD hd1 _ _ hs.g (hs.own 0) (hs.jk 0) hs.f.r.1) ?_)));rintro _ _ _ u54 ⟨rfl,hlq51,hOq51⟩;replace hs:=(hs.stepM 0 u54 hOq51).to [⟨pb,52,[.string s,nV (sk s e1+1),iV bd]⟩] [];replace hmo:=hmo.trans u54;exact lL hs [.v 88 qF,.v 89 qF] (ah (cK (aa hs [.m 96 11,.m 2 96] (lN (kX (hs.retM hmo [] (pB tbq47) (by rw[hbe_];exact ⟨tbq47,pq47,rfl,by first|assumption|omega,hs.own 0,hs.f.2.1,hs.f.1⟩)))))))
  try rw[zc] at hs
  try rw[zc]
  refine ce (aa hs [.m 45 0] ?_);have hcW:=hW38 aM;have hbl_:=iI (p:=bO) (s:=s) (a:=sk s a) oM;refine cY 46 (th 26 bO (fun _ _=>by kernel_rfl) (fun c hc w h g=>jL c hc w h g) pb s hsz (sk s a) oM bd _ _ hs.g (hs.own 0) (hs.jk 0) hs.f.1) ?_;rintro _ _ _ u57 ⟨rfl,hOr⟩;replace hs:=(hs.stepM 0 u57 hOr).to [⟨pb,52,[.string s,nV (rn bO s (sk s a)),iV bd]⟩] [];replace hmo:=hmo.trans u57;refine lL hs [.m 8 46] (af (aE (iz 48 (kw _ _ hs.g) ?_)));rintro _ _ _ u60 ⟨bm,rfl,hcm⟩;replace hmo:=hmo.trans (u60.m _);replace hs:=hs.step u60;replace hs:=(hs.add (K:=fun h_=>MapS h_ bm fl) hcm);refine lL hs [.m 49 8] (DH 50 77 9 3 (s.extract (sk s a) (rn bO s (sk s a))) true (iV (da (s.extract (sk s a) (rn bO s (sk s a))))) ((bU (s.extract (sk s a) (rn bO s (sk s a))))) hs hs.f.1 ?_ (hf:=(by rcases kr (s.extract (sk s a) (rn bO s (sk s a))) with ⟨i_,e1_,e2_⟩|⟨e1_,e2_,e3_⟩;exact .inl ⟨i_,e1_,e2_⟩;exact .inr ⟨e1_,e2_,fun _=>by rw[e3_];kernel_rfl⟩)));refine lL hs [.m 47 50,.v 51 (iV (da (s.extract (sk s a) (rn bO s (sk s a))))),.v 52 (.bool (bU (s.extract (sk s a) (rn bO s (sk s a))))),.m 9 51,.m 10 52] (aG (lL hs [.m 53 10] (lN ?_)));cases zd:((bU (s.extract (sk s a) (rn bO s (sk s a)))))
  ·
   try rw[zd] at hs
   try rw[zd]
   refine cw (cK (cQ (aa hs [.m 57 8] ?_)));obtain ⟨hnm,ht_,hbe_⟩:=tT hq (hD18 aM) hcW aM;refine iz 58 ((by have q_:=pn (s.extract (sk s a) (rn bO s (sk s a))) (by rw[ByteArray.size_extract];omega) _ _ hs.g;rw[hnm] at q_;exact q_)) ?_;rintro _ _ _ u64 rfl;replace hmo:=hmo.trans (u64.m _);replace hs:=hs.step u64;refine lL hs [.v 59 qF] (ah (cK (aa hs [.m 63 8,.v 64 (.agg #[iV 2,iV 0,qF,uV 0,eS,uV 0,eS,.string (s.extract (sk s a) (rn bO s (sk s a))),sZ])] (qJ 65 31 ([iV 2,iV 0,qF,uV 0,eS,uV 0,eS,.string (s.extract (sk s a) (rn bO s (sk s a))),sZ]) hs (fun zk _ _ u68 hlo_b65 hs=>?_)))));replace hlo_b65:=Nat.le_trans hmo.gr.size hlo_b65;replace hmo:=hmo.trans (u68.m _);refine lL hs [.m 2 65] (lN (kX ?_));obtain ⟨zt,hs,hmo,sg70⟩:=hs.pubM hmo 0 hlo_b65;replace hs:=hs.to [⟨pb,52,[.string s,nV (rn bO s (sk s a)),iV bd]⟩] [];have sg72:Seg zt zk 0 (aK ⟨2,0,0,(s.extract (sk s a) (rn bO s (sk s a))),none,0,0⟩):=sg70;replace hs:=hs.a_Seg sg72;exact hs.retM hmo [] (pB zk) (by rw[ht_];rw[hbe_];exact ⟨zk,⟨2,0,0,(s.extract (sk s a) (rn bO s (sk s a))),none,0,0⟩,rfl,by first|assumption|omega,hs.own 0,hs.f.1,PtH.nam⟩)
  try rw[zd] at hs
  try rw[zd]
  refine ce (aa hs [.m 54 0,.m 55 9] (cY 56 (ihc (da (s.extract (sk s a) (rn bO s (sk s a)))) (mK aM) pb s hsz (rn bO s (sk s a)) oM bd t b (AK hq (hD18 aM) hcW aM) _ _ hs.g (hs.own 0) (hs.jk 0) hs.f.2.1) ?_));rintro _ _ _ u76 ⟨tbq73,pq73,rfl,hbq73,hOq73,hSq73,hTq73⟩;replace hs:=(hs.stepM 0 u76 hOq73).to [⟨pb,52,[.string s,nV b,iV bd]⟩] [];replace hmo:=hmo.trans u76;replace hs:=((hs.a_Seg hSq73).add (K:=fun h_=>PtH h_ pq73 t) hTq73);exact lL hs [.m 2 56] (lN (kX (hs.retM hmo [] (pB tbq73) (by exact ⟨tbq73,pq73,rfl,by first|assumption|omega,hs.own 0,hs.f.2.1,hs.f.1⟩))))
 try rw[za] at hs
 try rw[za]
 refine ce (aa hs [.m 26 0] ?_);obtain ⟨q,hnq,ht_,hbe_⟩:=vD hq (decide_eq_true (Decidable.byContradiction fun h_=>zo aM h_));have hbl_:=iI (p:=fT) (s:=s) (a:=sk s a) oM;refine cY 27 (th 148 fT (fun _ _=>by kernel_rfl) (fun c hc w h g=>Ew c hc w h g) pb s hsz (sk s a) oM bd _ _ hs.g (hs.own 0) (hs.jk 0) hs.f.1) ?_;rintro _ _ _ u79 ⟨rfl,hOr⟩;rw[←hbe_] at hOr hbl_
 replace hs:=(hs.stepM 0 u79 hOr).to [⟨pb,52,[.string s,nV b,iV bd]⟩] [];replace hmo:=hmo.trans u79;refine iz 28 (hnf _ _ hnq _ _ hs.g hs.f.1) ?_;rintro _ _ _ u82 rfl;replace hmo:=hmo.trans (u82.m _);replace hs:=hs.step u82;refine lL hs [.m 25 28,.v 29 (qv q),.v 30 qT] (qJ 5 28 ([qF,uV 0,eS,uV 0,eS]) hs (fun zu _ _ u86 hlo_b83 hs=>?_));replace hlo_b83:=Nat.le_trans hmo.gr.size hlo_b83;replace hmo:=hmo.trans (u86.m _);refine kT 0 0 (qc q) hs (fun _ pu hs=>?_);replace hmo:=hmo.put2 pu hlo_b83 g hs.g;refine lL hs [.m 6 30] (af (aa hs [.m 31 6,.v 32 qF] (ah (cK (aa hs [.o 36 (qv q) 0 0 5] (iz 37 (nU q _ _ hs.g) ?_))))));rintro _ _ _ u91 ⟨pq88,rfl,hTq88⟩;replace hmo:=hmo.trans (u91.m _);replace hs:=hs.step u91;replace hs:=(hs.add (K:=fun h_=>PtH h_ pq88 (bW q)) hTq88);refine qJ 7 31 ([iV 0,iV 0,qF,uV 0,eS,uV 0,eS,eS,sZ]) hs (fun zl _ _ u95 hlo_b92 hs=>?_);replace hlo_b92:=Nat.le_trans hmo.gr.size hlo_b92;replace hmo:=hmo.trans (u95.m _);refine kT 0 0 (aK pq88) hs (fun _ pu hs=>?_);replace hmo:=hmo.put2 pu hlo_b92 g hs.g;refine aG (lL hs [.m 2 7] (lN (kX ?_)));obtain ⟨zv,hs,hmo,sg98⟩:=hs.pubM hmo 0 hlo_b92;replace hs:=hs.to [⟨zu,28,qc q⟩,⟨pb,52,[.string s,nV b,iV bd]⟩] [];have sg100:Seg zv zl 0 (aK pq88):=sg98;replace hs:=hs.a_Seg sg100;exact hs.retM hmo [] (pB zl) (by rw[ht_];exact ⟨zl,pq88,rfl,by first|assumption|omega,hs.own 1,hs.f.1,hs.f.2.1⟩)
theorem CW  (op:Int)(hop:9≤op∧op≤13)(ihs:PC nf bf 12 n .sum)(pb:Nat)(s:ByteArray)(hsz:s.size≤1000000)(a:Nat)(ha:a≤s.size)(bd:Int)(t:Tm)(b:Nat)(hq:cl nf bf s (n+1) (.call op) a=some (.ok t b))(w:World)(h:Hp)(g:G w h)(ho:Own w pb 52 [.string s,nV a,iV bd])(hj:h[pb]?=some junk)(tb:Tab h):Calls Tryz.prog 149 #[pB pb,iV op] w (cA pb w h (sH pb s t b bd)):=by
 have hmo:UpM [pb] w h w h:=UpM.refl g;obtain ⟨wz,hz0_,hs⟩:=SS.at_ g ho hj;obtain ⟨zb,u1,e1,hq1,hA,hB⟩:=qM hq;replace hs:=(hs.aB tb);refine go Tryz.func149 [(0,pB pb),(1,iV op)] rfl (aa hs [.v 4 (.pointer none)] (af (aa hs [.m 8 0] (cY 9 (jH pb s hsz a ha bd 40 kD zb _ _ hs.g (hs.own 0) (hs.jk 0) hs.f.1) ?_))));rintro _ w2 h3 u4 ⟨rfl,hlq1,hOq1⟩;replace hs:=(hs.stepM 0 u4 hOq1).to [⟨pb,52,[.string s,nV (sk s a+1),iV bd]⟩] [];replace hmo:=hmo.trans u4;refine lL hs [.v 10 qF] (ah (cK (aa hs [.m 17 0] (cY 18 (ihs pb s hsz (sk s a+1) oM bd u1 e1 hq1 _ _ hs.g (hs.own 0) (hs.jk 0) hs.f.1) ?_))));rintro _ w6 h7 u8 ⟨tbq5,pq5,rfl,hbq5,hOq5,hSq5,hTq5⟩;replace hs:=(hs.stepM 0 u8 hOq5).to [⟨pb,52,[.string s,nV e1,iV bd]⟩] [];replace hmo:=hmo.trans u8;replace hs:=((hs.a_Seg hSq5).add (K:=fun h_=>PtH h_ pq5 u1) hTq5);refine lL hs [.m 5 18] (af (aa hs [.m 19 5,.v 20 qF] (ah (cK (aa hs [.m 21 1,.m 22 5,.v 23 (pB tbq5)] (lH 24 (aF pq5) hs hs.f.2.1 ?_))))));refine iz 25 (tF op pq5 u1 _ _ hs.g hs.f.1) ?_;rintro _ _ _ u12 ⟨pq9,rfl,hTq9⟩;replace hmo:=hmo.trans (u12.m _);replace hs:=hs.step u12;replace hs:=(hs.add (K:=fun h_=>PtH h_ pq9 (iq op u1)) hTq9);refine qJ 6 31 ([iV 0,iV 0,qF,uV 0,eS,uV 0,eS,eS,sZ]) hs (fun za _ _ u16 hlo_b13 hs=>?_);replace hlo_b13:=Nat.le_trans hmo.gr.size hlo_b13;replace hmo:=hmo.trans (u16.m _);refine kT 0 0 (aK pq9) hs (fun _ pu hs=>?_);replace hmo:=hmo.put2 pu hlo_b13 g hs.g;refine af (aa hs [.m 26 1] (iz 27 (nX op _ _ hs.g) ?_));rintro _ _ _ u20 rfl;replace hmo:=hmo.trans (u20.m _);replace hs:=hs.step u20
 rcases vt hop with ⟨ho2,har⟩|⟨ho2,har⟩
 ·
  have zc:((eF op:Int) == (2:Int))=true:=by rw[har];rfl
  refine lB 28 zc ?_;obtain ⟨hA1,v1,f1,hA2,hA3,hA4,hA5⟩:=hA ho2;refine ao (cQ (aa hs [.m 29 0] (cY 30 (jH pb s hsz e1 oM bd 44 kD hA1 _ _ hs.g (hs.own 1) (hs.jk 1) hs.f.r.2.1) ?_)));rintro _ _ _ u25 ⟨rfl,hlq22,hOq22⟩;replace hs:=(hs.stepM 1 u25 hOq22).to [⟨za,31,aK pq9⟩,⟨pb,52,[.string s,nV (sk s e1+1),iV bd]⟩] [];replace hmo:=hmo.trans u25;refine lL hs [.v 31 qF] (ah (cK (aa hs [.m 38 0] (cY 39 (ihs pb s hsz (sk s e1+1) oM bd v1 f1 hA2 _ _ hs.g (hs.own 1) (hs.jk 1) hs.f.r.2.1) ?_))));rintro _ _ _ u29 ⟨tbq26,pq26,rfl,hbq26,hOq26,hSq26,hTq26⟩;replace hs:=(hs.stepM 1 u29 hOq26).to [⟨za,31,aK pq9⟩,⟨pb,52,[.string s,nV f1,iV bd]⟩] [];replace hmo:=hmo.trans u29;replace hs:=((hs.a_Seg hSq26).add (K:=fun h_=>PtH h_ pq26 v1) hTq26);refine lL hs [.m 7 39] (af (aa hs [.m 40 7,.v 41 qF] (ah (cK (cR 8 [] mixed hs av ?_)))));refine eV 0 42 (iV op) (eV 1 43 (pB tbq5) (eV 2 44 (pB tbq5) (eH 3 45 (aF pq5) hs hs.f.q.1 (eV 4 46 (pB tbq26) (eV 5 47 (pB tbq26) (eH 6 48 (aF pq26) hs hs.f.2.1 (wQ 7 49 hs hmo (fun _ _ hs=>rR op pq5 pq26 u1 v1 _ _ hs.g hs.f.r.2.1 hs.f.1) ?_)))))));rintro _ _ _ _ _ hmo hs ⟨pq30,rfl,hTq30⟩;replace hs:=(hs.add (K:=fun h_=>PtH h_ pq30 (bB op u1 v1)) hTq30);refine iP hs (fun _ _ u35 hs=>?_);replace hmo:=hmo.trans (u35.m _);refine Dt 8 0 0 (aK pq30) hs (fun _ pu hs=>?_);replace hmo:=hmo.put2 pu hlo_b13 g hs.g;refine tN (cQ (aa hs [.m 50 0] (cY 51 (jH pb s hsz f1 oM bd 41 kD hA3 _ _ hs.g (hs.own 1) (hs.jk 1) hs.f.q.r.1) ?_)));rintro _ _ _ u40 ⟨rfl,hlq37,hOq37⟩;replace hs:=(hs.stepM 1 u40 hOq37).to [⟨za,31,aK pq30⟩,⟨pb,52,[.string s,nV (sk s f1+1),iV bd]⟩] [];replace hmo:=hmo.trans u40;refine lL hs [.v 52 qF] (ah (cK (aa hs [.m 4 6] (lN (kX ?_)))));obtain ⟨ze,hs,hmo,sg42⟩:=hs.pubM hmo 0 hlo_b13;replace hs:=hs.to [⟨pb,52,[.string s,nV (sk s f1+1),iV bd]⟩] [];have sg44:Seg ze za 0 (aK pq30):=sg42;replace hs:=hs.a_Seg sg44;exact hs.retM hmo [] (pB za) (by rw[hA4];rw[hA5];exact ⟨za,pq30,rfl,by first|assumption|omega,hs.own 0,hs.f.1,hs.f.2.1⟩)
 have zd:((eF op:Int) == (2:Int))=false:=by rw[har];rfl
 refine lB 28 zd ?_;obtain ⟨hB1,hB2,hB3⟩:=hB ho2;refine ah (cK (cQ (aa hs [.m 50 0] (cY 51 (jH pb s hsz e1 oM bd 41 kD hB1 _ _ hs.g (hs.own 1) (hs.jk 1) hs.f.r.2.1) ?_))));rintro _ _ _ u49 ⟨rfl,hlq46,hOq46⟩;replace hs:=(hs.stepM 1 u49 hOq46).to [⟨za,31,aK pq9⟩,⟨pb,52,[.string s,nV (sk s e1+1),iV bd]⟩] [];replace hmo:=hmo.trans u49;refine lL hs [.v 52 qF] (ah (cK (aa hs [.m 4 6] (lN (kX ?_)))));obtain ⟨zf,hs,hmo,sg51⟩:=hs.pubM hmo 0 hlo_b13;replace hs:=hs.to [⟨pb,52,[.string s,nV (sk s e1+1),iV bd]⟩] [];have sg53:Seg zf za 0 (aK pq9):=sg51;replace hs:=hs.a_Seg sg53;exact hs.retM hmo [] (pB za) (by rw[hB2];rw[hB3];exact ⟨za,pq9,rfl,by first|assumption|omega,hs.own 0,hs.f.1,hs.f.2.1⟩)
end
section
variable {nf bf:ByteArray→Option Rat} (hnf:lU nf) (hnp:vH) (hbf:wY bf)
include hnf hnp hbf
def Et (nf bf:ByteArray→Option Rat)(n:Nat):Prop:=PC nf bf 12 n .sum∧PC nf bf 29 n .prod∧PC nf bf 53 n .sign∧PC nf bf 89 n .pow∧PC nf bf 116 n .atom∧EO nf bf n
theorem x5 (n:Nat):Et nf bf n:=by
  induction n using Nat.strongRecOn with
  | ind n ih =>
    cases n with
    | zero=>exact ⟨fun _ _ _ _ _ _ _ _ h=>(by cases h),fun _ _ _ _ _ _ _ _ h=>(by cases h),fun _ _ _ _ _ _ _ _ h=>(by cases h),fun _ _ _ _ _ _ _ _ h=>(by cases h),fun _ _ _ _ _ _ _ _ h=>(by cases h),fun _ _ _ _ _ _ _ _ _ _ h=>(by cases h)⟩
    | succ n =>
      have i:=ih n (Nat.lt_succ_self n);refine ⟨?_,?_,?_,?_,?_,?_⟩
      · exact fun pb s h1 a h2 bd t b hq w h g ho hj tb=>DR n (fun m hm=>(ih m oM).2.1) pb s h1 a h2 bd t b hq w h g ho hj tb
      · exact fun pb s h1 a h2 bd t b hq w h g ho hj tb=>sV n (fun m hm=>(ih m oM).2.2.1) pb s h1 a h2 bd t b hq w h g ho hj tb
      · exact fun pb s h1 a h2 bd t b hq w h g ho hj tb=>tH n i.2.2.1 i.2.2.2.1 pb s h1 a h2 bd t b hq w h g ho hj tb
      · exact fun pb s h1 a h2 bd t b hq w h g ho hj tb=>Bw n hnp i.2.2.2.2.1 pb s h1 a h2 bd t b hq w h g ho hj tb
      · exact fun pb s h1 a h2 bd t b hq w h g ho hj tb=>C2 n hnf hbf i.2.2.2.2.2 i.1 pb s h1 a h2 bd t b hq w h g ho hj tb
      · exact fun op hop pb s h1 a h2 bd t b hq w h g ho hj tb=>CW n op hop i.1 pb s h1 a h2 bd t b hq w h g ho hj tb
end
theorem Cu (a b:Nat)(h1:b≤a)(h2:a<256):IntKind.wrap .u8 ((a:Int)-(b:Int))=((a-b:Nat):Int):=by
 rw[show (a:Int)-(b:Int)=((a-b:Nat):Int) by omega];exact Cs oM oM
theorem kP {a:Nat}(h:a<18446744073709551616):Wd (if a=0 then [] else [a]):=by
 split
 ·exact Dg.nil
 ·intro x hx
  rw[List.mem_singleton] at hx;rw[hx];exact h
theorem gV (a:Nat):aA (if a=0 then [] else [a])=a:=by
 split
 ·rename_i e;rw[e];rfl
 ·show a+18446744073709551616*0=a;omega
theorem nw {c:UInt8}:∀ (l:List UInt8),(∀ b∈l,b≠c)→Lib.indexByte l c = -1
  | [],_=>rfl
  | b::l,h=>by
    have h1:(b == c)=false:=by simpa using h b List.mem_cons_self
    unfold Lib.indexByte
    rw[h1,nw l (fun b hb=>h b (List.mem_cons_of_mem _ hb))];rfl
theorem uI {s:ByteArray}{b:UInt8}(h:b∈s.data.toList):∃ i,i<s.size∧ax s i=b.toNat:=by
 obtain ⟨i,hi,e⟩:=List.mem_iff_getElem.1 h;refine ⟨i,by simpa using hi,?_⟩
 unfold ax
 rw[List.getD_eq_getElem?_getD,List.getElem?_eq_getElem hi,e];rfl
theorem ue (x:ByteArray)(c:UInt8)(hn:∀ i,i<x.size→ax x i≠c.toNat)(w:World)(h:Hp)(g:G w h):CV 108 #[.string x,.string ⟨#[c]⟩] w h (iV (-1)):=by
 have q:=Ret.of_same g (Tryz.stringslite_Index_one x c w)
 rw[nw _ (fun b hb e=>by
  obtain ⟨i,hi,h1⟩:=uI hb;exact hn i hi (by rw[h1,e]))] at q
 exact q
theorem xQ {x:ByteArray}{c:UInt8}(h:ax x 0≠c.toNat):Lib.hasPrefix x.data.toList [c]=false:=by
  unfold Lib.hasPrefix
  unfold ax at h
  cases e:x.data.toList with
  | nil=>rfl
  | cons b l =>
    rw[e] at h
    have:b≠c:=fun e2=>h (by rw[e2];rfl)
    simp[List.isPrefixOf,Ne.symm this]
theorem iH (x:ByteArray)(c:UInt8)(hn:ax x 0≠c.toNat)(w:World)(h:Hp)(g:G w h):CV 189 #[.string x,.string ⟨#[c]⟩] w h (.tuple #[.string x,.bool false]):=by
 have q:=Ret.of_same g (Tryz.strings_CutPrefix x ⟨#[c]⟩ w);have e:Lib.hasPrefix x.data.toList [c]=false:=xQ hn;have e2:(⟨(Lib.trimPrefix x.data.toList [c]).toArray⟩:ByteArray)=x:=by unfold Lib.trimPrefix;rw[e];simp
 have q2:CV 189 #[.string x,.string ⟨#[c]⟩] w h (.tuple #[.string ⟨(Lib.trimPrefix x.data.toList [c]).toArray⟩,.bool (Lib.hasPrefix x.data.toList [c])]):=q;rw[e,e2] at q2;exact q2
theorem oB (m a:Nat)(ha:a<18446744073709551616)(w:World)(h:Hp)(g:G w h):CR 151 #[.slice none ((([]:List Nat)).length) 0,mV m,mV a] w h (fun v h1=>∃ (A:Option Addr) (c:Nat) (l:List Nat),v=.slice A l.length c∧l.length≤c∧SlO 1 aj 0 h1 A l∧l=if a=0 then [] else [a]):=by
 have hs:=(sS g).nil 22 1;have hnil:([]:List Nat).length=0:=rfl;refine go Tryz.func151 [(0,qS none ((([]:List Nat)).length) 0),(1,mV m),(2,mV a)] rfl (aa hs [.v 6 (sZ)] (aG (lL hs [.m 13 2,.m 7 13] (af (aa hs [.m 14 0,.v 15 (iV 0),.v 16 (iV 0)] (bn (cU ?_)))))));refine cN (aa hs [.v 17 qF] (af (cw (CG.exit ?_))))
 show CG _ _ _ _ _ _ _ _
 refine cQ (aa hs [.m 42 7] ?_);cases hb1:((a:Int) != (0:Int))
 ·
  have phb1:=az hb1;exact lB 43 hb1 (ah (cK (aa hs [.m 48 0,.m 6 48] (ac hs [] (qS none ((([]:List Nat)).length) 0) (⟨none,0,[],rfl,nR _,SlO.nil,by rw[if_pos oM]⟩)))))
 have phb1:=aY hb1;refine lB 43 hb1 (ao (kQ (lL hs [.m 44 0,.m 45 7] (lR 46 22 1 ([mV a]) hs (fun b2 w3 h4 hs=>lY 47 0 22 1 0 none ([]:List Nat) aj a 8 b2 (uV 0) hs hs.f.1 (fun A6 c7 w8 h9 hs=>lL hs [.m 0 47] (aG (lL hs [.m 48 0,.m 6 48] (lN (kX ?_))))))))));obtain ⟨_,hs,za⟩:=hs.pubr 0 (A:=A6) (c:=c7) (l:=([]:List Nat)++[a]) (f:=aj) (ty:=22) (sz:=1) 0 (fun _=>rfl);have hfin:=(hs.f.1);exact hs.ret [] (qS A6 ((([]:List Nat)++[a]).length) c7) (⟨_,_,_,rfl,za,hfin,by rw[if_neg oM];rfl⟩)
theorem gZ (x:ByteArray)(k:Nat)(hx:x.size≤18)(hk_:gu x=some k)(w:World)(h:Hp)(g:G w h):CV 118 #[.string x] w h (.tuple #[nv k,.bool true]):=by
 have hs:=sS g;obtain ⟨h1,h0,hdg,hkd⟩:=fO hk_;refine go Tryz.func118 [(0,.string x)] rfl (aE (lA 2 24 ([uV 0,eS]) hs (fun b1 w2 h3 hs=>lL hs [.v 3 qF] (af (aa hs [.m 8 0,.v 9 (nV x.size)] ?_)))));cases hb4:((x.size:Int) == (0:Int))
 ·
  have phb4:=ai hb4;refine lB 10 hb4 (lL hs [.m 11 10,.m 12 0,.v 13 (nV x.size)] ?_);cases hb5:(decide ((200:Int)<(x.size:Int)))
  ·
   have phb5:=oF hb5;refine lB 14 hb5 (lL hs [.v 15 qF,.m 16 15,.m 17 0,.v 18 (nV x.size)] ?_);cases hb6:(decide ((1:Int)<(x.size:Int)))
   ·
    have phb6:=oF hb6;refine lB 19 hb6 (lL hs [.m 20 19] (lG 21 ?_));refine lG 22 (lG 23 (lL hs [.v 24 qF,.v 25 qF] (ah (cK (aa hs [.v 4 (sZ)] (aG (lL hs [.v 5 (uV 0),.v 6 (uV 1)] (af (aa hs [.m 27 0,.v 28 (nV x.size),.v 29 (iV 0)] (bn ?_))))))))));replace hs:=hs.add (K:=fun h_=>SlO 1 aj 0 h_ none ([])) (SlO.nil);refine bQ _ (CG.loop (fun μ_ Γ w_=>∃ (j:Nat) (A:Option Addr) (c:Nat) (l:List Nat) (pt:Nat) (un:Nat) (h_:Hp),μ_=x.size-j∧Γ=[(0,.string x),(2,pB b1),(28,nV x.size),(29,nV j),(4,qS A l.length c),(5,mV pt),(6,mV un)]∧SS w h w_ h_ [⟨b1,24,[uV 0,eS]⟩] [] [fun h_=>SlO 1 aj 0 h_ A l]∧j≤x.size∧l.length≤c∧(j<x.size→A=none∧c=0∧l=[]∧pt=dv x j∧un=10^j)∧(j=x.size→l.length≤1)∧(j=x.size→Wd l)∧(j=x.size→aA l=dv x j)) _ ⟨0,none,0,[],0,1,h3,rfl,rfl,hs.to _ _,Nat.zero_le _,nR _,(fun _=>⟨rfl,rfl,rfl,rfl,rfl⟩),(fun _=>Nat.zero_le _),(fun _=>Dg.nil),(fun h_=>absurd h_ oM)⟩ ?_);rintro _ _ w7 ⟨j,A,c,l,pt,un,h8,hm9,rfl,hs,hk,hcl,hI,hL,hW,hV⟩;have hd_:=hdg j;have hb_:=ot (x:=x) j (fun i hi=>hdg i oM);have hp_:10^j≤10^18:=Nat.pow_le_pow_right kD oM;have hs_:dv x (j+1)=dv x j*10+(ax x j-48):=rfl;have ht_:10^(j+1)=10^j*10:=Nat.pow_succ ..;refine aE ?_;cases za:(decide ((j:Int)<(x.size:Int)))
    ·
     have zm:=oF za;refine lB 30 za (af (cw (CG.exit ?_)))
     show CG _ _ _ _ _ _ _ _
     exact aa hs [.m 67 4] (ag 68 hs (sP A c l (hW oM) (by have:=hL oM;omega) hcl _ _ hs.g hs.f.1) (fun _ _ hs=>lP 0 0 (nc (aA l)) hs (fun _ hs=>lL hs [.v 3 qT] (ac hs [(0,0,2)] (.tuple #[nv (aA l),qT]) (by rw[hV oM,show j=x.size by omega,←hkd])))))
    have zm:=oT za;refine lB 30 za (af (ce (cK (cQ (kZ ?_)))));obtain ⟨hA0,hc0,hl0,hpt,hun⟩:=hI oM;have hd2_:=hd_ oM;have hp2_:10^(j+1)≤10^18:=Nat.pow_le_pow_right kD oM;refine aa hs [.m 31 29,.m 7 31] (af (aa hs [.m 32 0,.m 33 7] (lV 34 (.int .u8 (ax x j:Nat)) ?_ (hr:=cj (tx:=9) (x:=.tmp 32) (i:=.tmp 33) (k:=.i64) (s:=x) (n:=j) (j:=(j:Int)) kR kR kR kR oM oM _))));cases zb:(decide (((ax x j:Nat):Int)<(48:Int)))
    ·
     have zn:=oF zb;refine lB 35 zb (lL hs [.m 36 35,.m 37 0,.m 38 7] (lV 39 (.int .u8 (ax x j:Nat)) ?_ (hr:=cj (tx:=9) (x:=.tmp 37) (i:=.tmp 38) (k:=.i64) (s:=x) (n:=j) (j:=(j:Int)) kR kR kR kR oM oM _)));cases zc:(decide ((57:Int)<((ax x j:Nat):Int)))
     ·
      have zo:=oF zc;refine lB 40 zc (lL hs [.v 41 qF] (ah (cK (aa hs [.m 43 5] (lV 44 (mV (pt*10)) ?_ (hr:=rU (((pt:Int)*(10:Int))) kR (fr pt 10 oM)))))));refine lL hs [.m 45 0,.m 46 7] (lV 47 (.int .u8 (ax x j:Nat)) ?_ (hr:=cj (tx:=9) (x:=.tmp 45) (i:=.tmp 46) (k:=.i64) (s:=x) (n:=j) (j:=(j:Int)) kR kR kR kR oM oM _));refine lV 48 (.int .u8 ((ax x j)-48:Nat)) ?_ (hr:=aU (n:=IntKind.wrap .u8 (((ax x j:Nat):Int)-(48:Int))) kR (Cu (ax x j) 48 oM oM));refine lV 49 (mV ((ax x j)-48)) ?_ (hr:=rU ((((ax x j)-48:Nat):Int)) kR (bx oM oM));refine lV 50 (mV ((pt*10)+((ax x j)-48))) ?_ (hr:=rU ((((pt*10:Nat):Int)+(((ax x j)-48:Nat):Int))) kR (e9 (pt*10) ((ax x j)-48) oM));refine lL hs [.m 51 6] (lV 52 (mV (un*10)) ?_ (hr:=rU (((un:Int)*(10:Int))) kR (fr un 10 oM)));refine lL hs [.m 5 50,.m 6 52] (aG (lL hs [.m 53 6] ?_));cases zd:(((un*10:Nat):Int) == (10000000000000000000:Int))
      ·
       have zp:=ai zd;refine lB 54 zd (lL hs [.m 55 54,.m 56 7,.m 57 0,.v 58 (nV x.size)] (lI 59 ((x.size:Nat)-1) ?_));cases ze:((j:Int) == ((x.size:Nat)-1:Int))
       ·
        have zq:=ai ze;refine lB 60 ze (lL hs [.v 61 qF] (ah (cK (kQ (bH 66 ((j:Nat)+1) (j+1) ?_)))));refine lL hs [.m 29 66] (lD ?_);intro a_ ka;replace hs:=(hs.tl.add (K:=fun h_=>SlO 1 aj 0 h_ A l) hs.f.1);refine ⟨_,_,?_,⟨j+1,A,c,l,((pt*10)+((ax x j)-48):Nat),(un*10),h8,rfl,rfl,hs.to _ _,oM,hcl,(fun _=>⟨hA0,hc0,hl0,by omega,by omega⟩),(fun h_=>absurd h_ oM),(fun h_=>absurd h_ oM),(fun h_=>absurd h_ oM)⟩,ka.to _ kR⟩
        omega
       have zq:=eq_of_beq ze;refine lB 60 ze (lL hs [.v 61 qT] (ao ?_));subst hA0 hc0 hl0;refine aa hs [.m 62 4,.m 63 6,.m 64 5] (lC 65 hs (oB ((un*10)) (((pt*10)+((ax x j)-48):Nat)) oM _ _ hs.g) ?_);rintro _ _ zx hs ⟨A2,c2,l2,rfl,hc2,hA2,hl2⟩;replace hs:=hs.aS hA2;refine lL hs [.m 4 65] (lN (bQ [(0,.string x),(2,pB b1),(28,nV x.size),(29,nV j),(4,qS A2 l2.length c2),(5,mV ((pt*10)+((ax x j)-48))),(6,mV (un*10))] ?_));refine kQ (lL hs [.v 5 (uV 0),.v 6 (uV 1)] (lN (kQ (bH 66 ((j:Nat)+1) (j+1) ?_))));refine lL hs [.m 29 66] (lD ?_);intro a_ ka;replace hs:=(hs.tl.tl.add (K:=fun h_=>SlO 1 aj 0 h_ A2 l2) hs.f.1);refine ⟨_,_,?_,⟨j+1,A2,c2,l2,0,1,zx,rfl,rfl,hs.to _ _,oM,hc2,(fun h_=>absurd h_ oM),(fun _=>by rw[hl2];split<;>simp),(fun _=>by rw[hl2];exact kP oM),(fun _=>by rw[hl2,gV];omega)⟩,ka.to _ kR⟩
       omega
      have zp:=eq_of_beq zd;refine lB 54 zd (lL hs [.m 55 54] (lG 56 ?_));refine lG 57 (lG 58 (lG 59 (lG 60 (lL hs [.v 61 qT] (ao ?_)))));subst hA0 hc0 hl0;refine aa hs [.m 62 4,.m 63 6,.m 64 5] (lC 65 hs (oB ((un*10)) (((pt*10)+((ax x j)-48):Nat)) oM _ _ hs.g) ?_);rintro _ _ zA hs ⟨A2,c2,l2,rfl,hc2,hA2,hl2⟩;replace hs:=hs.aS hA2;refine lL hs [.m 4 65] (lN (bQ [(0,.string x),(2,pB b1),(28,nV x.size),(29,nV j),(4,qS A2 l2.length c2),(5,mV ((pt*10)+((ax x j)-48))),(6,mV (un*10))] ?_));refine kQ (lL hs [.v 5 (uV 0),.v 6 (uV 1)] (lN (kQ (bH 66 ((j:Nat)+1) (j+1) ?_))));refine lL hs [.m 29 66] (lD ?_);intro a_ ka;replace hs:=(hs.tl.tl.add (K:=fun h_=>SlO 1 aj 0 h_ A2 l2) hs.f.1);refine ⟨_,_,?_,⟨j+1,A2,c2,l2,0,1,zA,rfl,rfl,hs.to _ _,oM,hc2,(fun h_=>absurd h_ oM),(fun _=>by rw[hl2];split<;>simp),(fun _=>by rw[hl2];exact kP oM),(fun _=>by rw[hl2,gV];omega)⟩,ka.to _ kR⟩
      omega
     have zo:=oT zc;refine lB 40 zc (lL hs [.v 41 qT] (ao (aa hs [.v 42 (.agg #[uV 0,eS])] (lP 0 0 ([uV 0,eS]) hs (fun _ hs=>lL hs [.v 3 qF] (lN (kX ?_)))))))
     exfalso
     omega
    have zn:=oT zb;refine lB 35 zb (lL hs [.m 36 35] (lG 37 ?_));refine lG 38 (lG 39 (lG 40 (lL hs [.v 41 qT] (ao (aa hs [.v 42 (.agg #[uV 0,eS])] (lP 0 0 ([uV 0,eS]) hs (fun _ hs=>lL hs [.v 3 qF] (lN (kX ?_)))))))))
    exfalso
    omega
   have phb6:=oT hb6;refine lB 19 hb6 (lL hs [.m 20 19,.m 21 0] (lV 22 (.int .u8 (ax x 0:Nat)) ?_ (hr:=cj (tx:=9) (x:=.tmp 21) (i:=.const (iV 0)) (k:=.i64) (s:=x) (n:=0) (j:=(0:Int)) kR kR kR kR oM oM _)));cases zf:(((ax x 0:Nat):Int) == (48:Int))
   ·
    have zr:=ai zf;refine lB 23 zf (lL hs [.v 24 qF,.v 25 qF] (ah (cK (aa hs [.v 4 (sZ)] (aG (lL hs [.v 5 (uV 0),.v 6 (uV 1)] (af (aa hs [.m 27 0,.v 28 (nV x.size),.v 29 (iV 0)] (bn ?_)))))))));replace hs:=hs.add (K:=fun h_=>SlO 1 aj 0 h_ none ([])) (SlO.nil);refine bQ _ (CG.loop (fun μ_ Γ w_=>∃ (j:Nat) (A:Option Addr) (c:Nat) (l:List Nat) (pt:Nat) (un:Nat) (h_:Hp),μ_=x.size-j∧Γ=[(0,.string x),(2,pB b1),(28,nV x.size),(29,nV j),(4,qS A l.length c),(5,mV pt),(6,mV un)]∧SS w h w_ h_ [⟨b1,24,[uV 0,eS]⟩] [] [fun h_=>SlO 1 aj 0 h_ A l]∧j≤x.size∧l.length≤c∧(j<x.size→A=none∧c=0∧l=[]∧pt=dv x j∧un=10^j)∧(j=x.size→l.length≤1)∧(j=x.size→Wd l)∧(j=x.size→aA l=dv x j)) _ ⟨0,none,0,[],0,1,h3,rfl,rfl,hs.to _ _,Nat.zero_le _,nR _,(fun _=>⟨rfl,rfl,rfl,rfl,rfl⟩),(fun _=>Nat.zero_le _),(fun _=>Dg.nil),(fun h_=>absurd h_ oM)⟩ ?_);rintro _ _ _ ⟨j,A,c,l,pt,un,zB,hm48,rfl,hs,hk,hcl,hI,hL,hW,hV⟩;have hd_:=hdg j;have hb_:=ot (x:=x) j (fun i hi=>hdg i oM);have hp_:10^j≤10^18:=Nat.pow_le_pow_right kD oM;have hs_:dv x (j+1)=dv x j*10+(ax x j-48):=rfl;have ht_:10^(j+1)=10^j*10:=Nat.pow_succ ..;refine aE ?_;cases zg:(decide ((j:Int)<(x.size:Int)))
    ·
     have zs:=oF zg;refine lB 30 zg (af (cw (CG.exit ?_)))
     show CG _ _ _ _ _ _ _ _
     exact aa hs [.m 67 4] (ag 68 hs (sP A c l (hW oM) (by have:=hL oM;omega) hcl _ _ hs.g hs.f.1) (fun _ _ hs=>lP 0 0 (nc (aA l)) hs (fun _ hs=>lL hs [.v 3 qT] (ac hs [(0,0,2)] (.tuple #[nv (aA l),qT]) (by rw[hV oM,show j=x.size by omega,←hkd])))))
    have zs:=oT zg;refine lB 30 zg (af (ce (cK (cQ (kZ ?_)))));obtain ⟨hA0,hc0,hl0,hpt,hun⟩:=hI oM;have hd2_:=hd_ oM;have hp2_:10^(j+1)≤10^18:=Nat.pow_le_pow_right kD oM;refine aa hs [.m 31 29,.m 7 31] (af (aa hs [.m 32 0,.m 33 7] (lV 34 (.int .u8 (ax x j:Nat)) ?_ (hr:=cj (tx:=9) (x:=.tmp 32) (i:=.tmp 33) (k:=.i64) (s:=x) (n:=j) (j:=(j:Int)) kR kR kR kR oM oM _))));cases zi:(decide (((ax x j:Nat):Int)<(48:Int)))
    ·
     have zt:=oF zi;refine lB 35 zi (lL hs [.m 36 35,.m 37 0,.m 38 7] (lV 39 (.int .u8 (ax x j:Nat)) ?_ (hr:=cj (tx:=9) (x:=.tmp 37) (i:=.tmp 38) (k:=.i64) (s:=x) (n:=j) (j:=(j:Int)) kR kR kR kR oM oM _)));cases zj:(decide ((57:Int)<((ax x j:Nat):Int)))
     ·
      have zu:=oF zj;refine lB 40 zj (lL hs [.v 41 qF] (ah (cK (aa hs [.m 43 5] (lV 44 (mV (pt*10)) ?_ (hr:=rU (((pt:Int)*(10:Int))) kR (fr pt 10 oM)))))));refine lL hs [.m 45 0,.m 46 7] (lV 47 (.int .u8 (ax x j:Nat)) ?_ (hr:=cj (tx:=9) (x:=.tmp 45) (i:=.tmp 46) (k:=.i64) (s:=x) (n:=j) (j:=(j:Int)) kR kR kR kR oM oM _));refine lV 48 (.int .u8 ((ax x j)-48:Nat)) ?_ (hr:=aU (n:=IntKind.wrap .u8 (((ax x j:Nat):Int)-(48:Int))) kR (Cu (ax x j) 48 oM oM));refine lV 49 (mV ((ax x j)-48)) ?_ (hr:=rU ((((ax x j)-48:Nat):Int)) kR (bx oM oM));refine lV 50 (mV ((pt*10)+((ax x j)-48))) ?_ (hr:=rU ((((pt*10:Nat):Int)+(((ax x j)-48:Nat):Int))) kR (e9 (pt*10) ((ax x j)-48) oM));refine lL hs [.m 51 6] (lV 52 (mV (un*10)) ?_ (hr:=rU (((un:Int)*(10:Int))) kR (fr un 10 oM)));refine lL hs [.m 5 50,.m 6 52] (aG (lL hs [.m 53 6] ?_));cases zk:(((un*10:Nat):Int) == (10000000000000000000:Int))
      ·
       have zv:=ai zk;refine lB 54 zk (lL hs [.m 55 54,.m 56 7,.m 57 0,.v 58 (nV x.size)] (lI 59 ((x.size:Nat)-1) ?_));cases zl:((j:Int) == ((x.size:Nat)-1:Int))
       ·
        have zw:=ai zl;refine lB 60 zl (lL hs [.v 61 qF] (ah (cK (kQ (bH 66 ((j:Nat)+1) (j+1) ?_)))));refine lL hs [.m 29 66] (lD ?_);intro a_ ka;replace hs:=(hs.tl.add (K:=fun h_=>SlO 1 aj 0 h_ A l) hs.f.1);refine ⟨_,_,?_,⟨j+1,A,c,l,((pt*10)+((ax x j)-48):Nat),(un*10),zB,rfl,rfl,hs.to _ _,oM,hcl,(fun _=>⟨hA0,hc0,hl0,by omega,by omega⟩),(fun h_=>absurd h_ oM),(fun h_=>absurd h_ oM),(fun h_=>absurd h_ oM)⟩,ka.to _ kR⟩
        omega
       have zw:=eq_of_beq zl;refine lB 60 zl (lL hs [.v 61 qT] (ao ?_));subst hA0 hc0 hl0;refine aa hs [.m 62 4,.m 63 6,.m 64 5] (lC 65 hs (oB ((un*10)) (((pt*10)+((ax x j)-48):Nat)) oM _ _ hs.g) ?_);rintro _ _ zD hs ⟨A2,c2,l2,rfl,hc2,hA2,hl2⟩;replace hs:=hs.aS hA2;refine lL hs [.m 4 65] (lN (bQ [(0,.string x),(2,pB b1),(28,nV x.size),(29,nV j),(4,qS A2 l2.length c2),(5,mV ((pt*10)+((ax x j)-48))),(6,mV (un*10))] ?_));refine kQ (lL hs [.v 5 (uV 0),.v 6 (uV 1)] (lN (kQ (bH 66 ((j:Nat)+1) (j+1) ?_))));refine lL hs [.m 29 66] (lD ?_);intro a_ ka;replace hs:=(hs.tl.tl.add (K:=fun h_=>SlO 1 aj 0 h_ A2 l2) hs.f.1);refine ⟨_,_,?_,⟨j+1,A2,c2,l2,0,1,zD,rfl,rfl,hs.to _ _,oM,hc2,(fun h_=>absurd h_ oM),(fun _=>by rw[hl2];split<;>simp),(fun _=>by rw[hl2];exact kP oM),(fun _=>by rw[hl2,gV];omega)⟩,ka.to _ kR⟩
       omega
      have zv:=eq_of_beq zk;refine lB 54 zk (lL hs [.m 55 54] (lG 56 ?_));refine lG 57 (lG 58 (lG 59 (lG 60 (lL hs [.v 61 qT] (ao ?_)))));subst hA0 hc0 hl0;refine aa hs [.m 62 4,.m 63 6,.m 64 5] (lC 65 hs (oB ((un*10)) (((pt*10)+((ax x j)-48):Nat)) oM _ _ hs.g) ?_);rintro _ _ zE hs ⟨A2,c2,l2,rfl,hc2,hA2,hl2⟩;replace hs:=hs.aS hA2;refine lL hs [.m 4 65] (lN (bQ [(0,.string x),(2,pB b1),(28,nV x.size),(29,nV j),(4,qS A2 l2.length c2),(5,mV ((pt*10)+((ax x j)-48))),(6,mV (un*10))] ?_));refine kQ (lL hs [.v 5 (uV 0),.v 6 (uV 1)] (lN (kQ (bH 66 ((j:Nat)+1) (j+1) ?_))));refine lL hs [.m 29 66] (lD ?_);intro a_ ka;replace hs:=(hs.tl.tl.add (K:=fun h_=>SlO 1 aj 0 h_ A2 l2) hs.f.1);refine ⟨_,_,?_,⟨j+1,A2,c2,l2,0,1,zE,rfl,rfl,hs.to _ _,oM,hc2,(fun h_=>absurd h_ oM),(fun _=>by rw[hl2];split<;>simp),(fun _=>by rw[hl2];exact kP oM),(fun _=>by rw[hl2,gV];omega)⟩,ka.to _ kR⟩
      omega
     have zu:=oT zj;refine lB 40 zj (lL hs [.v 41 qT] (ao (aa hs [.v 42 (.agg #[uV 0,eS])] (lP 0 0 ([uV 0,eS]) hs (fun _ hs=>lL hs [.v 3 qF] (lN (kX ?_)))))))
     exfalso
     omega
    have zt:=oT zi;refine lB 35 zi (lL hs [.m 36 35] (lG 37 ?_));refine lG 38 (lG 39 (lG 40 (lL hs [.v 41 qT] (ao (aa hs [.v 42 (.agg #[uV 0,eS])] (lP 0 0 ([uV 0,eS]) hs (fun _ hs=>lL hs [.v 3 qF] (lN (kX ?_)))))))))
    exfalso
    omega
   have zr:=eq_of_beq zf;refine lB 23 zf (lL hs [.v 24 qT,.v 25 qT] (ao (aa hs [.v 26 (.agg #[uV 0,eS])] (lP 0 0 ([uV 0,eS]) hs (fun _ hs=>lL hs [.v 3 qF] (lN (kX ?_)))))))
   exfalso
   first|omega|exact h0 oM oM
  have phb5:=oT hb5;refine lB 14 hb5 (lL hs [.v 15 qT,.m 16 15] (lG 17 ?_));refine lG 18 (lG 19 (lG 20 (lG 21 (lG 22 (lG 23 (lG 24 (lL hs [.v 25 qT] (ao (aa hs [.v 26 (.agg #[uV 0,eS])] (lP 0 0 ([uV 0,eS]) hs (fun _ hs=>lL hs [.v 3 qF] (lN (kX ?_)))))))))))))
  exfalso
  first|omega|exact h0 oM oM
 have phb4:=eq_of_beq hb4;refine lB 10 hb4 (lL hs [.m 11 10] (lG 12 ?_));refine lG 13 (lG 14 (lL hs [.v 15 qT,.m 16 15] (lG 17 ?_)));refine lG 18 (lG 19 (lG 20 (lG 21 (lG 22 (lG 23 (lG 24 (lL hs [.v 25 qT] (ao (aa hs [.v 26 (.agg #[uV 0,eS])] (lP 0 0 ([uV 0,eS]) hs (fun _ hs=>lL hs [.v 3 qF] (lN (kX ?_)))))))))))))
 exfalso
 first|omega|exact h0 oM oM
theorem Dj (x:ByteArray)(c:UInt8)(hn:∀ i,i<x.size→ax x i≠c.toNat)(w:World)(h:Hp)(g:G w h):CV 187 #[.string x,.string (⟨#[c]⟩)] w h (.tuple #[.string x,eS,.bool false]):=by
 have hs:=sS g;exact go Tryz.func187 [(0,.string x),(1,.string (⟨#[c]⟩))] rfl (aa hs [.v 4 (eS),.v 5 (eS),.v 6 qF] (af (aa hs [.m 8 0,.m 9 1] (ag 10 hs (ue x c hn _ _ hs.g) (fun w1 h2 hs=>lL hs [.m 7 10] (aG (lL hs [.m 11 7,.v 12 qF] (ah (cK (aa hs [.m 22 0,.m 4 22,.v 5 (eS),.v 6 qF] (ac hs [] (.tuple #[.string x,eS,qF]) rfl)))))))))))
theorem q7 (x:ByteArray)(c:UInt8)(hn:∀ i,i<x.size→ax x i≠c.toNat)(w:World)(h:Hp)(g:G w h):CV 174 #[.string x,.string (⟨#[c]⟩)] w h (.tuple #[.string x,eS,.bool false]):=by
 have hs:=sS g;exact go Tryz.func174 [(0,.string x),(1,.string (⟨#[c]⟩))] rfl (aa hs [.v 4 (eS),.v 5 (eS),.v 6 qF] (aG (lL hs [.m 7 0,.m 8 1] (ag 9 hs (Dj x c hn _ _ hs.g) (fun w1 h2 hs=>lL hs [.v 10 (.string x),.v 11 (eS),.v 12 qF,.m 4 10,.m 5 11,.m 6 12] (ac hs [] (.tuple #[.string x,eS,qF]) rfl))))))
theorem od (x:ByteArray)(k:Nat)(hx:x.size≤18)(hk_:gu x=some k)(w:World)(h:Hp)(g:G w h):CV 177 #[.string x] w h (.tuple #[iv (k:Int),.bool true]):=by
 have hs:=sS g;obtain ⟨h1,h0,hdg,hkd⟩:=fO hk_;refine go Tryz.func177 [(0,.string x)] rfl (aE (lA 2 26 ([qF,uV 0,eS]) hs (fun b1 w2 h3 hs=>lL hs [.v 3 qF] (aG (lL hs [.m 9 0] (ag 10 hs (iH x 45 (by have:=hdg 0 oM;show ax x 0≠45;omega) _ _ hs.g) (fun w4 h5 hs=>lL hs [.m 8 10,.v 11 (.string x),.v 12 qF,.m 4 11,.m 5 12] (aG (lL hs [.m 14 4] (ag 15 hs (gZ x k hx hk_ _ _ hs.g) (fun w6 h7 hs=>lL hs [.m 13 15,.v 16 (nv k),.v 17 qT] (lA 6 24 ([uV 0,eS]) hs (fun b8 w9 _ hs=>lP 0 0 (nc k) hs (fun _ hs=>lL hs [.m 7 17] (af (aa hs [.m 18 7,.v 19 qF,.m 20 19,.m 21 5,.m 22 21] (lG 23 ?_)))))))))))))))));exact lG 24 (lG 25 (lL hs [.v 26 qF,.v 27 qF] (ah (cK (aa hs [.m 29 5,.o 30 (nv k) 0 0 2] (ag 31 hs (cM k _ _ hs.g) (fun _ _ hs=>lP 1 0 (ic (k:Int)) hs (fun _ hs=>lL hs [.v 3 qT] (ac hs [(1,0,3)] (.tuple #[iv (k:Int),qT]) rfl)))))))))
theorem uM (x:ByteArray)(k:Nat)(hx:x.size≤18)(hk_:gu x=some k)(w:World)(h:Hp)(g:G w h):CV 147 #[.string x] w h (.tuple #[qv ((k:Nat):Rat),.bool true]):=by
 have hs:=sS g;obtain ⟨h1,h0,hdg,hkd⟩:=fO hk_;exact go Tryz.func147 [(0,.string x)] rfl (aE (lA 2 28 ([qF,uV 0,eS,uV 0,eS]) hs (fun b1 w2 h3 hs=>lL hs [.v 3 qF] (af (aa hs [.m 13 0] (ag 14 hs (q7 x 47 (fun i hi=>by have:=hdg i hi;show ax x i≠47;omega) _ _ hs.g) (fun w4 h5 hs=>lL hs [.m 12 14,.v 15 (.string x),.v 16 (eS),.v 17 qF,.m 4 15,.m 5 16,.m 6 17] (aG (lL hs [.m 18 6] (ah (cK (cQ (aa hs [.m 25 0] (ag 26 hs (q7 x 46 (fun i hi=>by have:=hdg i hi;show ax x i≠46;omega) _ _ hs.g) (fun w6 h7 hs=>lL hs [.m 24 26,.v 27 (.string x),.v 28 (eS),.v 29 qF,.m 7 27,.m 8 28,.m 9 29] (aG (lL hs [.m 30 9] (ah (cK (aa hs [.m 37 0] (ag 38 hs (od x k hx hk_ _ _ hs.g) (fun w8 h9 hs=>lL hs [.m 36 38,.v 39 (iv (k:Int)),.v 40 qT] (lA 10 26 ([qF,uV 0,eS]) hs (fun b10 _ _ hs=>lP 0 0 (ic (k:Int)) hs (fun _ hs=>lL hs [.m 11 40] (aG (lL hs [.o 41 (iv (k:Int)) 0 0 3,.v 42 (.agg #[.bool (aD (k:Int)),uV (lo (ab (k:Int))),.string (hi (ab (k:Int))),uV 0,eS]),.m 43 11] (lP 1 0 ([.bool (aD (k:Int)),uV (lo (ab (k:Int))),.string (hi (ab (k:Int))),uV 0,eS]) hs (fun _ hs=>lL hs [.m 3 43] (ac hs [(1,0,5)] (.tuple #[.agg #[.bool (aD (k:Int)),uV (lo (ab (k:Int))),.string (hi (ab (k:Int))),uV 0,eS],qT]) (congrArg (fun v_=>Value.tuple #[v_,qT]) (fi (d:=0) (Rat.num_natCast k) (jv (Rat.den_natCast k))))))))))))))))))))))))))))))))))
def Bl (x:ByteArray):Option Rat:=if x.size≤18 then (gu x).map (fun k=>((k:Nat):Rat)) else none
theorem qi:lU Bl:=fun x q h w hh g _=>by
  unfold Bl at h
  split at h
  · rename_i hx
    cases hk:gu x with
    | none=>rw[hk] at h;cases h
    | some k =>
      rw[hk] at h;injection h with h;subst h
      exact uM x k hx hk w hh g
  · cases h
theorem nJ:vH:=fun x k hx hk w h g=>gZ x k oM hk w h g
theorem vJ (n:Nat)(hn:n<100)(w:World)(h:Hp)(g:G w h):Calls Tryz.prog 142 #[nV n] w (Ret w h (fun v _=>v=.string ⟨(Lib.decDigits n).toArray⟩)):=Ret.of_same g (Tryz.internal_strconv_small n hn w)
theorem Bp (n:Nat)(hn:n<100)(w:World)(h:Hp)(g:G w h):Calls Tryz.prog 42 #[nV n] w (Ret w h (fun v _=>v=.string ⟨(Lib.decDigits n).toArray⟩)):=Ret.of_same g (Tryz.strconv_Itoa_small n hn w)
theorem AP (z:Int)(n:Nat)(hz:z=(n:Nat))(hn:n<100)(w:World)(h:Hp)(g:G w h):Calls Tryz.prog 42 #[iV z] w (Ret w h (fun v _=>v=.string ⟨(Lib.decDigits n).toArray⟩)):=by
 subst hz;exact Bp n hn w h g
theorem Af (n:Nat)(hn:n<100)(w:World)(h:Hp)(g:G w h):CV 131 #[mV n,iV 10] w h (.string ⟨(Lib.decDigits n).toArray⟩):=by
 have hs:=sS g;refine go Tryz.func131 [(0,mV n),(1,iV 10)] rfl (aa hs [.v 4 (eS)] (af (aa hs [.m 9 1,.v 10 qT] (ao (cQ (aa hs [.m 11 0] ?_))))));have ⟨hb1,phb1⟩:=dT (p:=(n:Int)<(100:Int)) oM;refine lB 12 hb1 (ao (aa hs [.m 13 0] (lV 14 (nV n) ?_ (hr:=rS ((n:Int)) kR (lc oM oM)))));exact ag 15 hs (vJ n hn _ _ hs.g) (fun w2 h3 hs=>lL hs [.m 4 15] (ac hs [] (.string (⟨(Lib.decDigits n).toArray⟩)) rfl))
theorem C1 (n:Nat)(hn:n<100)(w:World)(h:Hp)(g:G w h):CV 105 #[mV n,iV 10] w h (.string ⟨(Lib.decDigits n).toArray⟩):=by
 have hs:=sS g;exact go Tryz.func105 [(0,mV n),(1,iV 10)] rfl (aa hs [.v 4 (eS)] (aG (lL hs [.m 5 0,.m 6 1] (ag 7 hs (Af n hn _ _ hs.g) (fun w1 h2 hs=>lL hs [.m 4 7] (ac hs [] (.string (⟨(Lib.decDigits n).toArray⟩)) rfl))))))
theorem qg (z:Int)(n:Nat)(hz:z=(n:Nat))(hn:n<100)(w:World)(h:Hp)(g:G w h):Calls Tryz.prog 105 #[uV z,iV 10] w (Ret w h (fun v _=>v=.string ⟨(Lib.decDigits n).toArray⟩)):=by
 subst hz;exact C1 n hn w h g
theorem vr (n:Nat)(h0:0<n)(hn:n<100)(w:World)(h:Hp)(g:G w h):CV 73 #[nv n] w h (.string ⟨(Lib.decDigits n).toArray⟩):=by
 have hs:=sS g;have hlo_:=gM (show n<18446744073709551616 by omega);have hwl:=congrArg List.length (bj h0 (show n<18446744073709551616 by omega))
 simp only[List.length_singleton] at hwl
 refine go Tryz.func73 [(0,nv n)] rfl (aE (lA 1 24 (nc n) hs (fun b1 w2 h3 hs=>lL hs [.v 2 (eS)] (aG (lL hs [.o 9 (nv n) 0 0 2] (lC 10 hs (du n oM oM _ _ hs.g) ?_))))));rintro _ w4 h5 hs ⟨bw,rfl,hbw_,hbc_,hbs_⟩;replace hs:=hs.aS hbs_;refine lL hs [.m 3 10] (af (aa hs [.m 11 3,.v 12 (nV ((wds n).length))] ?_));have ⟨hb6,phb6⟩:=dT (p:=(((wds n).length:Nat):Int)≤(1:Int)) oM;exact lB 13 hb6 (ao (aa hs [.v 14 (pB b1),.o 15 (mV (n%18446744073709551616)) 0 0 1] (ag 16 hs (qg _ n hlo_ hn _ _ hs.g) (fun w7 h8 hs=>lL hs [.m 2 16] (ac hs [] (.string (⟨(Lib.decDigits n).toArray⟩)) rfl)))))
theorem ur (n:Nat)(hn:n<100)(hlo_:(0:Int)=(n:Nat))(w:World)(h:Hp)(g:G w h):CV 73 #[nv 0] w h (.string ⟨(Lib.decDigits n).toArray⟩):=by
 have hs:=sS g;exact go Tryz.func73 [(0,nv 0)] rfl (aE (lA 1 24 ([uV 0,eS]) hs (fun b1 w2 h3 hs=>lL hs [.v 2 (eS)] (aG (lL hs [.o 9 (.agg #[uV 0,eS]) 0 0 2] (ag 10 hs (gB _ _ hs.g) (fun w4 h5 hs=>lL hs [.m 3 10] (af (aa hs [.m 11 3,.v 12 (iV 0),.v 13 qT] (ao (aa hs [.v 14 (pB b1),.o 15 (uV 0) 0 0 1] (ag 16 hs (qg _ n hlo_ hn _ _ hs.g) (fun w6 h7 hs=>lL hs [.m 2 16] (ac hs [] (.string (⟨(Lib.decDigits n).toArray⟩)) rfl))))))))))))))
theorem sD (n:Nat)(hn:n<100)(w:World)(h:Hp)(g:G w h):Calls Tryz.prog 73 #[nv n] w (Ret w h (fun v _=>v=.string ⟨(Lib.decDigits n).toArray⟩)):=by
 rcases Nat.eq_zero_or_pos n with rfl|h0
 ·exact ur 0 hn rfl w h g
 ·exact vr n h0 hn w h g
theorem xn (n:Nat)(hn:n<100)(w:World)(h:Hp)(g:G w h):CV 72 #[wX (.bool false) n] w h (.string ⟨(Lib.decDigits n).toArray⟩):=by
 have hs:=sS g;exact go Tryz.func72 [(0,wX qF n)] rfl (aE (lA 1 26 (wC qF n) hs (fun b1 w2 h3 hs=>lL hs [.v 2 (eS)] (af (aa hs [.v 3 (pB b1),.o 4 qF 0 0 1] (ah (cK (aa hs [.v 9 (qP b1 1),.o 10 (.agg #[uV (lo n),.string (hi n)]) 0 1 2] (ag 11 hs (sD n hn _ _ hs.g) (fun w4 h5 hs=>lL hs [.m 2 11] (ac hs [] (.string (⟨(Lib.decDigits n).toArray⟩)) rfl)))))))))))
theorem tj (z:Int)(n:Nat)(hz:z=(n:Nat))(hn:n<100)(w:World)(h:Hp)(g:G w h):Calls Tryz.prog 72 #[iv z] w (Ret w h (fun v _=>v=.string ⟨(Lib.decDigits n).toArray⟩)):=by
 subst hz;exact xn n hn w h g
theorem AZ (n:Nat)(hn:n<100)(w:World)(h:Hp)(g:G w h):CV 38 #[qv ((n:Nat):Rat)] w h (.string ⟨(Lib.decDigits n).toArray⟩):=by
 have hs:=sS g;have hl:LQ 100000000 ((n:Nat):Rat):=(by have q_:=LQ.int (z:=(n:Int)) oM oM;exact (q_.mono oM));exact go Tryz.func38 [(0,qv ((n:Nat):Rat))] rfl (aE (lA 1 28 (qc ((n:Nat):Rat)) hs (fun b1 w2 h3 hs=>lL hs [.v 2 (eS)] (af (aa hs [.o 3 (qv ((n:Nat):Rat)) 0 0 5] (ag 4 hs ((by have q_:=fe ((n:Nat):Rat) hl _ _ hs.g;rw[decide_eq_true (Rat.den_natCast n)] at q_;exact q_)) (fun w4 h5 hs=>ao (aa hs [.v 5 (pB b1),.o 6 (iv (((n:Nat):Rat).num)) 0 0 3] (ag 7 hs (tj ((n:Nat):Rat).num n (Rat.num_natCast n) hn _ _ hs.g) (fun w6 h7 hs=>lL hs [.m 2 7] (ac hs [] (.string (⟨(Lib.decDigits n).toArray⟩)) rfl)))))))))))
structure Dif (M:List Nat) (w w0:World):Prop where
  mo:Mo M w w0
  sz:w0.heap.size=w.heap.size
section frn
variable {w0 w w' wi:World} {h0 h h':Hp} {B:List Bx} {R:List Rw} {F:List (Hp→Prop)} {M:List Nat}
end frn
section get
variable {P:Program} {n:Nat} {N R:Po} {X:Nat→Po} {ops:Array Oper} {k:Nat} {Γ:bI} {w:World} {h:Hp} {w0:World} {h0:Hp} {B:List Bx} {Rs:List Rw} {F:List (Hp→Prop)}
end get
section gete
variable {M:Ms} {P:Program} {n:Nat} {N R:Po} {X:Nat→Po} {ops:Array Oper} {k0:Nat} {hr:Hp} {AL:List Al} {L:Array Bool} {Γ:bI} {w:World} {h:Hp} {w0:World} {h0:Hp} {B:List Bx} {Rs:List Rw} {F:List (Hp→Prop)}
end gete
section ops
variable {P:Program} {Γ:bI} {o:Oper}
end ops
section laws
variable {M:Ms} {P:Program} {n:Nat} {N R:Po} {X:Nat→Po} {ops:Array Oper} {k k0:Nat} {hr:Hp} {AL:List Al} {L:Array Bool} {Γ:bI} {w:World} {h:Hp} {w0 wi:World} {h0:Hp} {B:List Bx} {Rs:List Rw} {F:List (Hp→Prop)} {Ml:List Nat}
end laws
section zone
variable {w0 w w':World} {h0 h h':Hp} {B:List Bx} {R:List Rw} {F:List (Hp→Prop)}
end zone
section ret
variable {P:Program} {n:Nat} {Γ:bI} {w:World} {h:Hp} {w0 wz:World} {h0 hz:Hp} {B:List Bx} {Rs:List Rw} {F:List (Hp→Prop)}
end ret
section call
variable {M:Ms} {P:Program} {n:Nat} {N R:Po} {X:Nat→Po} {ops:Array Oper} {k0:Nat} {hr:Hp} {AL:List Al} {L:Array Bool} {Γ:bI} {w:World} {h:Hp} {w0:World} {h0:Hp} {B:List Bx} {Rs:List Rw} {F:List (Hp→Prop)}
end call
section perm
variable {w0:World} {h0:Hp} {w:World} {h:Hp} {B B':List Bx} {R R':List Rw} {F:List (Hp→Prop)}
end perm
section ret
variable {P:Program} {n:Nat} {Γ:bI} {w:World} {h:Hp} {w0:World} {h0:Hp} {B:List Bx} {Rs:List Rw} {F:List (Hp→Prop)}
end ret
section call
variable {P:Program} {n:Nat} {N R:Po} {X:Nat→Po} {ops:Array Oper} {k:Nat} {Γ:bI} {w:World}
end call
section
variable {M:Ms} {P:Program} {n:Nat} {N R:Po} {X:Nat→Po} {ops:Array Oper} {k k0:Nat} {hr:Hp} {AL:List Al} {L:Array Bool} {Γ:bI} {w:World} {h:Hp} {w0:World} {h0:Hp} {B:List Bx} {Rs:List Rw} {F:List (Hp→Prop)}
theorem tO (i t:Nat)(ps:List (Nat × Nat × Nat))(v:Value)(s:SS w0 h0 w h B Rs F)(H:AG M P n N R X ops k0 (L.setIfInBounds i true) ((t,v)::Γ) w)(hc:cT n ops k0 L Γ i t=true:=by kernel_rfl)(hp:bF B ps=true:=by kernel_rfl)(he:bE P (execOp (ev Γ) (am ops i)) (bT B ps)=some (.value v,bA B ps):=by kernel_rfl):AG M P n N R X ops k0 L Γ w :=
 T.val i t v w (mr hc).1 (mr hc).2 (bu _ _ _ _ he (bP s.st.own ps hp)) H
end
section laws
variable {M:Ms} {P:Program} {ops:Array Oper} {Q:Exit→Act→World→Prop} {k0:Nat}
structure Waits (ops:Array Oper) (k0 i:Nat) (late:List Nat):Prop where
  ev:∀ u∈late,∃ ou,ops[u]?=some ou∧∃ e∈ou.after,Region.binds .any e=true∧(e.on=i∨e.on∈late)
  tl:∀ j oj,ops[j]?=some oj→k0≤j→j∈late
theorem lk {i:Nat}{oi:Oper}{v:Value}{S:World→Prop}{late:List Nat}(hi:ops[i]?=some oi)(hsel:∀ (j:Nat) (o:Oper) cs b,ops[j]?=some o→o.op≠.select cs b)
    (hQ:∀ c a w,Q (.panic c) (a.put oi.dst v) w→Q (.panic c) a w)(hcl:∀ w w',S w→Mo M.l w w'→S w')(hw:Waits ops k0 i late) :
    ∀ (n:Nat) (L:Array Bool) (a:Act) (w:World),
      (∀ j oj,ops[j]?=some oj→j≠i→L.getD j true=false→(∀ e∈oj.after,Region.binds .any e=true→e.on≠i)→oi.apart ops oj=true) →
      (∀ u∈late,L.getD u true=false) →
      i∈Region.ready .any ops L→YieldsIf P ops S oi v a→S w →
      kN M P ops Q k0 n (L.setIfInBounds i true) (a.put oi.dst v) w→kN M P ops Q k0 (n+1) L a w:=by
  intro n
  induction n with
  | zero =>
    intro L a w _ _ hr hy hS H;refine ⟨fun h=>(by rw[h] at hr;cases hr),fun j hj=>?_⟩
    by_cases hji:j=i
    · subst hji;exact hy.wpOp hi hS ⟨Rl.refl _ _ _ _,H⟩
    · have:=ready_mono hj hji
      rw[H.1] at this
      cases this
  | succ n ih =>
    intro L a w hfree hund hr hy hS H;refine ⟨fun h=>(by rw[h] at hr;cases hr),fun j hj=>?_⟩
    by_cases hji:j=i
    · subst hji;exact hy.wpOp hi hS ⟨Rl.refl _ _ _ _,H⟩
    · have h1:=H.2 j (ready_mono hj hji)
      obtain ⟨hjun,oj,hoj,hall⟩:=mem_ready.1 hj
      have hwait:∀ x,L.getD x true=false→∀ e∈oj.after,Region.binds .any e=true→e.on≠x:=fun x h0 e he hb heq=>by
        have h1:=hall e he hb;rw[heq] at h1
        obtain ⟨hl,h0'⟩:=Au h0
        simp[Array.getD,hl,h0'] at h1
      have hnot:=hwait i (mem_ready.1 hr).1
      have hnl:j ∉ late:=fun hm=>by
        obtain ⟨ou,ho,e,he,hb,h2⟩:=hw.ev j hm;obtain rfl:oj=ou:=Option.some.inj (hoj.symm.trans ho)
        rcases h2 with h2|h2
        · exact hnot e he hb h2
        · exact hwait e.on (hund _ h2) e he hb rfl
      have hlt:j<k0:=by
        rcases Nat.lt_or_ge j k0 with hl|hl
        · exact hl
        · exact absurd (hw.tl j oj hoj hl) hnl
      have h2:=wpOp_putIf hoj (hfree j oj hoj hji hjun hnot) (fun cs b=>hsel i oi cs b hi) (fun cs b=>hsel j oj cs b hoj) hQ hy h1
      have hfree':∀ k ok,ops[k]?=some ok→k≠i→(L.setIfInBounds j true).getD k true=false →
          (∀ e∈ok.after,Region.binds .any e=true→e.on≠i)→oi.apart ops ok=true:=fun k ok hk hki hun hno=>by
        refine hfree k ok hk hki ?_ hno
        by_cases hjk:j=k
        · subst hjk;exact hjun
        · rw[getD_set_ne true hjk] at hun;exact hun
      refine wpOp_mono (fun a' w' h3=>⟨h3.2.1,ih (L.setIfInBounds j true) a' w' hfree' (fun u hu=>?_) (ready_mono hr (Ne.symm hji)) h3.1 (hcl _ _ hS (h3.2.1.1 hlt)) ?_⟩) h2
      · rw[getD_set_ne true (fun e=>hnl (by rw[e];exact hu))];exact hund u hu
      · rw[Array.setIfInBounds_comm _ _ hji]
        exact h3.2.2
theorem E.take0U {h0:Hp}{AL:List Al}{L:Array Bool}{a:Act}{w:World}{h:Hp}{i:Nat}{o:Oper}{v:Value}{S:World→Prop}{late:List Nat}
  (hi:ops[i]?=some o)(hsel:Region.noSelect ops=true)(hf:Region.free .any ops L i=true)(hr:i∈Region.ready .any ops L)
  (hal:∀ x∈AL,x.i≠i∧x.t ∉ o.looksAt ops∧o.dst≠some x.t)(hQ:∀ c a w,¬Q (.panic c) a w)
  (hcl:∀ w w',S w→Mo M.l w w'→S w')(hS:∀ w',Mo M.l w w'→S w')(hy:YieldsIf P ops S o v a)
  (hw:Waits ops k0 i late)(hund:∀ u∈late,L.getD u true=false∧∀ x∈AL,x.i≠u)
  (H:E M P ops Q k0 h0 AL (L.setIfInBounds i true) (a.put o.dst v) w h):E M P ops Q k0 h0 AL L a w h:=by
 intro w' h' u S' T hp hb hn;have hS':∀ s∈S',s.1.i≠i∧s.1.t ∉ o.looksAt ops∧o.dst≠some s.1.t:=fun s hs=>hal _ (fD hp hs)
 have H1:=H w' h' u S' T hp hb hn;rw[jp L S' i (fun s hs=>(hS' s hs).1),ja a S' o.dst v (fun s hs=>(hS' s hs).2.2)] at H1
 have hr':=jM (fun s hs=>(hS' s hs).1) hr;obtain ⟨e1,e2⟩:=iw (ops:=ops) (Region.noSelect_spec hsel i o · · hi) a S' (fun s hs=>(hS' s hs).2.1)
 unfold A at *
 rw[dk hr']
 exact lk hi (Region.noSelect_spec hsel) (fun c a w hq=>absurd hq (hQ _ _ _)) hcl hw _ _ _ _
  (fun j oj hj hji hun=>Region.free_spec hi hf j oj hj hji (fN hun))
  (fun x hx=>by rw[gX true (fun s hs=>(hund x hx).2 _ (fD hp hs))];exact (hund x hx).1) hr' (hy.of_same e1 e2) (hS _ (u.m M.l).mo) H1
end laws
section steps
variable {M:Ms} {P:Program} {n:Nat} {N R:Po} {X:Nat→Po} {ops:Array Oper} {k0:Nat} {hr:Hp} {AL:List Al} {L:Array Bool} {Γ:bI} {w:World} {h:Hp} {w0:World} {h0:Hp} {B:List Bx} {Rs:List Rw} {F:List (Hp→Prop)}
def kH (ops:Array Oper)(k0:Nat)(AL:List Al)(L:Array Bool)(i:Nat)(late:List Nat):Bool :=
  (late.all fun u=>decide (u<ops.size) && !(L.getD u true) && (AL.all fun x=>x.i != u) && ((am ops u).after.any fun e=>Region.binds .any e && (e.on == i || late.contains e.on))) && ((List.range ops.size).all fun j=>decide (j<k0) || late.contains j)
theorem kC {i:Nat}{late:List Nat}(hc:kH ops k0 AL L i late=true):Waits ops k0 i late∧∀ u∈late,L.getD u true=false∧∀ x∈AL,x.i≠u:=by
 unfold kH at hc
 rw[Bool.and_eq_true] at hc
 obtain ⟨h1,h2⟩:=hc;have h1':=fun u hu=>(List.all_eq_true.1 h1) u hu
 refine ⟨⟨fun u hu=>?_,fun j oj hj hk=>?_⟩,fun u hu=>?_⟩
 ·have q:=h1' u hu
  simp only[Bool.and_eq_true,decide_eq_true_eq,Array.any_eq_true,Bool.or_eq_true,beq_iff_eq,List.contains_eq_mem] at q
  obtain ⟨⟨⟨q1,_⟩,_⟩,x,hx,q2,q3⟩:=q;exact ⟨_,bv q1,_,Array.getElem_mem hx,q2,q3⟩
 ·have hlt:=(Array.getElem?_eq_some_iff.1 hj).1
  have q:=(List.all_eq_true.1 h2) j (List.mem_range.2 hlt)
  simp only[Bool.or_eq_true,decide_eq_true_eq,List.contains_eq_mem] at q
  rcases q with q|q
  ·omega
  ·exact q
 ·have q:=h1' u hu
  simp only[Bool.and_eq_true,Bool.not_eq_true',List.all_eq_true,bne_iff_ne,ne_eq] at q
  exact ⟨q.1.1.2,fun x hx=>q.1.2 x hx⟩
def xE (n:Nat)(ops:Array Oper)(k0:Nat)(AL:List Al)(L:Array Bool)(Γ:bI)(i t:Nat)(late:List Nat):Bool:=cD n ops k0 AL L i t && aW Γ (am ops i) && kH ops k0 AL L i late && (aZ ops Γ (am ops i) == some true)
theorem Rg.loadU (i t:Nat)(late:List Nat)(v:Value)(hc:xE n ops k0 AL L Γ i t late=true)
  (hr:∀ w',Mo M.l w w'→(execOp (ev Γ) (am ops i)).run P w'=.ok (.value v) w')
  (k:EG M P n N R X ops k0 h0 AL (L.setIfInBounds i true) ((t,v)::Γ) w h):EG M P n N R X ops k0 h0 AL L Γ w h:=by
 unfold xE at hc
 simp only[Bool.and_eq_true] at hc
 obtain ⟨⟨⟨hc,hkn⟩,hl⟩,hw⟩:=hc;have hw:aZ ops Γ (am ops i)=some true:=by simpa using hw
 have c:=cp hc;obtain ⟨l1,l2⟩:=kC hl;intro oks hM g hsz a ka;have e1:=ka.exec (Region.noSelect_spec c.sel i _ · · c.get) hkn;refine E.take0U (v:=v) (S:=fun w'=>Mo M.l w w') c.get c.sel c.free c.ready c.al (fun _ _ _ hq=>hq) (fun _ _ h1 h2=>h1.trans h2) (fun _ hx=>hx) (.inl ⟨ka.want hw,fun w' hx=>by rw[e1];exact hr w' hx⟩) l1 l2 ?_;rw[c.dst];exact k oks hM g hsz _ (ka.put c.tn v)
theorem DC (i t:Nat)(late:List Nat)(ps:List (Nat × Nat × Nat))(v:Value)(s:SS w0 h0 w h B Rs F)(H:EG ⟨[],none⟩ P n N R X ops k0 hr AL (L.setIfInBounds i true) ((t,v)::Γ) w h)(hc:xE n ops k0 AL L Γ i t late=true:=by kernel_rfl)(hp:bF B ps=true:=by kernel_rfl)(he:bE P (execOp (ev Γ) (am ops i)) (bT B ps)=some (.value v,bA B ps):=by kernel_rfl):EG ⟨[],none⟩ P n N R X ops k0 hr AL L Γ w h :=
 Rg.loadU i t late v hc (fun w' hx=>bu _ _ _ _ he (dL (fun _ _=>List.not_mem_nil) (fun x hm _=>(hx.blk x.b (by rw[s.g.size];exact aN (s.st.jk x hm)) List.not_mem_nil).trans (s.st.own x hm)) ps (fun _ h=>h) hp)) H
end steps
theorem CS (s:ByteArray):(s.toList == s.toList)=true:=beq_self_eq_true _
theorem Di (s:ByteArray):(!(s.toList == s.toList))=false:=by rw[CS];rfl
section tcs
variable {M:Ms} {P:Program} {n:Nat} {N R:Po} {X:Nat→Po} {ops:Array Oper} {k0:Nat} {L:Array Bool} {Γ:bI} {w:World}
variable {h:Hp} {w0:World} {h0 hr:Hp} {AL:List Al} {B:List Bx} {Rs:List Rw} {F:List (Hp→Prop)}
end tcs
section
variable {T8 TB:TypeId} {K b:Nat}
def J8 (T8:TypeId)(K b:Nat)(h:Hp):Prop:=∀ c o,K≤c→h[c]?=some o→o=junk∨(c≠b∧∀ cs fz,o≠.cells cs T8 fz)
theorem nk {base:Nat}{ty:TypeId}{sz n:Nat}{v:Value}{cs:List Value}{w w':World}(o:w.ownsRowF base ty sz v n cs)(hb:∀ b,v.ownBlock=some b→w'.heap[b]?=w.heap[b]?):w'.ownsRowF base ty sz v n cs:=by
 rcases o with ⟨h1,h2|⟨g,cap,cur,fz,hv,hb',hg,rest⟩⟩
 ·exact ⟨h1,.inl h2⟩
 ·exact ⟨h1,.inr ⟨g,cap,cur,fz,hv,hb',(hb g (by rw[hv];rfl)).trans hg,rest⟩⟩
theorem py {bs:List Value}{w w1:World}(h:Lib.IsBuilderF TB T8 K b bs w)(x:Ext w w1):Lib.IsBuilderF TB T8 K b bs w1:=by
 have key:∀ p,Lib.BuilderAtF TB T8 K b p bs w→Lib.BuilderAtF TB T8 K b p bs w1:=by
  intro p hp;have hlt:=hp.lt;obtain ⟨h1,v,h2,h3,h4⟩:=hp;exact ⟨h1,v,(Below.block x b hlt).trans h2,nk h3 (fun c hc=>Below.block x c (h3.lt c hc).2),h4⟩
 rcases h with h|h
 ·exact .inl (key _ h)
 ·exact .inr (key _ h)
theorem uo {bs:List Value}{w:World}(h:Lib.IsBuilderF TB T8 K b bs w):K≤b∧b<w.heap.size:=by
 rcases h with h|h
 ·exact ⟨h.1,h.lt⟩
 ·exact ⟨h.1,h.lt⟩
theorem uh {w w':World}(x:Ext w w'):Lib.OthersKept T8 (some b) w w':=fun k o hk _ _=>by
 have hlt:k<w.heap.size:=(Array.getElem?_eq_some_iff.1 hk).1;exact (Below.block x k hlt).trans hk
theorem pS {w w':World}(x:Ext w w')(hK:K≤w.heap.size):Below K w w':=⟨x.os,x.tape,x.output,x.size,fun k hk=>Below.block x k oM⟩
structure BSt (TB T8:TypeId) (K b:Nat) (wa:World) (l:List UInt8) (w:World) (h:Hp):Prop where
  hK:K≤w.heap.size
  j8:J8 T8 K b h
  ib:Lib.IsBuilderF TB T8 K b (Lib.byteCells l) w
  be:Below K wa w
  ok:Lib.OthersKept T8 (some b) wa w
def kS (TB T8:TypeId)(K b:Nat)(V:Value)(l out:List UInt8)(w:World):Ending→World→Prop:=fun e w'=>e=.returned V∧(Lib.IsBuilderF TB T8 K b (Lib.byteCells (l++out)) w'∧Below K w w'∧Lib.OthersKept T8 (some b) w w')
def AllNe (T8:TypeId)(b:Nat):List Bx→Prop
  | []=>True
  | x::B=>(x.b≠b∧(x.t != T8)=true)∧AllNe T8 b B
theorem AllNe.mem {B:List Bx}(h:AllNe T8 b B):∀ x∈B,x.b≠b∧x.t≠T8:=by
  induction B with
  | nil=>intro x hx;cases hx
  | cons y B ih =>
    intro x hx
    rcases List.mem_cons.1 hx with rfl|hx
    · exact ⟨h.1.1,by simpa using h.1.2⟩
    · exact ih h.2 x hx
variable {wz w w' wa:World} {hz h:Hp} {B:List Bx} {F:List (Hp→Prop)} {l:List UInt8}
theorem BSt.start (hK:K≤w.heap.size)(j:J8 T8 K b h)(ib:Lib.IsBuilderF TB T8 K b (Lib.byteCells l) w):BSt TB T8 K b w l w h:=⟨hK,j,ib,Below.refl _ _,Lib.OthersKept.refl _ _ _⟩
theorem BSt.ext (s:BSt TB T8 K b wa l w h)(x:Ext w w'){h':Hp}(j:J8 T8 K b h'):BSt TB T8 K b wa l w' h':=⟨Nat.le_trans s.hK x.size,j,py s.ib x,s.be.trans (pS x s.hK),s.ok.trans (uh x)⟩
theorem SS.atKb (g:G w h)(hK:K≤w.heap.size):∃ w0 h0,SS w0 h0 w h [] [] []∧h0.size=K:=by
 have hsz:=g.size;refine ⟨{ w with heap:=w.heap.extract 0 K },h.extract 0 K,⟨⟨by simp;omega,fun c=>?_⟩,⟨⟨⟨rfl,rfl,rfl,by simp;omega,fun c hc=>?_⟩,⟨by simp;omega,fun c hc=>?_⟩,g⟩,fun _ hx=>(by cases hx),fun _ hx=>(by cases hx),fun _ hx=>(by cases hx),by simp⟩,fun _ hx=>(by cases hx),.nil,fun _ hx=>(by cases hx),trivial⟩,by simp;omega⟩
 ·show (h.extract 0 K)[c]?=(w.heap.extract 0 K)[c]?∨_
  rw[Array.getElem?_extract,Array.getElem?_extract]
  by_cases hb:c<K
  ·rw[if_pos oM,if_pos oM];simpa using g.blk c
  ·rw[if_neg oM,if_neg oM];exact .inl rfl
 ·have hb':c<K:=by have:c<(w.heap.extract 0 K).size:=hc;simp at this;omega
  show w.heap[c]?=(w.heap.extract 0 K)[c]?
  rw[Array.getElem?_extract,if_pos oM];simp
 ·have hb':c<K:=by simp at hc;omega
  rw[Array.getElem?_extract,if_pos oM];simp
def jx (h:Hp)(n:Nat):Hp:=h++Array.replicate (n-h.size) junk
theorem kn {n c:Nat}(hc:c<h.size):(jx h n)[c]?=h[c]?:=Array.getElem?_append_left hc
theorem ny {n c:Nat}(h1:h.size≤c)(h2:c<n):(jx h n)[c]?=some junk:=by
 unfold jx
 rw[Array.getElem?_append_right h1,Array.getElem?_replicate,if_pos oM]
theorem gL {n:Nat}(hn:h.size≤n):(jx h n).size=n:=by unfold jx;simp;omega
theorem wK {n:Nat}(hn:h.size≤n):Gr h (jx h n):=⟨by rw[gL hn];exact hn,fun c hc=>kn hc⟩
theorem wU {n:Nat}(j:J8 T8 K b h):J8 T8 K b (jx h n):=by
 intro c o hc e
 rcases Nat.lt_or_ge c h.size with h1|h1
 ·rw[kn h1] at e;exact j c o hc e
 ·rcases Nat.lt_or_ge c n with h2|h2
  ·rw[ny h1 h2] at e;injection e with e;exact .inl e.symm
  ·unfold jx at e
   rw[Array.getElem?_append_right h1,Array.getElem?_replicate,if_neg oM] at e;cases e
theorem SS.junk (s:SS wz hz w h B [] F)(j:J8 T8 K b h){h':Hp}{B':List Bx}(u:Up w h w' h')(s':St wz hz w' h' B'):∃ h'',SS wz hz w' h'' B' [] F∧J8 T8 K b h''∧Up w h w' h'':=by
  have e0:=s.g.size;have e1:=u.g.size;have hx:=u.ext.size;have hn:h.size≤w'.heap.size:=by omega
  have gr:=wK hn
  have g':G w' (jx h w'.heap.size):=⟨(gL hn).symm,fun c=>by
    rcases Nat.lt_or_ge c h.size with h1|h1
    · rw[kn h1]
      rcases s.g.blk c with h2|h2
      · exact .inl (h2.trans (Below.block u.ext c oM).symm)
      · exact .inr h2
    · rcases Nat.lt_or_ge c w'.heap.size with h2|h2
      · exact .inr (ny h1 h2)
      · left
        rw[Array.getElem?_eq_none (by rw[gL hn];exact h2),Array.getElem?_eq_none h2]⟩
  refine ⟨jx h w'.heap.size,⟨s.g0,⟨⟨s'.up.ext,s.st.up.gr.trans gr,g'⟩,s'.own,fun x hx2=>?_,s'.lo,s'.nd⟩,fun _ hr=>(by cases hr),.nil,s.mo,s.f.gw s.mo gr.gw⟩,wU j,⟨u.ext,gr,g'⟩⟩;have h1:=s'.jk x hx2
  rcases Nat.lt_or_ge x.b h.size with h2|h2
  · rw[kn h2,←u.gr.blk _ h2];exact h1
  · exact ny h2 (by have:=aN h1;omega)
theorem SS.oth (s:SS wz hz w h B [] F)(hK:hz.size=K)(j:J8 T8 K b h)(be:Below K w w')(ok:Lib.OthersKept T8 (some b) w w')(hB:AllNe T8 b B):∃ h',SS wz hz w' h' B [] F∧J8 T8 K b h':=by
  have e0:=s.g.size;have ez:=s.g0.size;have hx:=be.size;have hn:h.size≤w'.heap.size:=by omega
  have gr:=wK hn
  have g' : G w' (jx h w'.heap.size):=⟨(gL hn).symm,fun c=>by
    rcases Nat.lt_or_ge c h.size with h1|h1
    · rw[kn h1]
      rcases s.g.blk c with h2|h2
      · rcases Nat.lt_or_ge c K with h3|h3
        · exact .inl (h2.trans (be.block c h3).symm)
        · cases ho:h[c]? with
          | none=>rw[Array.getElem?_eq_none_iff] at ho;omega
          | some o =>
            rcases j c o h3 ho with rfl|⟨h4,h5⟩
            · exact .inr rfl
            · left;exact (ok c o (h2.symm.trans ho) (fun e=>h4 (Option.some.inj e)) h5).symm
      · exact .inr h2
    · rcases Nat.lt_or_ge c w'.heap.size with h2|h2
      · exact .inr (ny h1 h2)
      · left
        rw[Array.getElem?_eq_none (by rw[gL hn];exact h2),Array.getElem?_eq_none h2]⟩
  have hx2:Ext wz w':=⟨be.os.trans s.st.up.ext.os,be.tape.trans s.st.up.ext.tape,be.output.trans s.st.up.ext.output,Nat.le_trans s.st.up.ext.size be.size,fun c hc=>(be.block c oM).trans (Below.block s.st.up.ext c hc)⟩;refine ⟨jx h w'.heap.size,⟨s.g0,⟨⟨hx2,s.st.up.gr.trans gr,g'⟩,fun x hx3=>?_,fun x hx3=>?_,s.st.lo,s.st.nd⟩,fun _ hr=>(by cases hr),.nil,s.mo,s.f.gw s.mo gr.gw⟩,wU j⟩
  · have h1:=s.st.own x hx3
    have h2:=hB.mem x hx3;exact ok x.b _ h1 (fun e=>h2.1 (Option.some.inj e)) (fun cs fz e=>by injection e with _ e2;exact h2.2 e2)
  · have h1:=s.st.jk x hx3
    rw[kn (aN h1)];exact h1
end
section laws
variable {T8 TB:TypeId} {K b:Nat} {M:Ms} {P:Program} {n:Nat} {N R:Po} {X:Nat→Po} {ops:Array Oper} {k k0:Nat} {hr:Hp} {AL:List Al} {L:Array Bool} {Γ:bI} {wz w w' wa:World} {hz h:Hp} {B:List Bx} {F:List (Hp→Prop)} {l out:List UInt8}
theorem AY (t:Nat){f:FuncId}{args:Array Value}{Φ:Value→Hp→Prop}(s:SS wz hz w h B [] F)(bs:BSt TB T8 K b wa l w h)(c:Calls P f args w (Ret w h Φ))(H:∀ v w' h' h2,SS wz hz w' h' B [] F→BSt TB T8 K b wa l w' h'→Φ v h2→LG P n N R X ops (k+1) ((t,v)::Γ) w')(hc:cL ops Γ k t n=true:=by kernel_rfl)(hr:(execOp (ev Γ) (am ops k)).run P w=.ok (.enter f args) w:=by kernel_rfl):LG P n N R X ops k Γ w :=
 LG.call t f args (bD hc).1 (bD hc).2 hr (c.mono fun e w' ⟨v,h',he,u,hΦ⟩=>by
  obtain ⟨h2,s2,j2,_⟩:=s.junk bs.j8 u (s.st.step u);exact ⟨v,he,H v w' h2 h' s2 (bs.ext u.ext j2) hΦ⟩)
theorem EQ (t:Nat)(ty:TypeId)(vs:List Value)(s:SS wz hz w h B [] F)(bs:BSt TB T8 K b wa l w h)(H:∀ c w' h',c≠b→SS wz hz w' h' (⟨c,ty,vs⟩::B) [] F→BSt TB T8 K b wa l w' h'→LG P n N R X ops (k+1) ((t,.pointer (some ⟨c,0,none⟩))::Γ) w')(hc:cL ops Γ k t n=true:=by kernel_rfl)
  (hr:(execOp (ev Γ) (am ops k)).run P w=.ok (.value (.pointer (some ⟨w.heap.size,0,none⟩))) (w.alloc (.cells vs.toArray ty (0,0))):=by kernel_rfl):LG P n N R X ops k Γ w :=
 LG.var t ty vs s.st (bD hc).1 (bD hc).2 hr (fun c w' h' hb u s'=>by
  obtain ⟨h2,s2,j2,_⟩:=s.junk bs.j8 u s';have hlt:=(uo bs.ib).2;have:=s.g.size;exact H c w' h2 oM s2 (bs.ext u.ext j2))
theorem tp (t:Nat){f:FuncId}{args:Array Value}{V:Value}(s:SS wz hz w h B [] F)(bs:BSt TB T8 K b wa l w h)(hK:hz.size=K)(hB:AllNe T8 b B)(c:Calls P f args w (kS TB T8 K b V l out w))(H:∀ w' h',SS wz hz w' h' B [] F→BSt TB T8 K b wa (l++out) w' h'→LG P n N R X ops (k+1) ((t,V)::Γ) w')(hc:cL ops Γ k t n=true:=by kernel_rfl)(hr:(execOp (ev Γ) (am ops k)).run P w=.ok (.enter f args) w:=by kernel_rfl):LG P n N R X ops k Γ w :=
 LG.call t f args (bD hc).1 (bD hc).2 hr (c.mono fun e w' ⟨he,ib,be,ok⟩=>by
  obtain ⟨h2,s2,j2⟩:=s.oth hK bs.j8 be ok hB;exact ⟨V,he,H w' h2 s2 ⟨Nat.le_trans bs.hK be.size,j2,ib,bs.be.trans be,bs.ok.trans ok⟩⟩)
theorem EL (i t:Nat){f:FuncId}{args:Array Value}{V:Value}(s:SS wz hz w h B [] F)(bs:BSt TB T8 K b wa l w h)(hK:hz.size=K)(hB:AllNe T8 b B)(c:Calls P f args w (kS TB T8 K b V l out w))(H:∀ w' h',SS wz hz w' h' B [] F→BSt TB T8 K b wa (l++out) w' h'→AG M P n N R X ops k0 (L.setIfInBounds i true) ((t,V)::Γ) w')(hc:(ff ops k0 L i && aW Γ (am ops i) && ((am ops i).dst == some t) && decide (t<n))=true:=by kernel_rfl)(hw:aZ ops Γ (am ops i)=some true:=by kernel_rfl)
  (hr:(execOp (ev Γ) (am ops i)).run P w=.ok (.enter f args) w:=by kernel_rfl)(hz':M.z=none:=by rfl):AG M P n N R X ops k0 L Γ w :=
 tC i t (c.mono fun e w' ⟨he,ib,be,ok⟩=>by
  obtain ⟨h2,s2,j2⟩:=s.oth hK bs.j8 be ok hB;exact ⟨V,he,Tl.none hz' _ _,H w' h2 s2 ⟨Nat.le_trans bs.hK be.size,j2,ib,bs.be.trans be,bs.ok.trans ok⟩⟩) hc hw hr
theorem CT {wr:World}{hr2:Hp}(s:SS wz hz w h B [] F)(m:UpM [] wr hr2 w h)(H:∀ w' h',UpM [] wr hr2 w' h'→SS wz hz w' h' B [] F→AG M P n N R X ops k0 L Γ w')(hc:dX ops [] L=true:=by kernel_rfl):EG M P n N R X ops k0 hr [] L Γ w h:=Rg.fin0 hc (fun w' h' u=>H w' h' (m.trans (u.m _)) (s.step u))
theorem BSt.back {wr:World}{hr2:Hp}(bs:BSt TB T8 K b wa l wr hr2)(s:SS wz hz wr hr2 B [] F)(m:UpM [] wr hr2 w h):∃ h',SS wz hz w h' B [] F∧BSt TB T8 K b wa l w h':=by
 obtain ⟨h2,s2,j2,_⟩:=s.junk bs.j8 m.up (s.st.step m.up);exact ⟨h2,s2,bs.ext m.up.ext j2⟩
end laws
section ret
variable {T8 TB:TypeId} {K b:Nat} {P:Program} {n:Nat} {Γ:bI} {wz w wa:World} {hz h:Hp} {B:List Bx} {F:List (Hp→Prop)} {l l0 out:List UInt8}
theorem SS.retB {fn:Func}{V:Value}(s:SS wz hz w h B [] F)(bs:BSt TB T8 K b wa l w h)(ps:List (Nat × Nat × Nat))(hl:l=l0++out)(hk:(jQ fn Γ && bF B ps)=true:=by kernel_rfl)(he:bE P (k7 fn Γ) (bT B ps)=some (V,bA B ps):=by kernel_rfl):∀ a,Kn n a Γ→jW P fn (kS TB T8 K b V l0 out wa) a w:=by
 intro a ka;rw[Bool.and_eq_true] at hk
 refine ⟨ka.df.trans (kY hk.1),V,?_,rfl,by rw[←hl];exact bs.ib,bs.be,bs.ok⟩;rw[fv ka hk.1];exact bu _ _ _ _ he (bP s.st.own ps hk.2)
end ret
def q6:Go.Shelf.Ren:=⟨fun|166=>37|240=>70|276=>102|n=>n,fun|0=>0|3=>3|4=>4|5=>5|9=>9|20=>20|37=>61|70=>60|72=>63|75=>89|164=>136|80=>65|n=>n,fun n=>n⟩
theorem vk:Go.Proofs.Lays.n166 Tryz.prog q6:={
 mixed:=by kernel_rfl
 f166:=Tryz.func37.trans (congrArg some kR)
 f240:=Tryz.func70.trans (congrArg some kR)
 f276:=Tryz.func102.trans (congrArg some kR)
 t0:=Tryz.underlying0
 a0:=Tryz.isAgg0
 z0:=Tryz.sizeOf0
 v0:=Tryz.zeroValue0
 t3:=Tryz.underlying3
 a3:=Tryz.isAgg3
 z3:=Tryz.sizeOf3
 v3:=Tryz.zeroValue3
 t4:=Tryz.underlying4
 a4:=Tryz.isAgg4
 z4:=Tryz.sizeOf4
 v4:=Tryz.zeroValue4
 t9:=Tryz.underlying9
 a9:=Tryz.isAgg9
 z9:=Tryz.sizeOf9
 v9:=Tryz.zeroValue9
 t20:=Tryz.underlying20
 a20:=Tryz.isAgg20
 z20:=Tryz.sizeOf20
 v20:=Tryz.zeroValue20
 t37:=Tryz.underlying61
 a37:=Tryz.isAgg61
 z37:=Tryz.sizeOf61
 v37:=Tryz.zeroValue61
 t70:=Tryz.underlying60
 a70:=Tryz.isAgg60
 z70:=Tryz.sizeOf60
 v70:=Tryz.zeroValue60
 t72:=Tryz.underlying63
 a72:=Tryz.isAgg63
 z72:=Tryz.sizeOf63
 v72:=Tryz.zeroValue63
 t75:=Tryz.underlying89
 a75:=Tryz.isAgg89
 z75:=Tryz.sizeOf89
 v75:=Tryz.zeroValue89
 t164:=Tryz.underlying136
 a164:=Tryz.isAgg136
 z164:=Tryz.sizeOf136
 v164:=Tryz.zeroValue136 }
theorem sT:Builder.Extra Tryz.prog q6:={
 sizeBuilder:=by kernel_rfl
 liesBuilder:=by kernel_rfl
 t5:=Tryz.underlying5
 a5:=Tryz.isAgg5
 z5:=Tryz.sizeOf5
 v5:=Tryz.zeroValue5
 infoByte:=by kernel_rfl
 cellsByte:=by kernel_rfl
 sizeByte:=by kernel_rfl
 neB5:=by decide }
structure LayLen (L:Lay):Prop where
  rl:L.W.length≤1000000
  rls:∀ i,i<L.W.length→(L.W.getD i []).length≤1000000
  bl:L.B.length≤1000000
structure Mat (W:List (List Rat)) (r c:Nat):Prop where
  rows:W.length=r
  rpos:0<r
  cpos:0<c
  row:∀ i,i<r→(W.getD i []).length=c
structure Net3 (ls:List Lay) (d:Nat→Nat):Prop where
  len:1≤ls.length∧ls.length≤4
  first:d 0≤20
  lay:∀ i,i<ls.length→Mat (ls.getD i fW).W (d (i+1)) (d i)∧(ls.getD i fW).B.length=d (i+1)∧d (i+1)≤12∧((ls.getD i fW).k=1∨(ls.getD i fW).k=2∨(ls.getD i fW).k=3)
theorem ml (u:Rat):0<((1:Int):Rat)+dR u:=by
 have h:(0:Rat)≤dR u:=by rw[←Rat.num_nonneg,jc];omega
 have h1:(0:Rat)<((1:Int):Rat):=by decide
 grind
theorem np (u:Rat):(((1:Int):Rat)+dR u).num≠0:=by
 have:=ml u;intro e;have e2:((1:Int):Rat)+dR u=0:=by rw[←Rat.num_eq_zero];exact e
 rw[e2] at this;exact absurd this kD
def Ez (k:Int)(u:Rat):Rat:=if k=2 then maxR u 0 else if k=3 then u/(((1:Int):Rat)+dR u) else u
def D9 (L:Lay)(x:List Rat):List Rat:=(List.range L.W.length).map fun i=>Ez L.k (AS (L.W.getD i []) x x.length+L.B.getD i 0)
def vF (ls:List Lay)(xs:List Rat):Nat→List Rat
  | 0=>xs
  | k+1=>D9 (ls.getD k fW) (vF ls xs k)
abbrev gD (ls:List Lay)(xs:List Rat)(k r:Nat):Rat:=AS ((ls.getD k fW).W.getD r []) (vF ls xs k) (vF ls xs k).length
abbrev gS (ls:List Lay)(xs:List Rat)(k r:Nat):Rat:=gD ls xs k r+((ls.getD k fW).B).getD r 0
structure NetB (ls:List Lay) (xs:List Rat):Prop where
  w:∀ k i j,LQ 1000000 (((ls.getD k fW).W.getD i []).getD j 0)
  b:∀ k i,LQ 1000000 ((ls.getD k fW).B.getD i 0)
  x:∀ k,k≤ls.length→∀ j,LQ 1000000 ((vF ls xs k).getD j 0)
structure LaySz (L:Lay):Prop where
  rl:L.W.length≤8
  rls:∀ i,(L.W.getD i []).length≤8
  bl:L.B.length≤8
  w:∀ i j,LQ 1 ((L.W.getD i []).getD j 0)
  b:∀ i,LQ 1 (L.B.getD i 0)
  b4:L.B.length≤4
  w4:(L.W.getD 0 []).length≤4
theorem kh {k:Nat}(h:1≤k):LQ k 0:=(LQ.lit (z:=0) kD).mono h
section fut
variable {P:Program} {n:Nat} {N R:Po} {X:Nat→Po} {ops:Array Oper} {k0 K:Nat} {L:Array Bool} {Γ:bI} {w:World} {h:Hp} {w0:World} {h0:Hp} {B:List Bx} {Rs:List Rw} {F:List (Hp→Prop)}
end fut
structure LayS4 (L:Lay):Prop where
  rl:L.W.length≤4
  rls:∀ i,(L.W.getD i []).length≤4
  bl:L.B.length≤4
  w:∀ i j,LQ 1 ((L.W.getD i []).getD j 0)
  b:∀ i,LQ 1 (L.B.getD i 0)
section fla
variable {P:Program} {n:Nat} {N R:Po} {X:Nat→Po} {ops:Array Oper} {k:Nat} {Γ:bI} {w:World} {h:Hp} {w0:World} {h0:Hp} {B:List Bx} {Rs:List Rw} {F:List (Hp→Prop)}
end fla
section prt
variable {M:Ms} {P:Program} {n:Nat} {N R:Po} {X:Nat→Po} {ops:Array Oper} {k k0:Nat} {hr:Hp} {AL:List Al} {L:Array Bool} {Γ:bI} {w:World} {h:Hp}
end prt
def db (a:Rat):Nat→Rat
  | 0=>((1:Int):Rat)
  | k+1=>db a k*a
theorem oJ {a:Rat}(h:a≠0):∀ k,db a k≠0
 | 0=>by show ((1:Int):Rat)≠0;decide
 | k+1=>by show db a k*a≠0;have:=oJ h k;grind
theorem pm {k:Nat}(h:0<k):db 0 k=0:=by
 obtain ⟨j,rfl⟩:∃ j,k=j+1:=⟨k-1,by omega⟩
 show db 0 j*0=0;rw[Rat.mul_zero]
def it (a:Rat)(n:Int):Rat:=if 0≤n then db a n.natAbs else ((1:Int):Rat)/db a n.natAbs
def m9 (a b:Rat):Rat:=if b<a then b else a
def BT (op n:Int)(q a b:Rat):Rat :=
  if op=1 then q else if op=3 then a+b else if op=4 then a-b else if op=5 then a*b else if op=6 then a/b else if op=7 then -a
  else if op=8 then it a n else if op=9 then dR a else if op=10 then maxR a 0 else if op=11 then a/(dR a+((1:Int):Rat)) else if op=12 then maxR a b else m9 a b
def nP (op n:Int)(a b:Rat):Prop:=(op=6→b≠0)∧(op=8→n<0→a≠0)
instance (op n:Int) (a b:Rat):Decidable (nP op n a b):=by unfold nP;infer_instance
def EK (op:Int)(a b:Rat):Prop:=(op=9∨op=10)∧a=0∨(op=12∨op=13)∧a=b
instance (op:Int) (a b:Rat):Decidable (EK op a b):=by unfold EK;infer_instance
theorem qr {a:Rat}(h:a≠0):a.num≠0:=fun e=>h (by rw[←Rat.num_eq_zero];exact e)
theorem hC {a:Rat}{K:Nat}(h:LQ K a):∀ k,LQ (k*K+1) (db a k)
 | 0=>LQ.mono (k:=1) (LQ.lit (z:=1) kD) oM
 | k+1=>((hC h k).mul h).mono (by rw[Nat.add_mul];omega)
theorem wN (a b:Rat)(hb:b=0)(w:World)(h:Hp)(g:G w h):CV 59 #[qv a,qv b] w h (.tuple #[qv 0,.bool false]):=by
 subst hb;exact BW a (kh oM) w h g
theorem mP (u:Rat):(dR u+((1:Int):Rat)).num≠0:=by rw[Rat.add_comm];exact np u
theorem oU {a b:Rat}:di a b=0↔a=b:=by
 constructor
 ·intro h
  have h1:¬a<b:=fun x=>by have:=iR.2 x;omega
  have h2:¬b<a:=fun x=>by have:=i5.2 x;omega
  grind
 ·intro h;subst h
  have h1:¬di a a<0:=fun x=>by have:=iR.1 x;grind
  have h2:¬di a a>0:=fun x=>by have:=i5.1 x;grind
  omega
theorem DS (a b:Rat)(ha:LQ 100000000 a)(hb:LQ 100000000 b)(w:World)(h:Hp)(g:G w h):CV 64 #[qv a,qv b] w h (qv (m9 a b)):=by
 have hs:=sS g;refine go Tryz.func64 [(0,qv a),(1,qv b)] rfl (aE (lA 2 28 (qc a) hs (fun b1 w2 h3 hs=>lA 3 28 (qc b) hs (fun b4 w5 h6 hs=>lA 4 28 ([qF,uV 0,eS,uV 0,eS]) hs (fun b7 w8 h9 hs=>af (aa hs [.o 5 (qv b) 1 0 5,.o 6 (qv a) 2 0 5] (ag 7 hs (x9 b a (LQ.mono hb oM) (LQ.mono ha oM) _ _ hs.g) (fun _ _ hs=>?_))))))));cases za:(decide ((di b a:Int)<(0:Int)))
 ·
  have zb:=oF za;exact lB 8 za (ah (cK (aa hs [.o 10 (qv a) 2 0 5] (lP 0 0 (qc a) hs (fun _ hs=>ac hs [(0,0,5)] (qv a) (by unfold m9;rw[if_neg (fun h_=>by have:=iR.2 h_;omega)]))))))
 have zb:=oT za;exact lB 8 za (ao (aa hs [.o 9 (qv b) 1 0 5] (lP 0 0 (qc b) hs (fun _ hs=>ac hs [(0,0,5)] (qv b) (by unfold m9;rw[if_pos (iR.1 oM)])))))
def jU (op n:Int)(q a b:Rat):Rat:=if nP op n a b then BT op n q a b else 0
section
variable {sm:Bool} {inp:Int} {l:List Stp} {os:List Int} {at_:List Rat}
end
def tr (nm:Int→ByteArray)(l:List Stp)(i:Nat):Tm:=BS nm l (l.length+1) i
structure DpS (dp:Nat→Nat) (l:List Stp):Prop where
  one:∀ k,k<l.length→1≤dp k
  le:∀ k,k<l.length→dp k≤20
  a:∀ k,k<l.length→0<eF (l.getD k dl).op→dp (l.getD k dl).a.toNat<dp k
  b:∀ k,k<l.length→1<eF (l.getD k dl).op→dp (l.getD k dl).b.toNat<dp k
section
variable {nm:Int→ByteArray} {l:List Stp} {inp:Int} {dp:Nat→Nat}
end
section
variable {nm:Int→ByteArray} {l:List Stp} {inp:Int} {h:Hp} {k:Nat} {dp:Nat→Nat}
variable (hdp:DpS dp l) (hF:∀ k,k<l.length→gg inp k (l.getD k dl)) (hq0:∀ k,k<l.length→(l.getD k dl).op≠1→(l.getD k dl).q=0)
include hdp hF hq0
end
section
variable {dp:Nat→Nat} {inp:Int} {l:List Stp} {os:List Int} {out:Int} {nn:Nat} {e0:Int} {nm:Int→ByteArray}
end
theorem oQ  (isb:ByteArray→Bool)(sm:ByteArray→Prop)(pF:∀ s,sm s→∀ (w:World) (h:Hp),G w h→Calls Tryz.prog 11 #[.string s] w (Ret w h (fun v _=>∃ b,v=.bool b∧b=isb s)))(d:Nat)(p:PTm)(t:Tm)(hd:d≤24)(w:World)(h:Hp)(g:G w h)(hT:TmH d h p t)(hS:lr sm d t):CR 15 #[aF p] w h (fun v _=>∃ e:Int,v=iV e∧((WfT (fun s=>isb s=true) d t∧e=(if 1000<ba d t then 18 else 0))∨(¬WfT (fun s=>isb s=true) d t∧e=2))):=by
 have hs:=((sS g).add (K:=fun h_=>TmH d h_ p t) hT);refine go Tryz.func15 [(0,aF p)] rfl (aE (lA 1 31 (aK p) hs (fun b1 w2 h3 hs=>lL hs [.v 2 (iV 0)] (af (aa hs [.o 3 (aF p) 0 0 9] (ag 4 hs (oR sm d p t 24 _ _ hs.g hs.f.1 hS oM oM) (fun w4 h5 hs=>ah (cK (cQ (aa hs [.o 5 (aF p) 0 0 9] (lC 6 hs (mn isb sm pF d p t _ _ hs.g hs.f.1 hS) ?_)))))))))));rintro _ w6 h7 hs ⟨bf,rfl,hbf⟩;cases hb8:(bf)
 ·
  exact lL hs [.v 7 qT] (ao (aa hs [.v 2 (iV 2)] (ac hs [] (iV 2) (⟨_,rfl,.inr ⟨fun h_=>Bool.noConfusion ((hbf.2 h_).symm.trans aM),rfl⟩⟩))))
 refine lL hs [.v 7 qF] (ah (cK (cQ (aa hs [.o 8 (aF p) 0 0 9] (ag 9 hs (l9 (fun s=>isb s=true) d p t _ _ hs.g hs.f.1 (hbf.1 aM)) (fun w9 _ hs=>?_))))));cases za:(decide ((1000:Int)<(((min (ba d t) 1001:Nat):Int):Int)))
 ·
  have zb:=oF za;exact lB 10 za (ah (cK (aa hs [.v 2 (iV 0)] (ac hs [] (iV 0) (⟨_,rfl,.inl ⟨hbf.1 aM,by split<;>omega⟩⟩)))))
 have zb:=oT za;exact lB 10 za (ao (aa hs [.v 2 (iV 18)] (ac hs [] (iV 18) (⟨_,rfl,.inl ⟨hbf.1 aM,by split<;>omega⟩⟩))))
theorem ox (isb:ByteArray→Bool)(sm:ByteArray→Prop)(pF:∀ s,sm s→∀ (w:World) (h:Hp),G w h→Calls Tryz.prog 11 #[.string s] w (Ret w h (fun v _=>∃ b,v=.bool b∧b=isb s)))(hsm:∀ s,isb s=true→sm s)(h0:sm ⟨#[]⟩)(d:Nat)(p:PTm)(t:Tm)(hd:d≤24)(w:World)(h:Hp)(g:G w h)(hT:TmH d h p t)(hW:WfT (fun s=>isb s=true) d t):Calls Tryz.prog 15 #[aF p] w (Ret w h (fun v _=>v=iV (if 1000<ba d t then 18 else 0))) :=
 (oQ isb sm pF d p t hd w h g hT (hW.sm hsm h0)).mono fun e w' ⟨v,h',e1,u,e2,e3,e4⟩=>⟨v,h',e1,u,by
  rcases e4 with ⟨_,e4⟩|⟨e4,_⟩
  ·rw[e3,e4]
  ·exact absurd hW e4⟩
structure RecOk (nm:Int→ByteArray) (inp:Int) (d:Nat) (l:List Stp) (l2:List Stp) (n:Nat) (t:Tm):Prop where
  lq:(∀ i,LQ 1 (l.getD i dl).q)→∀ i,LQ 1 (l2.getD i dl).q
  dps:∀ dp,DpS dp l→∃ dp',DpS dp' l2∧(∀ k,k<l.length→dp' k=dp k)∧dp' (l2.length-1)≤d
  pre:∃ m,l2=l++m
  len:l2.length=l.length+n
  pos:0<n
  fm:∀ k,k<l2.length→gg inp k (l2.getD k dl)
  tr:∀ f,l2.length≤f→BS nm l2 f (l2.length-1)=t
structure AllOk (nm:Int→ByteArray) (inp:Int) (d:Nat) (ts:List Tm) (k:Nat) (l:List Stp) (os:List Int) (c:Nat):Prop where
  len:l.length=c
  fm:∀ k,k<l.length→gg inp k (l.getD k dl)
  lq:∀ i,LQ 1 (l.getD i dl).q
  dps:∃ dp,DpS dp l
  out:∀ j,j<k→0≤os.getD j 0∧os.getD j 0<(l.length:Nat)∧BS nm l (l.length+1) (os.getD j 0).toNat=ts.getD j ca
section
variable {d:Nat} {h:Hp}
end
def i8 (s:ByteArray):Prop:=s.size≤1000
theorem pY:i8 ⟨#[]⟩:=by unfold i8;decide
theorem ir {s:ByteArray}(h:bg s=true):i8 s:=by
 have:=oT h
 unfold i8;omega
theorem uj:∀ s,i8 s→∀ (w:World) (h:Hp),G w h→Calls Tryz.prog 11 #[.string s] w (Ret w h (fun v _=>∃ b,v=.bool b∧b=bg s)):=fun s hs w h g=>(pn s (by unfold i8 at hs;omega) w h g).mono fun e w' ⟨v,h',e1,u,e2⟩=>⟨v,h',e1,u,_,e2,rfl⟩
theorem TmH.cut {ok:ByteArray→Prop}{h:Hp}:∀ {e d:Nat} {p:PTm} {t:Tm},TmH e h p t→WfT ok d t→TmH d h p t
 | _,0,_,_,_,x=>x.elim
 | 0,_,_,_,x,_=>x.elim
 | e+1,d+1,p,t,⟨h1,h2,h3,h4,h5,h6,ps,h7,h8,h9⟩,⟨_,_,_,_,_,_,_,_,k⟩=>⟨h1,h2,h3,h4,h5,h6,ps,h7,h8,fun i hi=>(h9 i hi).cut (k i hi)⟩
theorem PtH.cut {ok:ByteArray→Prop}{h:Hp}{d:Nat}{p:PTm}{t:Tm}(x:PtH h p t)(y:WfT ok d t):TmH d h p t:=by obtain ⟨e,x⟩:=x;exact x.cut y
theorem gI (nf bf:ByteArray→Option Rat)(hnf:lU nf)(hbf:wY bf)(s:ByteArray)(hsz:s.size≤65536)(n:Nat)(t:Tm)(b:Nat)(hq:cl nf bf s n .sum 0=some (.ok t b))(hb:sk s b=s.size)(d:Nat)(hd:d≤24)(hW:WfT (fun s=>bg s=true) d t)(hw:ba d t≤1000)(w:World)(h:Hp)(g:G w h)(tb:Tab h):CR 4 #[.string s] w h (fun v h1=>∃ p,v=.tuple #[aF p,.agg #[iV 0,iV 0,iV 0]]∧TmH d h1 p t):=by
 have hs:=((sS g).aB tb);refine go Tryz.func4 [(0,.string s)] rfl (aE (lA 2 31 ([iV 0,iV 0,qF,uV 0,eS,uV 0,eS,eS,sZ]) hs (fun b1 w2 h3 hs=>lA 3 34 ([iV 0,iV 0,iV 0]) hs (fun b4 w5 h6 hs=>af (aa hs [.m 7 0,.v 8 (nV s.size)] ?_)))));have hb7:(decide ((65536:Int)<(s.size:Int)))=false:=decide_eq_false oM;refine lB 9 hb7 (ah (cK (aa hs [.m 12 0,.v 13 (.agg #[.string s,iV 0,iV 0])] (lA 14 52 ([.string s,iV 0,iV 0]) hs (fun b8 w9 _ hs=>lL hs [.m 4 14] (aG (lL hs [.m 15 4] (cY 16 ((x5 hnf nJ hbf n).1 b8 s oM 0 (Nat.zero_le _) 0 t b hq _ _ hs.g (hs.own 0) (hs.jk 0) hs.f.1) ?_))))))));rintro _ _ _ u13 ⟨tq,p,rfl,hbl,hO,hS,hT⟩;replace hs:=(hs.stepM 0 u13 hO).to [⟨b8,52,[.string s,nV b,iV 0]⟩,⟨b4,34,[iV 0,iV 0,iV 0]⟩,⟨b1,31,[iV 0,iV 0,qF,uV 0,eS,uV 0,eS,eS,sZ]⟩] [];replace hs:=((hs.a_Seg hS).add (K:=fun h_=>PtH h_ p t) hT);refine lL hs [.m 5 16] (af (aa hs [.m 17 5,.v 18 qT] (ao (aa hs [.m 19 4] (cY 20 (jd b8 s oM b hbl 0 _ _ hs.g (hs.own 0) (hs.jk 0) hs.f.r.1) ?_)))));rintro _ _ _ u16 ⟨rfl,hO2⟩;rw[hb] at hO2
 rw[hb];replace hs:=(hs.stepM 0 u16 hO2).to [⟨b8,52,[.string s,nV s.size,iV 0]⟩,⟨b4,34,[iV 0,iV 0,iV 0]⟩,⟨b1,31,[iV 0,iV 0,qF,uV 0,eS,uV 0,eS,eS,sZ]⟩] [];refine aG (lL hs [.m 21 4,.v 22 (pB b8),.v 23 (qP b8 1),.o 24 (nV s.size) 0 1 1,.m 25 0,.v 26 (nV s.size)] ?_);have za:(decide ((s.size:Int)<(s.size:Int)))=false:=decide_eq_false oM;refine lB 27 za (ah (cK (cQ (aa hs [.m 34 5,.v 35 qF] (ah (cK (cQ (aa hs [.m 42 5,.v 43 (pB tq)] (lH 44 (aF p) hs hs.f.2.1 ?_)))))))));refine ag 45 hs ((by have q_:=ox bg i8 uj (fun s h_=>ir h_) pY d p t hd _ _ hs.g ((hs.f.1).cut hW) hW;rw[if_neg oM] at q_;exact q_)) (fun _ _ hs=>lL hs [.m 6 45] (aG (lL hs [.m 46 6,.v 47 qF] (ah (cK (aa hs [.m 51 5,.v 52 (pB tq)] (lH 53 (aF p) hs hs.f.2.1 ?_)))))));exact lL hs [.v 54 (.agg #[iV 0,iV 0,iV 0])] (lP 2 0 (aK p) hs (fun _ hs=>lP 1 0 ([iV 0,iV 0,iV 0]) hs (fun _ hs=>ac hs [(2,0,9),(1,0,3)] (.tuple #[aF p,.agg #[iV 0,iV 0,iV 0]]) (⟨p,rfl,(hs.f.1).cut hW⟩))))
theorem qE (s:ByteArray)(hsz:s.size≤65536)(n:Nat)(t:Tm)(b:Nat)(hq:cl Bl (fun _=>none) s n .sum 0=some (.ok t b))(hb:sk s b=s.size)(d:Nat)(hd:d≤24)(hW:WfT (fun s=>bg s=true) d t)(hw:ba d t≤1000)(w:World)(h:Hp)(g:G w h)(tb:Tab h):CR 4 #[.string s] w h (fun v h1=>∃ p,v=.tuple #[aF p,.agg #[iV 0,iV 0,iV 0]]∧TmH d h1 p t) :=
 gI Bl (fun _=>none) qi rm s hsz n t b hq hb d hd hW hw w h g tb
theorem nI {P:Program}{Γ:bI}{o:Oper}{w:World}{a b:ByteArray}(h:execOp (ev Γ) o=(do pure (.value (←Op.stringOp .add a b))))(hs:a.size+b.size≤9223372036854775807):(execOp (ev Γ) o).run P w=.ok (.value (.string (a++b))) w:=by
 rw[h];simp[run_string_add_sum w a b hs,Result.andThen]
def iL (op:Int):Int:=if op=3∨op=4 then 1 else if op=5∨op=6 then 2 else if op=7 then 3 else if op=8 then 4 else 5
theorem cP (op:Int):((op=3∨op=4)∧iL op=1)∨((op=5∨op=6)∧iL op=2)∨(op=7∧iL op=3)∨(op=8∧iL op=4)∨((op<3∨8<op)∧iL op=5):=by
 unfold iL
 repeat' split
 all_goals omega
def vg (op:Int):ByteArray:=if op=3 then ⟨#[32,43,32]⟩ else if op=4 then ⟨#[32,45,32]⟩ else if op=5 then ⟨#[32,42,32]⟩ else ⟨#[32,47,32]⟩
def p5 (n:Nat):ByteArray:=⟨(Lib.decDigits n).toArray⟩
def jP (wr:Tm→Int→List UInt8):Tm→List UInt8
  | .mk op n q s ks=>if op=1 then (p5 q.num.toNat).data.toList else if op=2 then s.data.toList
    else if op=7 then (⟨#[45]⟩:ByteArray).data.toList++wr (ks.getD 0 ca) 3
    else if op=8 then wr (ks.getD 0 ca) 5++((⟨#[94]⟩:ByteArray)++p5 n.toNat).data.toList
    else wr (ks.getD 0 ca) (iL op)++(vg op).data.toList++wr (ks.getD 1 ca) (iL op+1)
def e7:Nat→Tm→Int→List UInt8
  | 0,_,_=>[]
  | d+1,t,l=>if iL t.op<l then (⟨#[40]⟩:ByteArray).data.toList++jP (e7 d) t++(⟨#[41]⟩:ByteArray).data.toList else jP (e7 d) t
def mX:Nat→Tm→Prop
  | 0,_=>False
  | d+1,.mk op n q _ ks=>eF op=ks.length∧(1≤op∧op≤8)∧(op=1→∃ k:Nat,k<100∧q=((k:Nat):Rat))∧(0≤n∧n<100)∧∀ i,i<ks.length→mX d (ks.getD i ca)
theorem vh:∀ n,n<100→(p5 n).size≤3:=by decide +kernel
theorem xX:∀ n,n<100→(Lib.decDigits n).all (fun b=>b != 47)=true:=by decide +kernel
theorem nG (k:Nat)(hk:k<100)(w:World)(h:Hp)(g:G w h):CV 40 #[.string (p5 k),.string ⟨#[47]⟩] w h (.bool false):=by
 have q:=Ret.of_same g (Tryz.strings_Contains_one (p5 k) 47 w)
 rw[nw (p5 k).data.toList (fun b hb=>by
  have h1:=List.all_eq_true.1 (xX k hk) b hb
  simpa using h1)] at q
 exact q
theorem xp (K b:Nat)(l:List UInt8)(x:ByteArray)(w:World)(hib:Lib.IsBuilderF 63 5 K b (Lib.byteCells (l)) w)(hK:K≤w.heap.size)(hl:l.length+x.data.toList.length≤140737488355328):Calls Tryz.prog 37 #[pB b,.string x] w (kS 63 5 K b (.tuple #[iV x.size,.nilIface]) l x.data.toList w) :=
 (Any.Builder_WriteString_k vk sT K b (Lib.byteCells l) x w hib (by rw[Lib.byteCells_length];exact hl) hK).mono fun e w' ⟨he,h1,h2,h3⟩=>⟨he,by
  have e2:Lib.byteCells (l++x.data.toList)=Lib.byteCells l++Lib.strCells x:=by unfold Lib.byteCells;rw[List.map_append];rfl
  rw[e2];exact .inr h1,h2,h3⟩
theorem oK (p:PTm)(w:World)(h:Hp)(g:G w h):CV 36 #[aF p] w h (iV (iL p.op)):=by
 have hs:=sS g;refine go Tryz.func36 [(0,aF p)] rfl (aE (lA 1 31 (aK p) hs (fun b1 w2 h3 hs=>lL hs [.v 2 (iV 0)] (af (aa hs [.v 3 (pB b1),.o 4 (iV p.op) 0 0 1] (bn (cQ (aE ?_))))))));cases hb4:((p.op:Int) == (3:Int))
 ·
  have phb4:=ai hb4;refine lB 6 hb4 (lL hs [.m 5 6] (ah (kQ ?_)));cases hb5:((p.op:Int) == (4:Int))
  ·
   have phb5:=ai hb5;refine lB 7 hb5 (lL hs [.m 5 7] (ah (cQ (aE ?_))));cases hb6:((p.op:Int) == (5:Int))
   ·
    have phb6:=ai hb6;refine lB 9 hb6 (lL hs [.m 8 9] (ah (kQ ?_)));cases hb7:((p.op:Int) == (6:Int))
    ·
     have phb7:=ai hb7;refine lB 10 hb7 (lL hs [.m 8 10] (ah (aE ?_)));cases hb8:((p.op:Int) == (7:Int))
     ·
      have phb8:=ai hb8;refine lB 12 hb8 (lL hs [.m 11 12] (ah (aE ?_)));cases hb9:((p.op:Int) == (8:Int))
      ·
       have phb9:=ai hb9;exact lB 14 hb9 (lL hs [.m 13 14] (ah (cK (aa hs [.v 2 (iV 5)] (ac hs [] (iV 5) (congrArg (Value.int .i64) (by have:=cP p.op;omega)))))))
      have phb9:=eq_of_beq hb9;exact lB 14 hb9 (lL hs [.m 13 14] (ao (aa hs [.v 2 (iV 4)] (ac hs [] (iV 4) (congrArg (Value.int .i64) (by have:=cP p.op;omega))))))
     have phb8:=eq_of_beq hb8;exact lB 12 hb8 (lL hs [.m 11 12] (ao (aa hs [.v 2 (iV 3)] (ac hs [] (iV 3) (congrArg (Value.int .i64) (by have:=cP p.op;omega))))))
    have phb7:=eq_of_beq hb7;exact lB 10 hb7 (lL hs [.m 8 10] (ao (aa hs [.v 2 (iV 2)] (ac hs [] (iV 2) (congrArg (Value.int .i64) (by have:=cP p.op;omega))))))
   have phb6:=eq_of_beq hb6;exact lB 9 hb6 (lL hs [.m 8 9] (ao (cK (ce (aa hs [.v 2 (iV 2)] (ac hs [] (iV 2) (congrArg (Value.int .i64) (by have:=cP p.op;omega))))))))
  have phb5:=eq_of_beq hb5;exact lB 7 hb5 (lL hs [.m 5 7] (ao (aa hs [.v 2 (iV 1)] (ac hs [] (iV 1) (congrArg (Value.int .i64) (by have:=cP p.op;omega))))))
 have phb4:=eq_of_beq hb4;exact lB 6 hb4 (lL hs [.m 5 6] (ao (cK (ce (aa hs [.v 2 (iV 1)] (ac hs [] (iV 1) (congrArg (Value.int .i64) (by have:=cP p.op;omega))))))))
theorem Dq (op:Int)(w:World)(h:Hp)(g:G w h):CV 41 #[iV op] w h (.string (vg op)):=by
 have hs:=sS g;refine go Tryz.func41 [(0,iV op)] rfl (aa hs [.v 2 (eS)] (af (aa hs [.m 3 0] (bn (aE ?_)))));cases hb1:((op:Int) == (3:Int))
 ·
  have phb1:=ai hb1;refine lB 5 hb1 (lL hs [.m 4 5] (ah (aE ?_)));cases hb2:((op:Int) == (4:Int))
  ·
   have phb2:=ai hb2;refine lB 7 hb2 (lL hs [.m 6 7] (ah (aE ?_)));cases hb3:((op:Int) == (5:Int))
   ·
    have phb3:=ai hb3;exact lB 9 hb3 (lL hs [.m 8 9] (ah (cK (aa hs [.v 2 (.string (⟨#[32,47,32]⟩))] (ac hs [] (.string (⟨#[32,47,32]⟩)) (congrArg Value.string (by unfold vg;repeat first|rw[if_pos oM]|rw[if_neg oM])))))))
   have phb3:=eq_of_beq hb3;exact lB 9 hb3 (lL hs [.m 8 9] (ao (aa hs [.v 2 (.string (⟨#[32,42,32]⟩))] (ac hs [] (.string (⟨#[32,42,32]⟩)) (congrArg Value.string (by unfold vg;repeat first|rw[if_pos oM]|rw[if_neg oM]))))))
  have phb2:=eq_of_beq hb2;exact lB 7 hb2 (lL hs [.m 6 7] (ao (aa hs [.v 2 (.string (⟨#[32,45,32]⟩))] (ac hs [] (.string (⟨#[32,45,32]⟩)) (congrArg Value.string (by unfold vg;repeat first|rw[if_pos oM]|rw[if_neg oM]))))))
 have phb1:=eq_of_beq hb1;exact lB 5 hb1 (lL hs [.m 4 5] (ao (aa hs [.v 2 (.string (⟨#[32,43,32]⟩))] (ac hs [] (.string (⟨#[32,43,32]⟩)) (congrArg Value.string (by unfold vg;repeat first|rw[if_pos oM]|rw[if_neg oM]))))))
theorem vb (d:Nat)(K b:Nat)(bs:List UInt8)(ih:∀ (K b:Nat) (bs:List UInt8) (p:PTm) (t:Tm) (least:Int) (w:World) (h:Hp),G w h→K≤w.heap.size→J8 5 K b h→Lib.IsBuilderF 63 5 K b (Lib.byteCells (bs)) w→TmH d h p t→mX d t→bs.length+(e7 d t least).length≤100000000000→Calls Tryz.prog 20 #[pB b,aF p,iV least] w (kS 63 5 K b (.tuple #[]) bs (e7 d t least) w))(op n:Int)(q:Rat)(s:ByteArray)(A:Option Addr)(c:Nat)(ps:List PTm)(ks:List Tm)(hc:ps.length≤c)(hari:eF op=(ks.length:Nat))(hop:1≤op∧op≤8)(hq1:op=1→∃ k:Nat,k<100∧q=((k:Nat):Rat))(hn:0≤n∧n<100)(hW:∀ i,i<ks.length→mX d (ks.getD i ca))(least:Int)(hle:least≤iL op)(hlen:bs.length+(jP (e7 d) (.mk op n q s ks)).length≤100000000000)(w:World)(h:Hp)(g:G w h)(hKb:K≤w.heap.size)(hj8:J8 5 K b h)(hib:Lib.IsBuilderF 63 5 K b (Lib.byteCells (bs)) w)(hA:SlO 9 aK ar h A ps)(hT:Tms d h ps ks):Calls Tryz.prog 20 #[pB b,pW op n q s A ps.length c,iV least] w (kS 63 5 K b (.tuple #[]) bs (jP (e7 d) (.mk op n q s ks)) w):=by
 obtain ⟨wz,hz0_,hs,hzK⟩:=SS.atKb g hKb;have hbs:=BSt.start hKb hj8 hib;have hln:=hT.len;have hac:=aT op;have hrk:=cP op;replace hs:=((hs.aS hA).add (K:=fun h_=>Tms d h_ ps ks) hT);refine go Tryz.func20 [(0,pB b),(1,pW op n q s A ps.length c),(2,iV least)] rfl (aE (EQ 4 31 (pG op n q s A ps.length c) hs hbs (fun b1 w2 h3 hnb_b1 hs hbs=>af (aa hs [.o 9 (pW op n q s A ps.length c) 0 0 9] (AY 10 hs hbs (oK ⟨op,n,q,s,A,ps.length,c⟩ _ _ hs.g) ?_)))));rintro _ w4 h5 _ hs hbs rfl;refine lL hs [.m 11 2] ?_;have hb6:(decide ((iL op:Int)<(least:Int)))=false:=decide_eq_false oM;refine lB 12 hb6 (ah (cK (aa hs [.v 20 (pB b1),.o 21 (iV op) 0 0 1] (bn (aE ?_)))));cases hb7:((op:Int) == (1:Int))
 ·
  have phb7:=ai hb7;refine lB 47 hb7 (lL hs [.m 46 47] (ah (aE ?_)));cases hb8:((op:Int) == (2:Int))
  ·
   have phb8:=ai hb8;refine lB 66 hb8 ?_;refine lL hs [.m 65 66] (ah (CG.join (fun Γ w_=>∃ (zf:Bool) (h_:Hp),Γ=[(0,pB b),(4,pB b1),(21,iV op),(71,.bool zf)]∧SS wz hz0_ w_ h_ [⟨b1,31,pG op n q s A ps.length c⟩] [] [fun h_=>Tms d h_ ps ks,fun h_=>SlO 9 aK ar h_ A ps]∧BSt 63 5 K b w bs w_ h_∧(zf=true→3≤op∧op≤6)∧(zf=false→7≤op)) ?_ ?_))
   ·
    refine aE ?_;cases hb9:((op:Int) == (3:Int))
    ·
     have phb9:=ai hb9;refine lB 72 hb9 (lL hs [.m 71 72] (ah (aE ?_)));cases za:((op:Int) == (4:Int))
     ·
      have zg:=ai za;refine lB 73 za (lL hs [.m 71 73] (ah (aE ?_)));cases zb:((op:Int) == (5:Int))
      ·
       have zi:=ai zb;refine lB 74 zb (lL hs [.m 71 74] (ah (kQ ?_)));cases zc:((op:Int) == (6:Int))
       ·
        have zj:=ai zc;refine lB 75 zc (lL hs [.m 71 75] (lD ?_));intro a_ ka;exact ⟨_,⟨false,h5,rfl,hs.to _ _,hbs,(fun h_=>absurd h_ kD),(fun _=>by omega)⟩,ka.to _ kR⟩
       have zj:=eq_of_beq zc;refine lB 75 zc (lL hs [.m 71 75] (lD ?_));intro a_ ka;exact ⟨_,⟨true,h5,rfl,hs.to _ _,hbs,(fun _=>by omega),(fun h_=>absurd h_ kD)⟩,ka.to _ kR⟩
      have zi:=eq_of_beq zb;refine lB 74 zb (lL hs [.m 71 74] (ao (CG.skip ?_)));intro a_ ka;exact ⟨_,⟨true,h5,rfl,hs.to _ _,hbs,(fun _=>by omega),(fun h_=>absurd h_ kD)⟩,ka.to _ kR⟩
     have zg:=eq_of_beq za;refine lB 73 za (lL hs [.m 71 73] (ao (CG.skip ?_)));intro a_ ka;exact ⟨_,⟨true,h5,rfl,hs.to _ _,hbs,(fun _=>by omega),(fun h_=>absurd h_ kD)⟩,ka.to _ kR⟩
    have phb9:=eq_of_beq hb9;refine lB 72 hb9 (lL hs [.m 71 72] (ao (CG.skip ?_)));intro a_ ka;exact ⟨_,⟨true,h5,rfl,hs.to _ _,hbs,(fun _=>by omega),(fun h_=>absurd h_ kD)⟩,ka.to _ kR⟩
   rintro _ zl ⟨zf,zm,rfl,hs,hbs,zp,hF71⟩;cases zd:(zf)
   ·
    try rw[zd] at hs
    try rw[zd]
    refine cw (aE ?_);have hF_:=hF71 aM;cases ze:((op:Int) == (7:Int))
    ·
     have zk:=ai ze;refine lB 99 ze (lL hs [.m 98 99] (ah (aE ?_)));have zq:((op:Int) == (8:Int))=true:=jR oM;refine lB 109 zq (lL hs [.m 108 109] (ao ?_));have hwr:jP (e7 d) (.mk op n q s ks)=e7 d (ks.getD 0 ca) 5++((⟨#[94]⟩:ByteArray)++p5 n.toNat).data.toList:=by simp only[jP];repeat first|rw[if_pos oM]|rw[if_neg oM]
     have hl_:=hlen;rw[hwr] at hl_
     try simp only[List.length_append] at hl_
     refine aa hs [.m 110 0,.v 111 (qP b1 8),.o 112 (qS A ps.length c) 0 8 1] (lX 113 A ps.length c 9 0 0 ((hs.f.2.1).ok oM) ?_);refine lH 114 (aF (ps.getD 0 ar)) hs ((hs.f.2.1).el 0 oM) (tp 115 hs hbs hzK ⟨⟨hnb_b1,rfl⟩,trivial⟩ (ih K b bs (ps.getD 0 ar) (ks.getD 0 ca) (5) _ _ hs.g hbs.hK hbs.j8 hbs.ib ((hs.f.1).at_ 0 oM) (hW 0 oM) (by first|omega|(simp only[List.length_append];omega))) (fun _ _ hs hbs=>lN (kQ (lL hs [.m 116 0,.v 117 (qP b1 1),.o 118 (iV n) 0 1 1] (AY 119 hs hbs (AP n n.toNat oM oM _ _ hs.g) ?_)))));rintro _ _ _ _ hs hbs rfl;refine lV 120 (.string ((⟨#[94]⟩:ByteArray)++(p5 n.toNat))) ?_ (hr:=nI (a:=⟨#[94]⟩) (b:=(p5 n.toNat)) kR (by have h1_:=vh n.toNat oM;have h2_:(⟨#[94]⟩:ByteArray).size=1:=rfl;omega));exact tp 121 hs hbs hzK ⟨⟨hnb_b1,rfl⟩,trivial⟩ (xp K b (bs++(e7 d (ks.getD 0 ca) (5))) ((⟨#[94]⟩:ByteArray)++(p5 n.toNat)) _ hbs.ib hbs.hK (by first|omega|(simp only[List.length_append];omega))) (fun _ _ hs hbs=>lD (hs.retB hbs [] (by rw[hwr];try simp only[List.append_assoc])))
    have zk:=eq_of_beq ze;refine lB 99 ze (lL hs [.m 98 99] (ao ?_));have hwr:jP (e7 d) (.mk op n q s ks)=(⟨#[45]⟩:ByteArray).data.toList++e7 d (ks.getD 0 ca) 3:=by simp only[jP];repeat first|rw[if_pos oM]|rw[if_neg oM]
    have hl_:=hlen;rw[hwr] at hl_
    try simp only[List.length_append] at hl_
    refine aa hs [.m 100 0] (tp 101 hs hbs hzK ⟨⟨hnb_b1,rfl⟩,trivial⟩ (xp K b bs (⟨#[45]⟩) _ hbs.ib hbs.hK (by first|omega|(simp only[List.length_append];omega))) (fun _ _ hs hbs=>lN (kQ (lL hs [.m 102 0,.v 103 (qP b1 8),.o 104 (qS A ps.length c) 0 8 1] (lX 105 A ps.length c 9 0 0 ((hs.f.2.1).ok oM) ?_)))));exact lH 106 (aF (ps.getD 0 ar)) hs ((hs.f.2.1).el 0 oM) (tp 107 hs hbs hzK ⟨⟨hnb_b1,rfl⟩,trivial⟩ (ih K b (bs++((⟨#[45]⟩:ByteArray).data.toList)) (ps.getD 0 ar) (ks.getD 0 ca) (3) _ _ hs.g hbs.hK hbs.j8 hbs.ib ((hs.f.1).at_ 0 oM) (hW 0 oM) (by first|omega|(simp only[List.length_append];omega))) (fun _ _ hs hbs=>lD (hs.retB hbs [] (by rw[hwr];try simp only[List.append_assoc]))))
   try rw[zd] at hs
   try rw[zd]
   refine ce (cQ ?_);have hsr:=hs;have hup:UpM [] zl zm zl zm:=UpM.refl hs.g;have hT_:=zp aM;have hwr:jP (e7 d) (.mk op n q s ks)=e7 d (ks.getD 0 ca) (iL op)++(vg op).data.toList++e7 d (ks.getD 1 ca) (iL op+1):=by simp only[jP];repeat first|rw[if_pos oM]|rw[if_neg oM]
   have hl_:=hlen;rw[hwr] at hl_
   try simp only[List.length_append] at hl_
   refine cR 7 [] mixed hs av (eV 0 76 (pB b) (eV 1 77 (qP b1 8) (DC 2 78 [3,4,7] [(0,8,1)] (qS A ps.length c) hs (eX 3 79 A ps.length c 9 0 0 ((hs.f.2.1).ok oM) (eH 4 80 (aF (ps.getD 0 ar)) hs ((hs.f.2.1).el 0 oM) (DC 5 81 [6,7] [(0,0,9)] (pW op n q s A ps.length c) hs (wQ 6 82 hs hup (fun _ _ hs=>oK ⟨op,n,q,s,A,ps.length,c⟩ _ _ hs.g) ?_)))))));rintro _ _ _ _ _ hup hs rfl;refine CT hs hup (fun _ _ hup hs=>?_);obtain ⟨_,hs,hbs⟩:=hbs.back hsr hup;refine EL 7 83 hs hbs hzK ⟨⟨hnb_b1,rfl⟩,trivial⟩ (ih K b bs (ps.getD 0 ar) (ks.getD 0 ca) (iL op) _ _ hs.g hbs.hK hbs.j8 hbs.ib ((hs.f.1).at_ 0 oM) (hW 0 oM) (by first|omega|(simp only[List.length_append];omega))) (fun _ _ hs hbs=>xi (lL hs [.m 84 0,.v 85 (pB b1),.o 86 (iV op) 0 0 1] (AY 87 hs hbs (Dq op _ _ hs.g) ?_)));rintro _ _ _ _ hs hbs rfl;refine tp 88 hs hbs hzK ⟨⟨hnb_b1,rfl⟩,trivial⟩ (xp K b (bs++(e7 d (ks.getD 0 ca) (iL op))) (vg op) _ hbs.ib hbs.hK (by first|omega|(simp only[List.length_append];omega))) (fun zn zo hs hbs=>lN ?_);have hsr:=hs;have hup:UpM [] zn zo zn zo:=UpM.refl hs.g;refine cR 8 [] mixed hs av (eV 0 89 (pB b) (eV 1 90 (qP b1 8) (DC 2 91 [3,4,8] [(0,8,1)] (qS A ps.length c) hs (eX 3 92 A ps.length c 9 1 1 ((hs.f.2.1).ok oM) (eH 4 93 (aF (ps.getD 1 ar)) hs ((hs.f.2.1).el 1 oM) (DC 5 94 [6,7,8] [(0,0,9)] (pW op n q s A ps.length c) hs (wQ 6 95 hs hup (fun _ _ hs=>oK ⟨op,n,q,s,A,ps.length,c⟩ _ _ hs.g) ?_)))))));rintro _ _ _ _ _ hup hs rfl;refine eI 7 96 ((iL op)+1) (CT hs hup (fun _ _ hup hs=>?_));obtain ⟨_,hs,hbs⟩:=hbs.back hsr hup;exact EL 8 97 hs hbs hzK ⟨⟨hnb_b1,rfl⟩,trivial⟩ (ih K b ((bs++(e7 d (ks.getD 0 ca) (iL op)))++((vg op).data.toList)) (ps.getD 1 ar) (ks.getD 1 ca) ((iL op)+1) _ _ hs.g hbs.hK hbs.j8 hbs.ib ((hs.f.1).at_ 1 oM) (hW 1 oM) (by first|omega|(simp only[List.length_append];omega))) (fun _ _ hs hbs=>tD (hs.retB hbs [] (by rw[hwr];try simp only[List.append_assoc])))
  have phb8:=eq_of_beq hb8;refine lB 66 hb8 (lL hs [.m 65 66] (ao ?_));have hwr:jP (e7 d) (.mk op n q s ks)=s.data.toList:=by simp only[jP];repeat first|rw[if_pos oM]|rw[if_neg oM]
  have hl_:=hlen;rw[hwr] at hl_
  try simp only[List.length_append] at hl_
  exact kQ (lL hs [.m 67 0,.v 68 (qP b1 7),.o 69 (.string s) 0 7 1] (tp 70 hs hbs hzK ⟨⟨hnb_b1,rfl⟩,trivial⟩ (xp K b bs s _ hbs.ib hbs.hK (by first|omega|(simp only[List.length_append];omega))) (fun _ _ hs hbs=>lD (hs.retB hbs [] (by rw[hwr];try simp only[List.append_assoc])))))
 have phb7:=eq_of_beq hb7;refine lB 47 hb7 (lL hs [.m 46 47] (ao ?_));obtain ⟨k,hk9,hqk⟩:=hq1 oM;have hlq:LQ 100000000 q:=by rw[hqk];exact (LQ.int (z:=(k:Int)) oM oM).mono oM
 have hsg:0≤q.num.sign:=by rw[hqk];rw[Rat.num_natCast];cases k<;>simp[Int.sign]
 have hwr:jP (e7 d) (.mk op n q s ks)=(p5 k).data.toList:=by simp only[jP];rw[if_pos (show op=1 by omega),hqk];rfl
 have hl_:=hlen;rw[hwr] at hl_
 try simp only[List.length_append] at hl_
 refine aa hs [.v 48 (qP b1 2),.o 49 (qv q) 0 2 5] (AY 50 hs hbs ((by have q_:=AZ k hk9 _ _ hs.g;rw[←hqk] at q_;exact q_)) ?_);rintro _ _ _ _ hs hbs rfl;refine lL hs [.m 6 50] (af (aa hs [.v 51 (qP b1 2),.o 52 (qv q) 0 2 5] (AY 53 hs hbs (gQ q hlq _ _ hs.g) ?_)));rintro _ _ _ _ hs hbs rfl;have zr:(decide ((q.num.sign:Int)<(0:Int)))=false:=decide_eq_false oM;refine lB 54 zr (lL hs [.m 55 54,.m 56 6] (AY 57 hs hbs (nG k hk9 _ _ hs.g) ?_));rintro _ _ _ _ hs hbs rfl;exact lL hs [.v 58 qF] (ah (cK (kQ (lL hs [.m 62 0,.m 63 6] (tp 64 hs hbs hzK ⟨⟨hnb_b1,rfl⟩,trivial⟩ (xp K b bs (p5 k) _ hbs.ib hbs.hK (by first|omega|(simp only[List.length_append];omega))) (fun _ _ hs hbs=>lD (hs.retB hbs [] (by rw[hwr];try simp only[List.append_assoc]))))))))
theorem tL (d:Nat)(K b:Nat)(bs:List UInt8)(op n:Int)(q:Rat)(s:ByteArray)(A:Option Addr)(c:Nat)(ps:List PTm)(ks:List Tm)(hc:ps.length≤c)(hB:∀ (bs:List UInt8) (w:World) (h:Hp),G w h→K≤w.heap.size→J8 5 K b h→Lib.IsBuilderF 63 5 K b (Lib.byteCells (bs)) w→SlO 9 aK ar h A ps→Tms d h ps ks→bs.length+(jP (e7 d) (.mk op n q s ks)).length≤100000000000→Calls Tryz.prog 20 #[pB b,aF ⟨op,n,q,s,A,ps.length,c⟩,iV 0] w (kS 63 5 K b (.tuple #[]) bs (jP (e7 d) (.mk op n q s ks)) w))(least:Int)(hle:iL op<least)(hlen:bs.length+((⟨#[40]⟩:ByteArray).data.toList++jP (e7 d) (.mk op n q s ks)++(⟨#[41]⟩:ByteArray).data.toList).length≤100000000000)(w:World)(h:Hp)(g:G w h)(hKb:K≤w.heap.size)(hj8:J8 5 K b h)(hib:Lib.IsBuilderF 63 5 K b (Lib.byteCells (bs)) w)(hA:SlO 9 aK ar h A ps)(hT:Tms d h ps ks):Calls Tryz.prog 20 #[pB b,pW op n q s A ps.length c,iV least] w (kS 63 5 K b (.tuple #[]) bs ((⟨#[40]⟩:ByteArray).data.toList++jP (e7 d) (.mk op n q s ks)++(⟨#[41]⟩:ByteArray).data.toList) w):=by
 obtain ⟨wz,hz0_,hs,hzK⟩:=SS.atKb g hKb;have hbs:=BSt.start hKb hj8 hib;have hln:=hT.len;have hac:=aT op;have hrk:=cP op;replace hs:=((hs.aS hA).add (K:=fun h_=>Tms d h_ ps ks) hT);have hl_:=hlen
 simp only[List.length_append] at hl_
 refine go Tryz.func20 [(0,pB b),(1,pW op n q s A ps.length c),(2,iV least)] rfl (aE (EQ 4 31 (pG op n q s A ps.length c) hs hbs (fun b1 w2 h3 hnb_b1 hs hbs=>af (aa hs [.o 9 (pW op n q s A ps.length c) 0 0 9] (AY 10 hs hbs (oK ⟨op,n,q,s,A,ps.length,c⟩ _ _ hs.g) ?_)))));rintro _ w4 h5 _ hs hbs rfl;refine lL hs [.m 11 2] ?_;have hb6:(decide ((iL op:Int)<(least:Int)))=true:=decide_eq_true oM;exact lB 12 hb6 (ao (aa hs [.m 13 0] (tp 14 hs hbs hzK ⟨⟨hnb_b1,rfl⟩,trivial⟩ (xp K b bs (⟨#[40]⟩) _ hbs.ib hbs.hK (by first|omega|(simp only[List.length_append];omega))) (fun w7 h8 hs hbs=>aG (lL hs [.m 15 0,.o 16 (pW op n q s A ps.length c) 0 0 9] (tp 17 hs hbs hzK ⟨⟨hnb_b1,rfl⟩,trivial⟩ (hB (bs++((⟨#[40]⟩:ByteArray).data.toList)) _ _ hs.g hbs.hK hbs.j8 hbs.ib hs.f.2.1 hs.f.1 (by first|omega|(simp only[List.length_append];omega))) (fun w9 _ hs hbs=>aG (lL hs [.m 18 0] (tp 19 hs hbs hzK ⟨⟨hnb_b1,rfl⟩,trivial⟩ (xp K b ((bs++((⟨#[40]⟩:ByteArray).data.toList))++(jP (e7 d) (.mk op n q s ks))) (⟨#[41]⟩) _ hbs.ib hbs.hK (by first|omega|(simp only[List.length_append];omega))) (fun _ _ hs hbs=>lN (kX (hs.retB hbs [] (by simp only[List.append_assoc])))))))))))))
end Go.Proofs.YtebkpkbmegcjeaaGreatDoor
