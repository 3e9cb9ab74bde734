/- Laws and contracts that the card of this claim stands on, part 6. No condition of ours. -/
import Derived.Test.YtphakaomkmhbaaaGreatDoorPk0
import Derived.Test.YtphakaomkmhbaaaGreatDoorPk1
import Derived.Test.YtphakaomkmhbaaaGreatDoorPk2
import Derived.Test.YtphakaomkmhbaaaGreatDoorPk3
import Derived.Test.YtphakaomkmhbaaaGreatDoorPk4
set_option maxRecDepth 100000
set_option maxHeartbeats 4000000
namespace Go.Proofs.YtphakaomkmhbaaaGreatDoor
open Go.RowKit
open Go.RowKit Go.Shelf
structure Mat (W:List (List Rat)) (r c:Nat):Prop where
  rows:W.length=r
  rpos:0<r
  cpos:0<c
  row:∀ i,i<r→(W.getD i []).length=c
structure Net3 (ls:List Lay) (d:Nat→Nat):Prop where
  len:1≤ls.length∧ls.length≤4
  first:d 0≤20
  lay:∀ i,i<ls.length→Mat (ls.getD i lay0).W (d (i+1)) (d i)∧(ls.getD i lay0).B.length=d (i+1)∧d (i+1)≤12∧((ls.getD i lay0).k=1∨(ls.getD i lay0).k=2∨(ls.getD i lay0).k=3)
theorem Net3.small {ls:List Lay}{d:Nat→Nat}(o:Net3 ls d)(i:Nat)(h:i<ls.length):d i≤20:=by
  cases i with
  | zero=>exact o.first
  | succ i=>have:=(o.lay i oM).2.2.1;omega
theorem one_abs_pos (u:Rat):0<((1:Int):Rat)+qabs u:=by
  have h:(0:Rat)≤qabs u:=by rw[←Rat.num_nonneg,qabs_num];omega
  have h1:(0:Rat)<((1:Int):Rat):=by decide
  grind
theorem one_abs_ne (u:Rat):(((1:Int):Rat)+qabs u).num≠0:=by
  have:=one_abs_pos u
  intro e
  have e2:((1:Int):Rat)+qabs u=0:=by rw[←Rat.num_eq_zero];exact e
  rw[e2] at this;exact absurd this kD
def act (k:Int)(u:Rat):Rat:=if k=2 then maxR u 0 else if k=3 then u/(((1:Int):Rat)+qabs u) else u
theorem LQ.act {m:Nat}{u:Rat}(k:Int)(h:LQ m u)(hm:0<m):LQ (2*m+2) (act k u):=by
  unfold Go.Proofs.YtphakaomkmhbaaaGreatDoor.act
  split
  · exact (LQ.maxR h ((LQ.lit (z:=0) kD).mono oM)).mono oM
  · split
    · exact (h.div ((LQ.lit (z:=1) kD).add h.abs)).mono oM
    · exact h.mono oM
def layq (L:Lay)(x:List Rat):List Rat:=(List.range L.W.length).map fun i=>act L.k (dotq (L.W.getD i []) x x.length+L.B.getD i 0)
def outq (ls:List Lay)(xs:List Rat):Nat→List Rat
  | 0=>xs
  | k+1=>layq (ls.getD k lay0) (outq ls xs k)
theorem outq_len {ls:List Lay}{d:Nat→Nat}(o:Net3 ls d){xs:List Rat}(hx:xs.length=d 0)(k:Nat)(hk:k≤ls.length):(outq ls xs k).length=d k:=by
  cases k with
  | zero=>exact hx
  | succ k=>show (layq _ _).length=_;unfold layq;rw[List.length_map,List.length_range];exact (o.lay k oM).1.rows
structure NetB (ls:List Lay) (xs:List Rat):Prop where
  w:∀ k i j,LQ 1000000 (((ls.getD k lay0).W.getD i []).getD j 0)
  b:∀ k i,LQ 1000000 ((ls.getD k lay0).B.getD i 0)
  x:∀ k,k≤ls.length→∀ j,LQ 1000000 ((outq ls xs k).getD j 0)
theorem getD_set_self {l:List Rat}{i:Nat}{x:Rat}(h:i<l.length):(l.set i x).getD i 0=x:=by
  rw[List.getD_eq_getElem?_getD,List.getElem?_set_self h];rfl
theorem fstep {pl:List Rat}{f:Nat→Rat}{i:Nat}{x:Rat}(hp:∀ j,j<i→pl.getD j 0=f j)(hi:i<pl.length)(hx:x=f i):∀ j,j<i+1→(pl.set i x).getD j 0=f j:=by
  intro j hj
  by_cases e:j=i
  · subst e;rw[getD_set_self hi,hx]
  · rw[List.getD_eq_getElem?_getD,List.getElem?_set_ne (Ne.symm e),←List.getD_eq_getElem?_getD];exact hp j oM
theorem dot_b1 {n:Nat}(h:n≤20):n*(1000000+1000000+1)+1000000+1000000+2≤100000000:=by rw[Nat.mul_comm n];omega
theorem dot_b2 {n:Nat}(h:n≤20):n*(1000000+1000000+1)+1≤41000000:=by rw[Nat.mul_comm n];omega
theorem dot_b3 {n:Nat}(h:n≤20):n*(1000000+1+1)+1000000+1+2≤100000000:=by rw[Nat.mul_comm n];omega
theorem map_of {pl:List Rat}{f:Nat→Rat}{i n:Nat}(hp:∀ j,j<i→pl.getD j 0=f j)(hi:i=n)(hl:pl.length=n):pl=(List.range n).map f:=by
  subst hi
  refine List.ext_getElem (by simp[hl]) (fun j h1 h2=>?_)
  have:=hp j oM
  rw[List.getD_eq_getElem?_getD,List.getElem?_eq_getElem h1] at this
  simp only[List.getElem_map,List.getElem_range]
  exact this
def sumq (L:Lay)(x:List Rat):List Rat:=(List.range L.W.length).map fun i=>dotq (L.W.getD i []) x x.length+L.B.getD i 0
def insq (ls:List Lay)(xs:List Rat)(n:Nat):List (List Rat):=(List.range n).map (outq ls xs)
def sumsq (ls:List Lay)(xs:List Rat)(n:Nat):List (List Rat):=(List.range n).map fun k=>sumq (ls.getD k lay0) (outq ls xs k)
theorem insq_succ (ls:List Lay)(xs:List Rat)(n:Nat):insq ls xs (n+1)=insq ls xs n++[outq ls xs n]:=by unfold insq;rw[List.range_succ,List.map_append];rfl
theorem sumsq_succ (ls:List Lay)(xs:List Rat)(n:Nat):sumsq ls xs (n+1)=sumsq ls xs n++[sumq (ls.getD n lay0) (outq ls xs n)]:=by unfold sumsq;rw[List.range_succ,List.map_append];rfl
theorem fDotN (A:Option Addr)(ca:Nat)(a:List Rat)(D:Option Addr)(cd:Nat)(b:List Rat)(n m1 m2:Nat)(h1:a.length=m1)(h2:b.length=m2)(e1:m1=n)(e2:m2=n)(K L:Nat)(hn:n≤1000000)(hb:n*(K+L+1)+K+L+2≤100000000)(ha:∀ i,LQ K (a.getD i 0))(hbb:∀ i,LQ L (b.getD i 0))(w:World)(h:Hp)(g:G w h)(hA:SlO 5 qc 0 h A a)(hD:SlO 5 qc 0 h D b)(tb:Tab h) :
    Calls Tryz.prog 62 #[.slice A m1 ca,.slice D m2 cd] w (Ret w h fun v _=>v=.tuple #[qv (dotq a b n),.bool true]):=by
  subst h1 h2 e1
  exact fDot A ca a D cd b K L e2.symm hn hb (fun i _=>ha i) (fun i _=>hbb i) w h g hA hD tb
theorem nAct1 (u:Rat)(w:World)(h:Hp)(g:G w h) :
    Calls Tryz.prog 177 #[.int .i64 1,qv u] w (Ret w h fun v _=>v=qv u):=by
 have hs:=SS.start g
 refine go Tryz.func177 [(0,.int .i64 1),(1,qv u)] rfl ?_
 refine cSL (lA 3 74 (qc u) hs (fun b1 w2 h3 hs=>?_))
 refine lA 4 74 ([.bool false,.int .u64 0,.string ⟨#[]⟩,.int .u64 0,.string ⟨#[]⟩]) hs (fun b4 w5 h6 hs=>?_)
 refine lN (CG.seq (cSL (lL hs [.m 7 0] (lN (CG.block (cSL (lL hs [.v 9 (.bool false),.m 8 9] (lN (cIF (cSL (lL hs [.v 14 (.bool false),.m 13 14] (lN (cIF (CG.skipN (cSL (lL hs [.o 25 (qv u) 1 0 5] (lP 0 0 (qc u) hs (fun w7 hs=>?_))))))))))))))))))
 exact lN (CG.ret (hs.ret [(0,0,5)] (qv u) rfl))
theorem nAct2 (u:Rat)(hu:LQ 45000000 u)(w:World)(h:Hp)(g:G w h) :
    Calls Tryz.prog 177 #[.int .i64 2,qv u] w (Ret w h fun v _=>v=qv (maxR u 0)):=by
 have hs:=SS.start g
 refine go Tryz.func177 [(0,.int .i64 2),(1,qv u)] rfl ?_
 refine cSL (lA 3 74 (qc u) hs (fun b1 w2 h3 hs=>?_))
 refine lA 4 74 ([.bool false,.int .u64 0,.string ⟨#[]⟩,.int .u64 0,.string ⟨#[]⟩]) hs (fun b4 w5 h6 hs=>?_)
 refine lN (CG.seq (cSL (lL hs [.m 7 0] (lN (CG.block (cSL (lL hs [.v 9 (.bool true),.m 8 9] (lN (cIT (cSL (lL hs [.o 10 (qv u) 1 0 5,.v 11 (qv 0)] (lC 12 hs (fMax u 0 (LQ.mono hu oM) (LQ.mono (LQ.lit (z:=0) kD) oM) _ _ hs.g) ?_))))))))))))
 rintro _ w7 h8 hs rfl
 refine lP 0 0 (qc (maxR u 0)) hs (fun w9 hs=>?_)
 exact lN (CG.ret (hs.ret [(0,0,5)] (qv (maxR u 0)) rfl))
theorem nAct3 (u:Rat)(hu:LQ 45000000 u)(w:World)(h:Hp)(g:G w h)(tb:Tab h) :
    Calls Tryz.prog 177 #[.int .i64 3,qv u] w (Ret w h fun v _=>v=qv (u/(((1:Int):Rat)+qabs u))):=by
 have hs:=SS.start g
 replace hs:=(hs.add (K:=fun h_=>Tab h_) tb)
 refine go Tryz.func177 [(0,.int .i64 3),(1,qv u)] rfl ?_
 refine cSL (lA 3 74 (qc u) hs (fun b1 w2 h3 hs=>?_))
 refine lA 4 74 ([.bool false,.int .u64 0,.string ⟨#[]⟩,.int .u64 0,.string ⟨#[]⟩]) hs (fun b4 w5 h6 hs=>?_)
 refine lN (CG.seq (cSL (lL hs [.m 7 0] (lN (CG.block (cSL (lL hs [.v 9 (.bool false),.m 8 9] (lN (cIF (cSL (lL hs [.v 14 (.bool true),.m 13 14] (lN (cIT (CG.seq ?_))))))))))))))
 have hsr:=hs
 refine cR 10 [⟨9,5,.cells (List.toArray [.bool false,.int .u64 0,.string ⟨#[]⟩,.int .u64 0,.string ⟨#[]⟩]) 74 (0,0)⟩] mixed hs (al_cons (alOk kR (fun _ _=>by kernel_rfl)) al_nil) ?_
 refine eO 0 16 [(1,0,5)] (qv u) hs ?_
 refine eO 2 18 [(1,0,5)] (qv u) hs ?_
 refine eC 1 17 hs (fun _ _ hs=>fOf 1 oM oM _ _ hs.g) ?_
 rintro _ _ _ w7 h8 hs rfl
 have hq9:LQ (45000000) (qabs u):=LQ.abs hu
 refine eC 3 19 hs (fun _ _ hs=>fAbs u (LQ.mono hu oM) _ _ hs.g) ?_
 rintro _ _ _ w10 h11 hs rfl
 have hq12:LQ (1+45000000+1) (((1:Int):Rat)+(qabs u)):=LQ.add (LQ.lit kD) hq9
 refine eC 4 20 hs (fun _ _ hs=>fAdd ((1:Int):Rat) (qabs u) (LQ.mono (LQ.lit kD) oM) (LQ.mono hq9 oM) _ _ hs.g (hs.f.1)) ?_
 rintro _ _ _ w13 h14 hs rfl
 have hq15:LQ (45000000+(1+45000000+1)) (u/(((1:Int):Rat)+(qabs u))):=LQ.div hu hq12
 refine eC 5 21 hs (fun _ _ hs=>fDivN u (((1:Int):Rat)+(qabs u)) (LQ.mono hu oM) (LQ.mono hq12 oM) (one_abs_ne u) _ _ hs.g (hs.f.1)) ?_
 rintro _ _ _ w16 h17 hs rfl
 refine eV 6 15 (.tuple #[qv (u/(((1:Int):Rat)+(qabs u))),.bool true]) ?_
 refine eV 7 22 (qv (u/(((1:Int):Rat)+(qabs u)))) ?_
 refine eV 8 23 (.bool true) ?_
 refine eD1p [] hsr hs 74 [.bool false,.int .u64 0,.string ⟨#[]⟩,.int .u64 0,.string ⟨#[]⟩] (fun w18 h19 b20 hs=>?_)
 refine tP 10 0 0 (qc (u/(((1:Int):Rat)+(qabs u)))) hs (fun w21 hs=>?_)
 refine tV 11 6 (.bool true) ?_
 refine tNS ?_
 refine lL hs [.o 24 (qv (u/(((1:Int):Rat)+(qabs u)))) 0 0 5] (lP 1 0 (qc (u/(((1:Int):Rat)+(qabs u)))) hs (fun w22 hs=>?_))
 exact lN (CG.ret (hs.ret [(1,0,5)] (qv (u/(((1:Int):Rat)+(qabs u)))) rfl))
theorem nAct (k:Int)(hk:k=1∨k=2∨k=3)(u:Rat)(hu:LQ 45000000 u)(w:World)(h:Hp)(g:G w h)(tb:Tab h):Calls Tryz.prog 177 #[.int .i64 k,qv u] w (Ret w h fun v _=>v=qv (act k u)):=by
  rcases hk with rfl|rfl|rfl
  · exact nAct1 u w h g
  · exact nAct2 u hu w h g
  · exact nAct3 u hu w h g tb
theorem nSuitsT (A:Option Addr)(cap:Nat)(ts:List LV)(ls:List Lay)(d:Nat→Nat)(hO:Net3 ls d)(X:Option Addr)(c0:Nat)(xs:List Rat)(hx:xs.length=d 0)(w:World)(h:Hp)(g:G w h)(hA:SlO 3 lvc lvd h A ts)(hN:NetL h ts ls)(hX:SlO 5 qc 0 h X xs) :
    Calls Tryz.prog 102 #[.agg #[.slice A ts.length cap],.slice X xs.length c0] w (Ret w h fun v _=>v=.bool true):=by
 have hs:=SS.start g
 replace hs:=(((hs.a_SlO hA).add (K:=fun h_=>NetL h_ ts ls) hN).a_SlO hX)
 have hl:=(hs.f.2.1).len
 obtain ⟨o1,o2⟩:=hO.len
 have o3:=hO.first
 refine go Tryz.func102 [(0,.agg #[.slice A ts.length cap]),(1,.slice X xs.length c0)] rfl ?_
 refine cSL (lA 2 57 ([.slice A ts.length cap]) hs (fun b1 w2 h3 hs=>?_))
 refine lL hs [.v 4 (.bool false)] (lNS (lL hs [.m 5 1,.v 6 (.int .i64 (xs.length:Nat)),.v 7 (.pointer (some ⟨b1,0,none⟩)),.o 8 (.slice A ts.length cap) 0 0 1] (lX 9 A ts.length cap 3 0 0 ((hs.f.2.2.1).ok oM) ?_)))
 refine lL hs [.v 10 (.pointer (some ⟨(aB A),aO A+0*3+1,none⟩))] ?_
 obtain ⟨ekx,⟨AWx,cWx,usx,eWx,hcWx,hAWx,hUx⟩,⟨ABx,cBx,eBx,hcBx,hABx⟩⟩:=(hs.f.2.1).at_ 0 oM
 obtain ⟨mtx,lbx,r12x,kdx⟩:=hO.lay 0 oM
 have lux:=hUx.len;have mrx:=mtx.rows;have mpx:=mtx.rpos;have mcx:=mtx.cpos;have m0x:=mtx.row 0 oM
 replace hs:=(((hs.a_SlO hAWx).add (K:=fun h_=>QVs h_ usx (ls.getD 0 lay0).W) hUx).a_SlO hABx)
 refine lHe 11 ((ts.getD 0 lvd).2.1) hs (((hs.f.2.2.2.2.2.1).el 0 oM).part 1 1) eWx ?_
 refine lX 12 AWx usx.length cWx 1 0 0 ((hs.f.2.2.1).ok oM) ?_
 obtain ⟨Arp,crp,erp,hcrp,hRrp⟩:=(hs.f.2.1).at_ 0 oM
 replace hs:=(hs.a_SlO hRrp)
 refine lHe 13 (usx.getD 0 undef) hs ((hs.f.2.2.2.1).el 0 oM) erp ?_
 refine lL hs [.v 14 (.int .i64 ((((ls.getD 0 lay0).W).getD 0 []).length:Nat))] ?_
 have hb4:(((xs.length:Nat):Int) == (((((ls.getD 0 lay0).W).getD 0 []).length:Nat):Int))=true:=beqT oM
 have phb4:=eq_of_beq hb4
 refine lB 15 hb4 ?_
 exact lL hs [.m 4 15] (lN (CG.ret (hs.ret [] (.bool true) rfl)))
theorem nSuitsF (A:Option Addr)(cap:Nat)(ts:List LV)(ls:List Lay)(d:Nat→Nat)(hO:Net3 ls d)(X:Option Addr)(c0:Nat)(xs:List Rat)(hx:xs.length≠d 0)(w:World)(h:Hp)(g:G w h)(hA:SlO 3 lvc lvd h A ts)(hN:NetL h ts ls)(hX:SlO 5 qc 0 h X xs) :
    Calls Tryz.prog 102 #[.agg #[.slice A ts.length cap],.slice X xs.length c0] w (Ret w h fun v _=>v=.bool false):=by
 have hs:=SS.start g
 replace hs:=(((hs.a_SlO hA).add (K:=fun h_=>NetL h_ ts ls) hN).a_SlO hX)
 have hl:=(hs.f.2.1).len
 obtain ⟨o1,o2⟩:=hO.len
 have o3:=hO.first
 refine go Tryz.func102 [(0,.agg #[.slice A ts.length cap]),(1,.slice X xs.length c0)] rfl ?_
 refine cSL (lA 2 57 ([.slice A ts.length cap]) hs (fun b1 w2 h3 hs=>?_))
 refine lL hs [.v 4 (.bool false)] (lNS (lL hs [.m 5 1,.v 6 (.int .i64 (xs.length:Nat)),.v 7 (.pointer (some ⟨b1,0,none⟩)),.o 8 (.slice A ts.length cap) 0 0 1] (lX 9 A ts.length cap 3 0 0 ((hs.f.2.2.1).ok oM) ?_)))
 refine lL hs [.v 10 (.pointer (some ⟨(aB A),aO A+0*3+1,none⟩))] ?_
 obtain ⟨ekx,⟨AWx,cWx,usx,eWx,hcWx,hAWx,hUx⟩,⟨ABx,cBx,eBx,hcBx,hABx⟩⟩:=(hs.f.2.1).at_ 0 oM
 obtain ⟨mtx,lbx,r12x,kdx⟩:=hO.lay 0 oM
 have lux:=hUx.len;have mrx:=mtx.rows;have mpx:=mtx.rpos;have mcx:=mtx.cpos;have m0x:=mtx.row 0 oM
 replace hs:=(((hs.a_SlO hAWx).add (K:=fun h_=>QVs h_ usx (ls.getD 0 lay0).W) hUx).a_SlO hABx)
 refine lHe 11 ((ts.getD 0 lvd).2.1) hs (((hs.f.2.2.2.2.2.1).el 0 oM).part 1 1) eWx ?_
 refine lX 12 AWx usx.length cWx 1 0 0 ((hs.f.2.2.1).ok oM) ?_
 obtain ⟨Arp,crp,erp,hcrp,hRrp⟩:=(hs.f.2.1).at_ 0 oM
 replace hs:=(hs.a_SlO hRrp)
 refine lHe 13 (usx.getD 0 undef) hs ((hs.f.2.2.2.1).el 0 oM) erp ?_
 refine lL hs [.v 14 (.int .i64 ((((ls.getD 0 lay0).W).getD 0 []).length:Nat))] ?_
 have hb4:(((xs.length:Nat):Int) == (((((ls.getD 0 lay0).W).getD 0 []).length:Nat):Int))=false:=beqF oM
 have phb4:=neOfBeq hb4
 refine lB 15 hb4 ?_
 exact lL hs [.m 4 15] (lN (CG.ret (hs.ret [] (.bool false) rfl)))
theorem nForward (A:Option Addr)(cap:Nat)(ts:List LV)(ls:List Lay)(d:Nat→Nat)(hO:Net3 ls d)(X:Option Addr)(c0:Nat)(xs:List Rat)(hx:xs.length=d 0)(hc0:xs.length≤c0)(hB:NetB ls xs)(w:World)(h:Hp)(g:G w h)(hA:SlO 3 lvc lvd h A ts)(hN:NetL h ts ls)(hX:SlO 5 qc 0 h X xs)(tb:Tab h) :
    Calls Tryz.prog 103 #[.agg #[.slice A ts.length cap],.slice X xs.length c0] w (Ret w h fun v h1=>∃ A1 c1 u1 A2 c2 u2 Ax cx,v=.agg #[.slice A1 (u1:List Value).length c1,.slice A2 (u2:List Value).length c2,.slice Ax (outq ls xs ls.length).length cx]∧u1.length≤c1∧u2.length≤c2∧(outq ls xs ls.length).length≤cx∧SlO 1 vc undef h1 A1 u1∧SlO 1 vc undef h1 A2 u2∧QVs h1 u1 (insq ls xs ls.length)∧QVs h1 u2 (sumsq ls xs ls.length)∧SlO 5 qc 0 h1 Ax (outq ls xs ls.length)):=by
 have hs:=SS.start g
 replace hs:=((((hs.a_SlO hA).add (K:=fun h_=>NetL h_ ts ls) hN).a_SlO hX).add (K:=fun h_=>Tab h_) tb)
 have hl:=(hs.f.2.2.1).len
 obtain ⟨o1,o2⟩:=hO.len
 have o3:=hO.first
 refine go Tryz.func103 [(0,.agg #[.slice A ts.length cap]),(1,.slice X xs.length c0)] rfl ?_
 refine cSL (lA 2 57 ([.slice A ts.length cap]) hs (fun b1 w2 h3 hs=>?_))
 refine lA 4 175 ([.slice none 0 0,.slice none 0 0,.slice none 0 0]) hs (fun b4 w5 h6 hs=>?_)
 refine lNS (lL hs [.m 14 1,.v 15 (.agg #[.slice none 0 0,.slice none 0 0,.slice X xs.length c0])] (lA 5 175 ([.slice none 0 0,.slice none 0 0,.slice none 0 0]) hs (fun b7 w8 h9 hs=>?_)))
 refine lP 0 0 ([.slice none 0 0,.slice none 0 0,.slice X xs.length c0]) hs (fun w10 hs=>?_)
 refine lN (CG.seq (cSL (lL hs [.v 16 (.pointer (some ⟨b1,0,none⟩)),.o 17 (.slice A ts.length cap) 2 0 1,.v 18 (.int .i64 (ts.length:Nat)),.v 19 (.int .i64 0)] (lN (CG.block ?_)))))
 replace hs:=hs.nil 35 1
 replace hs:=hs.nil 35 1
 refine cTo [(4,.pointer (some ⟨b4,0,none⟩)),(5,.pointer (some ⟨b7,0,none⟩)),(17,.slice A ts.length cap),(18,.int .i64 (ts.length:Nat)),(19,.int .i64 0)] ?_
 replace hs:=hs.add (K:=fun h_=>SlO 5 qc 0 h_ X (outq ls xs 0)) ((hs.f.2.1))
 replace hs:=hs.add (K:=fun h_=>QVs h_ ([]) (sumsq ls xs 0)) (QVs.nil)
 replace hs:=hs.add (K:=fun h_=>QVs h_ ([]) (insq ls xs 0)) (QVs.nil)
 refine CG.loop (fun μ_ Γ w_=>∃ (k:Nat) (s1A:Option Addr) (s1c:Nat) (s2A:Option Addr) (s2c:Nat) (l1:List Value) (l2:List Value) (Ax:Option Addr) (cx:Nat) (h_:Hp),μ_=ls.length-k∧Γ=[(4,.pointer (some ⟨b4,0,none⟩)),(5,.pointer (some ⟨b7,0,none⟩)),(17,.slice A ts.length cap),(18,.int .i64 (ts.length:Nat)),(19,.int .i64 (k:Nat))]∧SS w h w_ h_ [⟨b7,175,[.slice s1A ((l1).length) s1c,.slice s2A ((l2).length) s2c,.slice Ax ((outq ls xs k).length) cx]⟩,⟨b4,175,[.slice none 0 0,.slice none 0 0,.slice none 0 0]⟩,⟨b1,57,[.slice A ts.length cap]⟩] [⟨35,1,s1A,s1c,(l1).length,(l1).flatMap vc⟩,⟨35,1,s2A,s2c,(l2).length,(l2).flatMap vc⟩] [fun h_=>QVs h_ l1 (insq ls xs k),fun h_=>QVs h_ l2 (sumsq ls xs k),fun h_=>SlO 5 qc 0 h_ Ax (outq ls xs k),fun h_=>Tab h_,fun h_=>SlO 5 qc 0 h_ X xs,fun h_=>NetL h_ ts ls,fun h_=>SlO 3 lvc lvd h_ A ts]∧(k≤ls.length)∧(l1.length=k)∧(l2.length=k)∧((outq ls xs k).length≤cx)) _ ⟨0,none,0,none,0,[],[],X,c0,h9,rfl,rfl,hs.to _ _,Nat.zero_le _,rfl,rfl,hc0⟩ ?_
 rintro _ _ w11 ⟨k,s1A,s1c,s2A,s2c,l1,l2,Ax,cx,h12,hm13,rfl,hs,hk,hl1,hl2,hcx⟩
 have hlx:=outq_len hO hx k oM
 have hsm:=fun h0=>hO.small k h0
 refine cSL ?_
 cases hb14:(decide (((k:Nat):Int)<((ts.length:Nat):Int)))
 ·
  have phb14:=oF hb14
  refine lB 20 hb14 ?_
  refine lN (CG.seq (cIF (CG.exit ?_)))
  show CG _ _ _ _ _ _ _ _
  refine cSL ?_
  obtain ⟨h15,hs,hc16⟩:=hs.pubr 0 (A:=s1A) (c:=s1c) (l:=l1) (f:=vc) (ty:=35) (sz:=1) undef (fun _=>rfl)
  obtain ⟨h18,hs,hc19⟩:=hs.pubr 0 (A:=s2A) (c:=s2c) (l:=l2) (f:=vc) (ty:=35) (sz:=1) undef (fun _=>rfl)
  refine lL hs [.o 83 (.agg #[.slice s1A ((l1).length) s1c,.slice s2A ((l2).length) s2c,.slice Ax ((outq ls xs k).length) cx]) 0 0 3] (lP 1 0 ([.slice s1A ((l1).length) s1c,.slice s2A ((l2).length) s2c,.slice Ax ((outq ls xs k).length) cx]) hs (fun w21 hs=>?_))
  refine lN (CG.ret ?_)
  have hkn:k=ls.length:=by omega
  exact hs.ret [(1,0,3)] (.agg #[.slice s1A ((l1).length) s1c,.slice s2A ((l2).length) s2c,.slice Ax ((outq ls xs k).length) cx]) (by rw[←hkn];exact ⟨_,_,l1,_,_,l2,_,_,rfl,hc16,hc19,hcx,(hs.f.2.1),(hs.f.1),(hs.f.2.2.1),(hs.f.2.2.2.1),(hs.f.2.2.2.2.1)⟩)
 have phb14:=oT hb14
 refine lB 20 hb14 ?_
 refine lN (CG.seq (cIT (CG.skipN (CG.seq (CG.block (cSL (lX 21 A ts.length cap 3 (k:Nat) k ((hs.f.2.2.2.2.2.2.1).ok oM) ?_)))))))
 obtain ⟨ekx,⟨AWx,cWx,usx,eWx,hcWx,hAWx,hUx⟩,⟨ABx,cBx,eBx,hcBx,hABx⟩⟩:=(hs.f.2.2.2.2.2.1).at_ k oM
 obtain ⟨mtx,lbx,r12x,kdx⟩:=hO.lay k oM
 have lux:=hUx.len;have mrx:=mtx.rows;have mpx:=mtx.rpos;have mcx:=mtx.cpos;have m0x:=mtx.row 0 oM
 replace hs:=(((hs.a_SlO hAWx).add (K:=fun h_=>QVs h_ usx (ls.getD k lay0).W) hUx).a_SlO hABx)
 refine lHe 22 (.agg #[.int .i64 ((ts.getD k lvd).1),(ts.getD k lvd).2.1,(ts.getD k lvd).2.2]) hs ((hs.f.2.2.2.2.2.2.2.2.2.1).el k oM) (by rw[ekx,eWx,eBx]) ?_
 refine lA 7 114 ([.int .i64 0,.slice none 0 0,.slice none 0 0]) hs (fun b22 w23 h24 hs=>?_)
 refine lP 0 0 ([.int .i64 ((ls.getD k lay0).k),.slice AWx usx.length cWx,.slice ABx ((ls.getD k lay0).B.length) cBx]) hs (fun w25 hs=>?_)
 refine lNS (lL hs [.v 23 (.pointer (some ⟨b22,1,none⟩)),.o 24 (.slice AWx usx.length cWx) 0 1 1,.v 25 (.int .i64 (usx.length:Nat))] (lK 26 74 usx.length 5 56 (.agg #[.bool false,.int .u64 0,.string ⟨#[]⟩,.int .u64 0,.string ⟨#[]⟩]) qc 0 hs (fun b26 w27 h28 hs=>?_)))
 have hl29:(List.replicate usx.length 0).length=usx.length:=by simp
 refine lL hs [.m 8 26] (lNS (lL hs [.v 27 (.pointer (some ⟨b22,1,none⟩)),.o 28 (.slice AWx usx.length cWx) 1 1 1,.v 29 (.int .i64 (usx.length:Nat))] (lK 30 74 usx.length 5 56 (.agg #[.bool false,.int .u64 0,.string ⟨#[]⟩,.int .u64 0,.string ⟨#[]⟩]) qc 0 hs (fun b30 w31 h32 hs=>?_))))
 have hl33:(List.replicate usx.length 0).length=usx.length:=by simp
 refine lL hs [.m 9 30] (lN (CG.seq (cSL (lL hs [.v 31 (.pointer (some ⟨b22,1,none⟩)),.o 32 (.slice AWx usx.length cWx) 2 1 1,.v 33 (.int .i64 (usx.length:Nat)),.v 34 (.int .i64 0)] (lN (CG.block (cTo [(4,.pointer (some ⟨b4,0,none⟩)),(5,.pointer (some ⟨b7,0,none⟩)),(17,.slice A ts.length cap),(18,.int .i64 (ts.length:Nat)),(19,.int .i64 (k:Nat)),(7,.pointer (some ⟨b22,0,none⟩)),(8,.slice (some ⟨b26,0,none⟩) usx.length usx.length),(9,.slice (some ⟨b30,0,none⟩) usx.length usx.length),(32,.slice AWx usx.length cWx),(33,.int .i64 (usx.length:Nat)),(34,.int .i64 0)] ?_)))))))
 refine CG.loop (fun μ_ Γ w_=>∃ (i:Nat) (ql:List Rat) (pl:List Rat) (h_:Hp),μ_=usx.length-i∧Γ=[(4,.pointer (some ⟨b4,0,none⟩)),(5,.pointer (some ⟨b7,0,none⟩)),(17,.slice A ts.length cap),(18,.int .i64 (ts.length:Nat)),(19,.int .i64 (k:Nat)),(7,.pointer (some ⟨b22,0,none⟩)),(8,.slice (some ⟨b26,0,none⟩) usx.length usx.length),(9,.slice (some ⟨b30,0,none⟩) usx.length usx.length),(32,.slice AWx usx.length cWx),(33,.int .i64 (usx.length:Nat)),(34,.int .i64 (i:Nat))]∧SS w h w_ h_ [⟨b30,74,(pl).flatMap qc⟩,⟨b26,74,(ql).flatMap qc⟩,⟨b22,114,[.int .i64 ((ls.getD k lay0).k),.slice AWx usx.length cWx,.slice ABx ((ls.getD k lay0).B.length) cBx]⟩,⟨b7,175,[.slice s1A ((l1).length) s1c,.slice s2A ((l2).length) s2c,.slice Ax ((outq ls xs k).length) cx]⟩,⟨b4,175,[.slice none 0 0,.slice none 0 0,.slice none 0 0]⟩,⟨b1,57,[.slice A ts.length cap]⟩] [⟨35,1,s1A,s1c,(l1).length,(l1).flatMap vc⟩,⟨35,1,s2A,s2c,(l2).length,(l2).flatMap vc⟩] [fun h_=>SlO 5 qc 0 h_ ABx (ls.getD k lay0).B,fun h_=>QVs h_ usx (ls.getD k lay0).W,fun h_=>SlO 1 vc undef h_ AWx usx,fun h_=>QVs h_ l1 (insq ls xs k),fun h_=>QVs h_ l2 (sumsq ls xs k),fun h_=>SlO 5 qc 0 h_ Ax (outq ls xs k),fun h_=>Tab h_,fun h_=>SlO 5 qc 0 h_ X xs,fun h_=>NetL h_ ts ls,fun h_=>SlO 3 lvc lvd h_ A ts]∧(i≤usx.length)∧(ql.length=usx.length)∧(pl.length=usx.length)∧(∀ j,j<i→ql.getD j 0=dotq ((ls.getD k lay0).W.getD j []) (outq ls xs k) (outq ls xs k).length+(ls.getD k lay0).B.getD j 0)∧(∀ j,j<i→pl.getD j 0=act (ls.getD k lay0).k (dotq ((ls.getD k lay0).W.getD j []) (outq ls xs k) (outq ls xs k).length+(ls.getD k lay0).B.getD j 0))) _ ⟨0,List.replicate usx.length 0,List.replicate usx.length 0,h32,rfl,rfl,hs.to _ _,Nat.zero_le _,by simp,by simp,fun j hj=>absurd hj (Nat.not_lt_zero j),fun j hj=>absurd hj (Nat.not_lt_zero j)⟩ ?_
 rintro _ _ w34 ⟨i,ql,pl,h35,hm36,rfl,hs,hi,hlq,hlp,hq,hp⟩
 refine cSL ?_
 cases hb37:(decide (((i:Nat):Int)<((usx.length:Nat):Int)))
 ·
  have phb37:=oF hb37
  refine lB 35 hb37 ?_
  refine lN (CG.seq (cIF (CG.exit ?_)))
  show CG _ _ _ _ _ _ _ _
  refine cSL (lL hs [.v 67 (.pointer (some ⟨b7,0,none⟩)),.o 68 (.slice s1A ((l1).length) s1c) 3 0 1,.v 69 (.pointer (some ⟨b7,2,none⟩)),.o 70 (.slice Ax ((outq ls xs k).length) cx) 3 2 1] (lR 71 35 1 ([.slice Ax ((outq ls xs k).length) cx]) hs (fun b38 w39 h40 hs=>?_)))
  refine lY 72 0 35 1 s1c s1A l1 vc (.slice Ax ((outq ls xs k).length) cx:Value) 24 b38 (.slice none 0 0) hs (hs.f.1) (fun A42 c43 w44 h45 hs=>?_)
  refine lL hs [.v 73 (.pointer (some ⟨b7,0,none⟩))] (lP 3 0 ([.slice A42 ((l1++[(.slice Ax ((outq ls xs k).length) cx:Value)]).length) c43]) hs (fun w47 hs=>?_))
  refine lNS ?_
  have hql:ql=sumq (ls.getD k lay0) (outq ls xs k):=map_of hq (show i=(ls.getD k lay0).W.length by omega) (show ql.length=(ls.getD k lay0).W.length by omega)
  have hlsq:(sumq (ls.getD k lay0) (outq ls xs k)).length=usx.length:=by rw[←hql];exact hlq
  rw[hql] at hs
  obtain ⟨h48,hs,sg49,lo50,bc51⟩:=hs.pub 1
  replace hs:=(hs.to [⟨b30,74,(pl).flatMap qc⟩,⟨b22,114,[.int .i64 ((ls.getD k lay0).k),.slice AWx usx.length cWx,.slice ABx ((ls.getD k lay0).B.length) cBx]⟩,⟨b7,175,[.slice A42 ((l1++[(.slice Ax ((outq ls xs k).length) cx:Value)]).length) c43,.slice s2A ((l2).length) s2c,.slice Ax ((outq ls xs k).length) cx]⟩,⟨b4,175,[.slice none 0 0,.slice none 0 0,.slice none 0 0]⟩,⟨b1,57,[.slice A ts.length cap]⟩] [⟨35,1,A42,c43,(l1++[(.slice Ax ((outq ls xs k).length) cx:Value)]).length,(l1++[(.slice Ax ((outq ls xs k).length) cx:Value)]).flatMap vc⟩,⟨35,1,s2A,s2c,(l2).length,(l2).flatMap vc⟩]).a_SlO (SlO.of_flat (sz:=5) (f:=qc) (d:=0) (b:=b26) (o:=0) (l:=sumq (ls.getD k lay0) (outq ls xs k)) (fun _=>rfl) sg49)
  refine lL hs [.v 74 (.pointer (some ⟨b7,1,none⟩)),.o 75 (.slice s2A ((l2).length) s2c) 2 1 1,.m 76 8] (lR 77 35 1 ([.slice (some ⟨b26,0,none⟩) usx.length usx.length]) hs (fun b53 w54 h55 hs=>?_))
  refine lY 78 1 35 1 s2c s2A l2 vc (.slice (some ⟨b26,0,none⟩) usx.length usx.length:Value) 24 b53 (.slice none 0 0) hs (hs.f.1) (fun A57 c58 w59 h60 hs=>?_)
  refine lL hs [.v 79 (.pointer (some ⟨b7,1,none⟩))] (lP 2 1 ([.slice A57 ((l2++[(.slice (some ⟨b26,0,none⟩) usx.length usx.length:Value)]).length) c58]) hs (fun w62 hs=>?_))
  refine lN (CG.listed ?_)
  have hpl:pl=outq ls xs (k+1):=map_of hp (show i=(ls.getD k lay0).W.length by omega) (show pl.length=(ls.getD k lay0).W.length by omega)
  have hll:usx.length=(outq ls xs (k+1)).length:=by rw[←hpl];omega
  rw[hpl] at hs
  obtain ⟨h63,hs,sg64,lo65,bc66⟩:=hs.pub 0
  replace hs:=(hs.to [⟨b22,114,[.int .i64 ((ls.getD k lay0).k),.slice AWx usx.length cWx,.slice ABx ((ls.getD k lay0).B.length) cBx]⟩,⟨b7,175,[.slice A42 ((l1++[(.slice Ax ((outq ls xs k).length) cx:Value)]).length) c43,.slice A57 ((l2++[(.slice (some ⟨b26,0,none⟩) usx.length usx.length:Value)]).length) c58,.slice Ax ((outq ls xs k).length) cx]⟩,⟨b4,175,[.slice none 0 0,.slice none 0 0,.slice none 0 0]⟩,⟨b1,57,[.slice A ts.length cap]⟩] [⟨35,1,A42,c43,(l1++[(.slice Ax ((outq ls xs k).length) cx:Value)]).length,(l1++[(.slice Ax ((outq ls xs k).length) cx:Value)]).flatMap vc⟩,⟨35,1,A57,c58,(l2++[(.slice (some ⟨b26,0,none⟩) usx.length usx.length:Value)]).length,(l2++[(.slice (some ⟨b26,0,none⟩) usx.length usx.length:Value)]).flatMap vc⟩]).a_SlO (SlO.of_flat (sz:=5) (f:=qc) (d:=0) (b:=b30) (o:=0) (l:=outq ls xs (k+1)) (fun _=>rfl) sg64)
  refine lV 80 (.slice (some ⟨b30,0,none⟩) ((outq ls xs (k+1)).length) usx.length) ?_ (hr:=rval kR (by rw[←hll]))
  refine lL hs [.v 81 (.pointer (some ⟨b7,2,none⟩))] (lP 1 2 ([.slice (some ⟨b30,0,none⟩) ((outq ls xs (k+1)).length) usx.length]) hs (fun w68 hs=>?_))
  refine lN (CG.listed (lIn 82 ((k:Nat)+1) (k+1) ?_))
  refine lL hs [.m 19 82] (lD ?_)
  intro a_ ka
  have q69:QVs h63 (l1++[(.slice Ax ((outq ls xs k).length) cx:Value)]) (insq ls xs (k+1)):=(by rw[insq_succ];exact (hs.f.2.2.2.2.2.2.2.1).snoc ⟨_,_,rfl,hcx,(hs.f.2.2.2.2.2.2.2.2.2.1)⟩)
  have q70:QVs h63 (l2++[(.slice (some ⟨b26,0,none⟩) usx.length usx.length:Value)]) (sumsq ls xs (k+1)):=(by rw[sumsq_succ];exact (hs.f.2.2.2.2.2.2.2.2.1).snoc ⟨_,usx.length,by rw[hlsq],Nat.le_of_eq hlsq,(hs.f.2.2.1)⟩)
  have q71:SlO 5 qc 0 h63 (some ⟨b30,0,none⟩) (outq ls xs (k+1)):=(hs.f.1)
  have q72:(k+1)≤ls.length:=by omega
  have q73:(l1++[(.slice Ax ((outq ls xs k).length) cx:Value)]).length=(k+1):=by simp;omega
  have q74:(l2++[(.slice (some ⟨b26,0,none⟩) usx.length usx.length:Value)]).length=(k+1):=by simp;omega
  have q75:(outq ls xs (k+1)).length≤usx.length:=by omega
  replace hs:=(((hs.tl.tl.tl.tl.tl.tl.tl.tl.tl.tl.add (K:=fun h_=>SlO 5 qc 0 h_ (some ⟨b30,0,none⟩) (outq ls xs (k+1))) q71).add (K:=fun h_=>QVs h_ (l2++[(.slice (some ⟨b26,0,none⟩) usx.length usx.length:Value)]) (sumsq ls xs (k+1))) q70).add (K:=fun h_=>QVs h_ (l1++[(.slice Ax ((outq ls xs k).length) cx:Value)]) (insq ls xs (k+1))) q69)
  replace hs:=hs.drop 1 0
  refine ⟨_,_,?_,⟨k+1,A42,c43,A57,c58,l1++[(.slice Ax ((outq ls xs k).length) cx:Value)],l2++[(.slice (some ⟨b26,0,none⟩) usx.length usx.length:Value)],some ⟨b30,0,none⟩,usx.length,h63,rfl,rfl,hs.to _ _,q72,q73,q74,q75⟩,ka.to [(4,.pointer (some ⟨b4,0,none⟩)),(5,.pointer (some ⟨b7,0,none⟩)),(17,.slice A ts.length cap),(18,.int .i64 (ts.length:Nat)),(19,.int .i64 ((k+1):Nat))] kR⟩
  omega
 have phb37:=oT hb37
 refine lB 35 hb37 ?_
 refine lN (CG.seq (cIT (CG.skipN (CG.seq (CG.block (cSL (lL hs [.m 36 34] (lX 37 AWx usx.length cWx 1 (i:Nat) i ((hs.f.2.2.1).ok oM) ?_))))))))
 obtain ⟨Arp,crp,erp,hcrp,hRrp⟩:=(hs.f.2.1).at_ i oM
 replace hs:=(hs.a_SlO hRrp)
 refine lHe 38 (usx.getD i undef) hs ((hs.f.2.2.2.1).el i oM) erp ?_
 refine lL hs [.m 10 36,.m 11 38] (lNS (lL hs [.m 40 11,.v 41 (.pointer (some ⟨b7,2,none⟩)),.o 42 (.slice Ax ((outq ls xs k).length) cx) 3 2 1] (lC 43 hs (fDotN Arp crp ((ls.getD k lay0).W.getD i []) Ax cx (outq ls xs k) (outq ls xs k).length _ _ rfl rfl (by rw[mtx.row i oM,hlx]) rfl 1000000 1000000 oM (dot_b1 (show (outq ls xs k).length≤20 by omega)) (hB.w k i) (hB.x k oM) _ _ hs.g (hs.f.1) (hs.f.2.2.2.2.2.2.1) (hs.f.2.2.2.2.2.2.2.1)) ?_)))
 rintro _ w76 h77 hs rfl
 have hdt:LQ 41000000 (dotq ((ls.getD k lay0).W.getD i []) (outq ls xs k) (outq ls xs k).length):=(LQ.dot (n:=(outq ls xs k).length) (fun j _=>hB.w k i j) (fun j _=>hB.x k oM j) _ (Nat.le_refl _)).mono (dot_b2 (show (outq ls xs k).length≤20 by omega))
 refine lL hs [.m 39 43,.v 44 (qv (dotq ((ls.getD k lay0).W.getD i []) (outq ls xs k) (outq ls xs k).length)),.v 45 (.bool true)] (lA 12 74 ([.bool false,.int .u64 0,.string ⟨#[]⟩,.int .u64 0,.string ⟨#[]⟩]) hs (fun b78 w79 h80 hs=>?_))
 refine lP 0 0 (qc (dotq ((ls.getD k lay0).W.getD i []) (outq ls xs k) (outq ls xs k).length)) hs (fun w81 hs=>?_)
 refine lL hs [.m 13 45] (lN (CG.seq (cR 9 [] mixed hs al_nil ?_)))
 refine eV 0 46 (.slice (some ⟨b26,0,none⟩) usx.length usx.length) ?_
 refine eV 1 47 (.int .i64 (i:Nat)) ?_
 refine eO 2 48 [(0,0,5)] (qv (dotq ((ls.getD k lay0).W.getD i []) (outq ls xs k) (outq ls xs k).length)) hs ?_
 refine eV 3 49 (.pointer (some ⟨b22,2,none⟩)) ?_
 refine eO 4 50 [(3,2,1)] (.slice ABx ((ls.getD k lay0).B.length) cBx) hs ?_
 refine eV 5 51 (.int .i64 (i:Nat)) ?_
 refine eX 6 52 ABx ((ls.getD k lay0).B.length) cBx 5 (i:Nat) i ((hs.f.2.1).ok oM) ?_
 refine eH 7 53 (qv (((ls.getD k lay0).B).getD i 0)) hs ((hs.f.2.1).el i oM) ?_
 have hq82:LQ (41000000+1000000+1) ((dotq ((ls.getD k lay0).W.getD i []) (outq ls xs k) (outq ls xs k).length)+(((ls.getD k lay0).B).getD i 0)):=LQ.add hdt (hB.b k i)
 refine eC 8 54 hs (fun _ _ hs=>fAdd (dotq ((ls.getD k lay0).W.getD i []) (outq ls xs k) (outq ls xs k).length) (((ls.getD k lay0).B).getD i 0) (LQ.mono hdt oM) (LQ.mono (hB.b k i) oM) _ _ hs.g (hs.f.2.2.2.2.2.2.2.1)) ?_
 rintro _ _ _ w83 h84 hs rfl
 refine eD0 hs (fun w85 h86 hs=>?_)
 refine tX 9 55 (some ⟨b26,0,none⟩) usx.length usx.length 5 (i:Nat) i rfl ?_
 refine tW 10 2 ql qc 5 i ((dotq ((ls.getD k lay0).W.getD i []) (outq ls xs k) (outq ls xs k).length)+(((ls.getD k lay0).B).getD i 0)) hs oM (fun w87 hs=>?_)
 have hl88:((ql).set i ((dotq ((ls.getD k lay0).W.getD i []) (outq ls xs k) (outq ls xs k).length)+(((ls.getD k lay0).B).getD i 0))).length=usx.length:=by rw[List.length_set];exact hlq
 replace hs:=hs.to [⟨b78,74,qc (dotq ((ls.getD k lay0).W.getD i []) (outq ls xs k) (outq ls xs k).length)⟩,⟨b30,74,(pl).flatMap qc⟩,⟨b26,74,((ql).set i ((dotq ((ls.getD k lay0).W.getD i []) (outq ls xs k) (outq ls xs k).length)+(((ls.getD k lay0).B).getD i 0))).flatMap qc⟩,⟨b22,114,[.int .i64 ((ls.getD k lay0).k),.slice AWx usx.length cWx,.slice ABx ((ls.getD k lay0).B.length) cBx]⟩,⟨b7,175,[.slice s1A ((l1).length) s1c,.slice s2A ((l2).length) s2c,.slice Ax ((outq ls xs k).length) cx]⟩,⟨b4,175,[.slice none 0 0,.slice none 0 0,.slice none 0 0]⟩,⟨b1,57,[.slice A ts.length cap]⟩] [⟨35,1,s1A,s1c,(l1).length,(l1).flatMap vc⟩,⟨35,1,s2A,s2c,(l2).length,(l2).flatMap vc⟩]
 refine tN (cR 9 [] mixed hs al_nil ?_)
 refine eV 0 56 (.slice (some ⟨b30,0,none⟩) usx.length usx.length) ?_
 refine eV 1 57 (.int .i64 (i:Nat)) ?_
 refine eV 2 58 (.pointer (some ⟨b22,0,none⟩)) ?_
 refine eO 3 59 [(3,0,1)] (.int .i64 ((ls.getD k lay0).k)) hs ?_
 refine eV 4 60 (.slice (some ⟨b26,0,none⟩) usx.length usx.length) ?_
 refine eV 5 61 (.int .i64 (i:Nat)) ?_
 refine eX 6 62 (some ⟨b26,0,none⟩) usx.length usx.length 5 (i:Nat) i rfl ?_
 refine eQ 7 63 2 ((ql).set i ((dotq ((ls.getD k lay0).W.getD i []) (outq ls xs k) (outq ls xs k).length)+(((ls.getD k lay0).B).getD i 0))) qc 5 0 i (qv (((ql).set i ((dotq ((ls.getD k lay0).W.getD i []) (outq ls xs k) (outq ls xs k).length)+(((ls.getD k lay0).B).getD i 0))).getD i 0)) hs oM ?_
 refine eC 8 64 hs (fun _ _ hs=>nAct _ kdx (((ql).set i ((dotq ((ls.getD k lay0).W.getD i []) (outq ls xs k) (outq ls xs k).length)+(((ls.getD k lay0).B).getD i 0))).getD i 0) (by rw[getD_set_self oM];exact LQ.mono (LQ.add hdt (hB.b k i)) oM) _ _ hs.g (hs.f.2.2.2.2.2.2.2.1)) ?_
 rintro _ _ _ w89 h90 hs rfl
 refine eD0 hs (fun w91 h92 hs=>?_)
 refine tX 9 65 (some ⟨b30,0,none⟩) usx.length usx.length 5 (i:Nat) i rfl ?_
 refine tW 10 1 pl qc 5 i (act (ls.getD k lay0).k (((ql).set i ((dotq ((ls.getD k lay0).W.getD i []) (outq ls xs k) (outq ls xs k).length)+(((ls.getD k lay0).B).getD i 0))).getD i 0)) hs oM (fun w93 hs=>?_)
 have hl94:((pl).set i (act (ls.getD k lay0).k (((ql).set i ((dotq ((ls.getD k lay0).W.getD i []) (outq ls xs k) (outq ls xs k).length)+(((ls.getD k lay0).B).getD i 0))).getD i 0))).length=usx.length:=by rw[List.length_set];exact hlp
 replace hs:=hs.to [⟨b78,74,qc (dotq ((ls.getD k lay0).W.getD i []) (outq ls xs k) (outq ls xs k).length)⟩,⟨b30,74,((pl).set i (act (ls.getD k lay0).k (((ql).set i ((dotq ((ls.getD k lay0).W.getD i []) (outq ls xs k) (outq ls xs k).length)+(((ls.getD k lay0).B).getD i 0))).getD i 0))).flatMap qc⟩,⟨b26,74,((ql).set i ((dotq ((ls.getD k lay0).W.getD i []) (outq ls xs k) (outq ls xs k).length)+(((ls.getD k lay0).B).getD i 0))).flatMap qc⟩,⟨b22,114,[.int .i64 ((ls.getD k lay0).k),.slice AWx usx.length cWx,.slice ABx ((ls.getD k lay0).B.length) cBx]⟩,⟨b7,175,[.slice s1A ((l1).length) s1c,.slice s2A ((l2).length) s2c,.slice Ax ((outq ls xs k).length) cx]⟩,⟨b4,175,[.slice none 0 0,.slice none 0 0,.slice none 0 0]⟩,⟨b1,57,[.slice A ts.length cap]⟩] [⟨35,1,s1A,s1c,(l1).length,(l1).flatMap vc⟩,⟨35,1,s2A,s2c,(l2).length,(l2).flatMap vc⟩]
 refine tN (cTo [(4,.pointer (some ⟨b4,0,none⟩)),(5,.pointer (some ⟨b7,0,none⟩)),(17,.slice A ts.length cap),(18,.int .i64 (ts.length:Nat)),(19,.int .i64 (k:Nat)),(7,.pointer (some ⟨b22,0,none⟩)),(8,.slice (some ⟨b26,0,none⟩) usx.length usx.length),(9,.slice (some ⟨b30,0,none⟩) usx.length usx.length),(32,.slice AWx usx.length cWx),(33,.int .i64 (usx.length:Nat)),(34,.int .i64 (i:Nat))] ?_)
 refine CG.listed (lIn 66 ((i:Nat)+1) (i+1) ?_)
 refine lL hs [.m 34 66] (lD ?_)
 intro a_ ka
 have q95:(i+1)≤usx.length:=by omega
 have q96:((ql).set i ((dotq ((ls.getD k lay0).W.getD i []) (outq ls xs k) (outq ls xs k).length)+(((ls.getD k lay0).B).getD i 0))).length=usx.length:=hl88
 have q97:((pl).set i (act (ls.getD k lay0).k (((ql).set i ((dotq ((ls.getD k lay0).W.getD i []) (outq ls xs k) (outq ls xs k).length)+(((ls.getD k lay0).B).getD i 0))).getD i 0))).length=usx.length:=hl94
 have q98:∀ j,j<(i+1)→((ql).set i ((dotq ((ls.getD k lay0).W.getD i []) (outq ls xs k) (outq ls xs k).length)+(((ls.getD k lay0).B).getD i 0))).getD j 0=dotq ((ls.getD k lay0).W.getD j []) (outq ls xs k) (outq ls xs k).length+(ls.getD k lay0).B.getD j 0:=(fstep hq oM rfl)
 have q99:∀ j,j<(i+1)→((pl).set i (act (ls.getD k lay0).k (((ql).set i ((dotq ((ls.getD k lay0).W.getD i []) (outq ls xs k) (outq ls xs k).length)+(((ls.getD k lay0).B).getD i 0))).getD i 0))).getD j 0=act (ls.getD k lay0).k (dotq ((ls.getD k lay0).W.getD j []) (outq ls xs k) (outq ls xs k).length+(ls.getD k lay0).B.getD j 0):=(fstep hp oM (congrArg _ (getD_set_self oM)))
 replace hs:=hs.tl
 replace hs:=hs.drop 1 0
 refine ⟨_,_,?_,⟨i+1,(ql).set i ((dotq ((ls.getD k lay0).W.getD i []) (outq ls xs k) (outq ls xs k).length)+(((ls.getD k lay0).B).getD i 0)),(pl).set i (act (ls.getD k lay0).k (((ql).set i ((dotq ((ls.getD k lay0).W.getD i []) (outq ls xs k) (outq ls xs k).length)+(((ls.getD k lay0).B).getD i 0))).getD i 0)),h92,rfl,rfl,hs.to _ _,q95,q96,q97,q98,q99⟩,ka.to [(4,.pointer (some ⟨b4,0,none⟩)),(5,.pointer (some ⟨b7,0,none⟩)),(17,.slice A ts.length cap),(18,.int .i64 (ts.length:Nat)),(19,.int .i64 (k:Nat)),(7,.pointer (some ⟨b22,0,none⟩)),(8,.slice (some ⟨b26,0,none⟩) usx.length usx.length),(9,.slice (some ⟨b30,0,none⟩) usx.length usx.length),(32,.slice AWx usx.length cWx),(33,.int .i64 (usx.length:Nat)),(34,.int .i64 ((i+1):Nat))] kR⟩
 omega
def slq (k:Int)(x d:Rat):Rat:=if k=1 then d else if k=2 then (if 0<x then d else 0) else d/((((1:Int):Rat)+qabs x)*(((1:Int):Rat)+qabs x))
theorem num_pos' {x:Rat}:0<x↔0<x.num:=by rw[Rat.lt_iff];simp
theorem RQ.eq {h:Hp}{v:Value}{p q:Rat}(x:RQ h v p)(e:p=q):RQ h v q:=by subst e;exact x
theorem sign_pos' {x:Rat}(h:0<x.num.sign):0<x:=by
  rw[num_pos'];rcases Int.lt_trichotomy x.num 0 with h1|h1|h1
  · rw[Int.sign_eq_neg_one_of_neg h1] at h;omega
  · rw[h1] at h;exact absurd h kD
  · exact h1
theorem sign_npos {x:Rat}(h:¬0<x.num.sign):¬0<x:=fun h1=>h (by rw[Int.sign_eq_one_of_pos (num_pos'.1 h1)];decide)
theorem act1 (x:Rat):act 1 x=x:=by unfold act;rw[if_neg kD,if_neg kD]
theorem act2p {x:Rat}(h:0<x):act 2 x=x:=by unfold act maxR;rw[if_pos rfl,if_neg (fun h2=>by grind)]
theorem act2n {x:Rat}(h:¬0<x):act 2 x=((0:Int):Rat):=by
  unfold act maxR;rw[if_pos rfl];split
  · rfl
  · show x=0;grind
theorem act3 (x:Rat):act 3 x=x/(((1:Int):Rat)+qabs x):=by unfold act;rw[if_neg kD,if_pos rfl]
theorem slq1 (x d:Rat):slq 1 x d=d:=by unfold slq;rw[if_pos rfl]
theorem slq2p {x d:Rat}(h:0<x):slq 2 x d=d:=by unfold slq;rw[if_neg kD,if_pos rfl,if_pos h]
theorem slq2n {x d:Rat}(h:¬0<x):slq 2 x d=((0:Int):Rat):=by unfold slq;rw[if_neg kD,if_pos rfl,if_neg h];rfl
theorem slq3 (x d:Rat):slq 3 x d=d/((((1:Int):Rat)+qabs x)*(((1:Int):Rat)+qabs x)):=by unfold slq;rw[if_neg kD,if_neg kD]
theorem one_abs_ne2 (u:Rat):((((1:Int):Rat)+qabs u)*(((1:Int):Rat)+qabs u)).num≠0:=by
  intro e
  have h:=one_abs_pos u
  have e2:(((1:Int):Rat)+qabs u)*(((1:Int):Rat)+qabs u)=0:=by rw[←Rat.num_eq_zero];exact e
  have:=Rat.mul_pos h h
  rw[e2] at this;exact absurd this kD
theorem slq_zero (k:Int)(x:Rat):slq k x 0=0:=by
  unfold slq;split
  · rfl
  · split
    · split<;>rfl
    · rw[Rat.div_def,Rat.zero_mul]
theorem lq0':LQ 1 0:=LQ.lit (z:=0) kD
theorem lqz {n:Nat}(i:Nat):LQ 1 ((List.replicate n (0:Rat)).getD i 0):=by
  rw[List.getD_eq_getElem?_getD,List.getElem?_replicate];split<;>exact lq0'
theorem rep_zero {n:Nat}:∀ j,(List.replicate n (0:Rat)).getD j 0=0:=fun j=>by
  rw[List.getD_eq_getElem?_getD,List.getElem?_replicate];split<;>rfl
theorem dotq_zero (a b:List Rat)(h:∀ j,b.getD j 0=0):∀ n,dotq a b n=0
  | 0=>rfl
  | n+1=>by show dotq a b n+_*_=0;rw[dotq_zero a b h n,h,Rat.mul_zero,Rat.add_zero]
theorem rDotN (A:Option Addr)(ca:Nat)(a:List Rat)(ta:List RT)(D:Option Addr)(cd:Nat)(b:List Rat)(tb_:List RT)(n:Nat)(h1:a.length=n)(h2:n≤b.length)(K L:Nat)(hn:n≤1000000)(hb:n*(K+L+1)+K+L+2≤100000000)(ha:∀ i,LQ K (a.getD i 0))(hbb:∀ i,LQ L (b.getD i 0))(w:World)(h:Hp)(g:G w h)(hA:SlO 3 rqc rqd h A ta)(hT:RTs h ta a)(hD:SlO 3 rqc rqd h D tb_)(hU:RTs h tb_ b) :
    Calls Tryz.prog 94 #[.slice A ta.length ca,.slice D tb_.length cd] w (Ret w h fun v h1=>RQ h1 v (dotq a b n)):=by
  subst h1
  exact rDot A ca a ta D cd b tb_ K L h2 hn hb (fun i _=>ha i) (fun i _=>hbb i) w h g hA hT hD hU
theorem rBent1 (x d:Rat)(hx:LQ 45000000 x)(hd:LQ 45000000 d)(A1:Option Addr)(c1:Nat)(D1:Option Addr)(d1:Nat)(hc1:(lim (iabs x.num)).length≤c1)(hd1:(lim x.den).length≤d1)(A2:Option Addr)(c2:Nat)(D2:Option Addr)(d2:Nat)(hc2:(lim (iabs d.num)).length≤c2)(hd2:(lim d.den).length≤d2)(w:World)(h:Hp)(g:G w h)(hA1:SlO 1 u32c 0 h A1 (lim (iabs x.num)))(hD1:SlO 1 u32c 0 h D1 (lim x.den))(hA2:SlO 1 u32c 0 h A2 (lim (iabs d.num)))(hD2:SlO 1 u32c 0 h D2 (lim d.den)) :
    Calls Tryz.prog 178 #[.int .i64 1,.agg #[.bool (ineg x.num),.slice A1 ((lim (iabs x.num)).length) c1,.slice D1 ((lim x.den).length) d1],.agg #[.bool (ineg d.num),.slice A2 ((lim (iabs d.num)).length) c2,.slice D2 ((lim d.den).length) d2]] w (Ret w h fun v h1=>∃ v1 v2,v=.tuple #[v1,v2]∧RQ h1 v1 (act 1 x)∧RQ h1 v2 (slq 1 x d)):=by
 have hs:=SS.start g
 replace hs:=((((hs.a_SlO hA1).a_SlO hD1).a_SlO hA2).a_SlO hD2)
 refine go Tryz.func178 [(0,.int .i64 1),(1,.agg #[.bool (ineg x.num),.slice A1 ((lim (iabs x.num)).length) c1,.slice D1 ((lim x.den).length) d1]),(2,.agg #[.bool (ineg d.num),.slice A2 ((lim (iabs d.num)).length) c2,.slice D2 ((lim d.den).length) d2])] rfl ?_
 refine cSL (lA 4 86 ([.bool (ineg x.num),.slice A1 ((lim (iabs x.num)).length) c1,.slice D1 ((lim x.den).length) d1]) hs (fun b1 w2 h3 hs=>?_))
 refine lA 5 86 ([.bool (ineg d.num),.slice A2 ((lim (iabs d.num)).length) c2,.slice D2 ((lim d.den).length) d2]) hs (fun b4 w5 h6 hs=>?_)
 refine lA 6 86 ([.bool false,.slice none 0 0,.slice none 0 0]) hs (fun b7 w8 h9 hs=>?_)
 refine lA 7 86 ([.bool false,.slice none 0 0,.slice none 0 0]) hs (fun b10 w11 h12 hs=>?_)
 refine lN (CG.seq (CG.block (cSL (lL hs [.m 10 0,.v 11 (.bool true),.m 9 11] (lN (cIT (CG.seq ?_)))))))
 have hsr:=hs
 refine cRz 2 [] [b7,b10] mixed hs al_nil ?_
 refine eO 0 12 [(3,0,3)] (.agg #[.bool (ineg x.num),.slice A1 ((lim (iabs x.num)).length) c1,.slice D1 ((lim x.den).length) d1]) hs ?_
 refine eOz 1 13 [(2,0,3)] (.agg #[.bool (ineg d.num),.slice A2 ((lim (iabs d.num)).length) c2,.slice D2 ((lim d.den).length) d2]) hsr hs ?_ (hM:=fun p hp=>by obtain rfl:=List.mem_singleton.1 hp;exact fun hm=>by rcases List.mem_cons.1 hm with e|hm;exact bx_ne hs.st (i:=2) (j:=1) kR kR kR e;rcases List.mem_cons.1 hm with e|hm;exact bx_ne hs.st (i:=2) (j:=0) kR kR kR e;cases hm)
 refine eD0 hs (fun w13 h14 hs=>?_)
 refine tP 2 1 0 ([.bool (ineg x.num),.slice A1 ((lim (iabs x.num)).length) c1,.slice D1 ((lim x.den).length) d1]) hs (fun w15 hs=>?_) (hz:=tlz_mem (List.mem_cons_self))
 refine tP 3 0 0 ([.bool (ineg d.num),.slice A2 ((lim (iabs d.num)).length) c2,.slice D2 ((lim d.den).length) d2]) hs (fun w16 hs=>?_) (hz:=tlz_mem (List.mem_cons_of_mem _<|List.mem_cons_self))
 exact tN (CG.ret (hs.ret [(1,0,3),(0,0,3)] (.tuple #[.agg #[.bool (ineg x.num),.slice A1 ((lim (iabs x.num)).length) c1,.slice D1 ((lim x.den).length) d1],.agg #[.bool (ineg d.num),.slice A2 ((lim (iabs d.num)).length) c2,.slice D2 ((lim d.den).length) d2]]) (⟨_,_,rfl,by rw[act1];exact ⟨_,_,_,_,rfl,hc1,hd1,(hs.f.2.2.2.1),(hs.f.2.2.1)⟩,by rw[slq1];exact ⟨_,_,_,_,rfl,hc2,hd2,(hs.f.2.1),(hs.f.1)⟩⟩)))
theorem rBent2p (x d:Rat)(hx:LQ 45000000 x)(hd:LQ 45000000 d)(A1:Option Addr)(c1:Nat)(D1:Option Addr)(d1:Nat)(hc1:(lim (iabs x.num)).length≤c1)(hd1:(lim x.den).length≤d1)(A2:Option Addr)(c2:Nat)(D2:Option Addr)(d2:Nat)(hc2:(lim (iabs d.num)).length≤c2)(hd2:(lim d.den).length≤d2)(hs_:0<x.num.sign)(w:World)(h:Hp)(g:G w h)(hA1:SlO 1 u32c 0 h A1 (lim (iabs x.num)))(hD1:SlO 1 u32c 0 h D1 (lim x.den))(hA2:SlO 1 u32c 0 h A2 (lim (iabs d.num)))(hD2:SlO 1 u32c 0 h D2 (lim d.den)) :
    Calls Tryz.prog 178 #[.int .i64 2,.agg #[.bool (ineg x.num),.slice A1 ((lim (iabs x.num)).length) c1,.slice D1 ((lim x.den).length) d1],.agg #[.bool (ineg d.num),.slice A2 ((lim (iabs d.num)).length) c2,.slice D2 ((lim d.den).length) d2]] w (Ret w h fun v h1=>∃ v1 v2,v=.tuple #[v1,v2]∧RQ h1 v1 (act 2 x)∧RQ h1 v2 (slq 2 x d)):=by
 have hs:=SS.start g
 replace hs:=((((hs.a_SlO hA1).a_SlO hD1).a_SlO hA2).a_SlO hD2)
 refine go Tryz.func178 [(0,.int .i64 2),(1,.agg #[.bool (ineg x.num),.slice A1 ((lim (iabs x.num)).length) c1,.slice D1 ((lim x.den).length) d1]),(2,.agg #[.bool (ineg d.num),.slice A2 ((lim (iabs d.num)).length) c2,.slice D2 ((lim d.den).length) d2])] rfl ?_
 refine cSL (lA 4 86 ([.bool (ineg x.num),.slice A1 ((lim (iabs x.num)).length) c1,.slice D1 ((lim x.den).length) d1]) hs (fun b1 w2 h3 hs=>?_))
 refine lA 5 86 ([.bool (ineg d.num),.slice A2 ((lim (iabs d.num)).length) c2,.slice D2 ((lim d.den).length) d2]) hs (fun b4 w5 h6 hs=>?_)
 refine lA 6 86 ([.bool false,.slice none 0 0,.slice none 0 0]) hs (fun b7 w8 h9 hs=>?_)
 refine lA 7 86 ([.bool false,.slice none 0 0,.slice none 0 0]) hs (fun b10 w11 h12 hs=>?_)
 refine lN (CG.seq (CG.block (cSL (lL hs [.m 10 0,.v 11 (.bool false),.m 9 11] (lN (cIF (cSL (lL hs [.m 15 0,.v 16 (.bool true),.m 17 16,.o 18 (.agg #[.bool (ineg x.num),.slice A1 ((lim (iabs x.num)).length) c1,.slice D1 ((lim x.den).length) d1]) 3 0 3] (lC 19 hs (rSign x A1 c1 D1 d1 hc1 hd1 (LQ.ln (LQ.mono hx oM)) (LQ.ld (LQ.mono hx oM)) _ _ hs.g (hs.f.2.2.2.1) (hs.f.2.2.1)) ?_)))))))))
 rintro _ w13 h14 hs rfl
 have ⟨hb15,phb15⟩:=dT (p:=(0:Int)<(x.num.sign:Int)) oM
 refine lB 20 hb15 ?_
 refine lL hs [.v 21 (.bool true),.m 14 21] (lN (cIT (CG.seq ?_)))
 have hsr:=hs
 refine cRz 2 [] [b7,b10] mixed hs al_nil ?_
 refine eO 0 22 [(3,0,3)] (.agg #[.bool (ineg x.num),.slice A1 ((lim (iabs x.num)).length) c1,.slice D1 ((lim x.den).length) d1]) hs ?_
 refine eOz 1 23 [(2,0,3)] (.agg #[.bool (ineg d.num),.slice A2 ((lim (iabs d.num)).length) c2,.slice D2 ((lim d.den).length) d2]) hsr hs ?_ (hM:=fun p hp=>by obtain rfl:=List.mem_singleton.1 hp;exact fun hm=>by rcases List.mem_cons.1 hm with e|hm;exact bx_ne hs.st (i:=2) (j:=1) kR kR kR e;rcases List.mem_cons.1 hm with e|hm;exact bx_ne hs.st (i:=2) (j:=0) kR kR kR e;cases hm)
 refine eD0 hs (fun w16 h17 hs=>?_)
 refine tP 2 1 0 ([.bool (ineg x.num),.slice A1 ((lim (iabs x.num)).length) c1,.slice D1 ((lim x.den).length) d1]) hs (fun w18 hs=>?_) (hz:=tlz_mem (List.mem_cons_self))
 refine tP 3 0 0 ([.bool (ineg d.num),.slice A2 ((lim (iabs d.num)).length) c2,.slice D2 ((lim d.den).length) d2]) hs (fun w19 hs=>?_) (hz:=tlz_mem (List.mem_cons_of_mem _<|List.mem_cons_self))
 exact tN (CG.ret (hs.ret [(1,0,3),(0,0,3)] (.tuple #[.agg #[.bool (ineg x.num),.slice A1 ((lim (iabs x.num)).length) c1,.slice D1 ((lim x.den).length) d1],.agg #[.bool (ineg d.num),.slice A2 ((lim (iabs d.num)).length) c2,.slice D2 ((lim d.den).length) d2]]) (⟨_,_,rfl,by rw[act2p (sign_pos' hs_)];exact ⟨_,_,_,_,rfl,hc1,hd1,(hs.f.2.2.2.1),(hs.f.2.2.1)⟩,by rw[slq2p (sign_pos' hs_)];exact ⟨_,_,_,_,rfl,hc2,hd2,(hs.f.2.1),(hs.f.1)⟩⟩)))
theorem rBent2n (x d:Rat)(hx:LQ 45000000 x)(hd:LQ 45000000 d)(A1:Option Addr)(c1:Nat)(D1:Option Addr)(d1:Nat)(hc1:(lim (iabs x.num)).length≤c1)(hd1:(lim x.den).length≤d1)(A2:Option Addr)(c2:Nat)(D2:Option Addr)(d2:Nat)(hc2:(lim (iabs d.num)).length≤c2)(hd2:(lim d.den).length≤d2)(hs_:¬0<x.num.sign)(w:World)(h:Hp)(g:G w h)(hA1:SlO 1 u32c 0 h A1 (lim (iabs x.num)))(hD1:SlO 1 u32c 0 h D1 (lim x.den))(hA2:SlO 1 u32c 0 h A2 (lim (iabs d.num)))(hD2:SlO 1 u32c 0 h D2 (lim d.den)) :
    Calls Tryz.prog 178 #[.int .i64 2,.agg #[.bool (ineg x.num),.slice A1 ((lim (iabs x.num)).length) c1,.slice D1 ((lim x.den).length) d1],.agg #[.bool (ineg d.num),.slice A2 ((lim (iabs d.num)).length) c2,.slice D2 ((lim d.den).length) d2]] w (Ret w h fun v h1=>∃ v1 v2,v=.tuple #[v1,v2]∧RQ h1 v1 (act 2 x)∧RQ h1 v2 (slq 2 x d)):=by
 have hs:=SS.start g
 replace hs:=((((hs.a_SlO hA1).a_SlO hD1).a_SlO hA2).a_SlO hD2)
 refine go Tryz.func178 [(0,.int .i64 2),(1,.agg #[.bool (ineg x.num),.slice A1 ((lim (iabs x.num)).length) c1,.slice D1 ((lim x.den).length) d1]),(2,.agg #[.bool (ineg d.num),.slice A2 ((lim (iabs d.num)).length) c2,.slice D2 ((lim d.den).length) d2])] rfl ?_
 refine cSL (lA 4 86 ([.bool (ineg x.num),.slice A1 ((lim (iabs x.num)).length) c1,.slice D1 ((lim x.den).length) d1]) hs (fun b1 w2 h3 hs=>?_))
 refine lA 5 86 ([.bool (ineg d.num),.slice A2 ((lim (iabs d.num)).length) c2,.slice D2 ((lim d.den).length) d2]) hs (fun b4 w5 h6 hs=>?_)
 refine lA 6 86 ([.bool false,.slice none 0 0,.slice none 0 0]) hs (fun b7 w8 h9 hs=>?_)
 refine lA 7 86 ([.bool false,.slice none 0 0,.slice none 0 0]) hs (fun b10 w11 h12 hs=>?_)
 refine lN (CG.seq (CG.block (cSL (lL hs [.m 10 0,.v 11 (.bool false),.m 9 11] (lN (cIF (cSL (lL hs [.m 15 0,.v 16 (.bool true),.m 17 16,.o 18 (.agg #[.bool (ineg x.num),.slice A1 ((lim (iabs x.num)).length) c1,.slice D1 ((lim x.den).length) d1]) 3 0 3] (lC 19 hs (rSign x A1 c1 D1 d1 hc1 hd1 (LQ.ln (LQ.mono hx oM)) (LQ.ld (LQ.mono hx oM)) _ _ hs.g (hs.f.2.2.2.1) (hs.f.2.2.1)) ?_)))))))))
 rintro _ w13 h14 hs rfl
 have ⟨hb15,phb15⟩:=dF (p:=(0:Int)<(x.num.sign:Int)) oM
 refine lB 20 hb15 ?_
 refine lL hs [.v 21 (.bool false),.m 14 21] (lN (cIF (cSL (lL hs [.m 25 0,.v 26 (.bool true),.m 24 26] (lN (cIT (cSL (lC 27 hs (rOf 0 oM oM _ _ hs.g) ?_))))))))
 rintro _ w24 h25 hs ⟨A16,c17,A20,c21,rfl,hc18,hc22,hA19,hA23⟩
 replace hs:=((hs.a_SlO hA19).a_SlO hA23)
 refine lC 28 hs (rOf 0 oM oM _ _ hs.g) ?_
 rintro _ w34 h35 hs ⟨A26,c27,A30,c31,rfl,hc28,hc32,hA29,hA33⟩
 replace hs:=((hs.a_SlO hA29).a_SlO hA33)
 refine lP 1 0 ([.bool (ineg ((0:Int):Rat).num),.slice A16 ((lim (iabs ((0:Int):Rat).num)).length) c17,.slice A20 ((lim ((0:Int):Rat).den).length) c21]) hs (fun w36 hs=>?_)
 refine lP 0 0 ([.bool (ineg ((0:Int):Rat).num),.slice A26 ((lim (iabs ((0:Int):Rat).num)).length) c27,.slice A30 ((lim ((0:Int):Rat).den).length) c31]) hs (fun w37 hs=>?_)
 exact lN (CG.ret (hs.ret [(1,0,3),(0,0,3)] (.tuple #[.agg #[.bool (ineg ((0:Int):Rat).num),.slice A16 ((lim (iabs ((0:Int):Rat).num)).length) c17,.slice A20 ((lim ((0:Int):Rat).den).length) c21],.agg #[.bool (ineg ((0:Int):Rat).num),.slice A26 ((lim (iabs ((0:Int):Rat).num)).length) c27,.slice A30 ((lim ((0:Int):Rat).den).length) c31]]) (⟨_,_,rfl,by rw[act2n (sign_npos hs_)];exact ⟨_,_,_,_,rfl,hc18,hc22,(hs.f.2.2.2.1),(hs.f.2.2.1)⟩,by rw[slq2n (sign_npos hs_)];exact ⟨_,_,_,_,rfl,hc28,hc32,(hs.f.2.1),(hs.f.1)⟩⟩)))
theorem rBent3 (x d:Rat)(hx:LQ 45000000 x)(hd:LQ 45000000 d)(A1:Option Addr)(c1:Nat)(D1:Option Addr)(d1:Nat)(hc1:(lim (iabs x.num)).length≤c1)(hd1:(lim x.den).length≤d1)(A2:Option Addr)(c2:Nat)(D2:Option Addr)(d2:Nat)(hc2:(lim (iabs d.num)).length≤c2)(hd2:(lim d.den).length≤d2)(w:World)(h:Hp)(g:G w h)(hA1:SlO 1 u32c 0 h A1 (lim (iabs x.num)))(hD1:SlO 1 u32c 0 h D1 (lim x.den))(hA2:SlO 1 u32c 0 h A2 (lim (iabs d.num)))(hD2:SlO 1 u32c 0 h D2 (lim d.den)) :
    Calls Tryz.prog 178 #[.int .i64 3,.agg #[.bool (ineg x.num),.slice A1 ((lim (iabs x.num)).length) c1,.slice D1 ((lim x.den).length) d1],.agg #[.bool (ineg d.num),.slice A2 ((lim (iabs d.num)).length) c2,.slice D2 ((lim d.den).length) d2]] w (Ret w h fun v h1=>∃ v1 v2,v=.tuple #[v1,v2]∧RQ h1 v1 (act 3 x)∧RQ h1 v2 (slq 3 x d)):=by
 have hs:=SS.start g
 replace hs:=((((hs.a_SlO hA1).a_SlO hD1).a_SlO hA2).a_SlO hD2)
 refine go Tryz.func178 [(0,.int .i64 3),(1,.agg #[.bool (ineg x.num),.slice A1 ((lim (iabs x.num)).length) c1,.slice D1 ((lim x.den).length) d1]),(2,.agg #[.bool (ineg d.num),.slice A2 ((lim (iabs d.num)).length) c2,.slice D2 ((lim d.den).length) d2])] rfl ?_
 refine cSL (lA 4 86 ([.bool (ineg x.num),.slice A1 ((lim (iabs x.num)).length) c1,.slice D1 ((lim x.den).length) d1]) hs (fun b1 w2 h3 hs=>?_))
 refine lA 5 86 ([.bool (ineg d.num),.slice A2 ((lim (iabs d.num)).length) c2,.slice D2 ((lim d.den).length) d2]) hs (fun b4 w5 h6 hs=>?_)
 refine lA 6 86 ([.bool false,.slice none 0 0,.slice none 0 0]) hs (fun b7 w8 h9 hs=>?_)
 refine lA 7 86 ([.bool false,.slice none 0 0,.slice none 0 0]) hs (fun b10 w11 h12 hs=>?_)
 refine lN (CG.seq (CG.block (cSL (lL hs [.m 10 0,.v 11 (.bool false),.m 9 11] (lN (cIF (cSL (lL hs [.m 15 0,.v 16 (.bool false),.m 17 16] (lG 18 ?_)))))))))
 refine lG 19 ?_
 refine lG 20 ?_
 refine lL hs [.v 21 (.bool false),.m 14 21] (lN (cIF (cSL (lL hs [.m 25 0,.v 26 (.bool false),.m 24 26] (lN (cIF (CG.skipN (CG.seq ?_))))))))
 have hsr:=hs
 refine cR 5 [⟨4,8,.cells (List.toArray [.bool false,.slice none 0 0,.slice none 0 0]) 86 (0,0)⟩] mixed hs (al_cons (alOk kR (fun _ _=>by kernel_rfl)) al_nil) ?_
 refine eO 1 30 [(3,0,3)] (.agg #[.bool (ineg x.num),.slice A1 ((lim (iabs x.num)).length) c1,.slice D1 ((lim x.den).length) d1]) hs ?_
 refine eC 0 29 hs (fun _ _ hs=>rOf 1 oM oM _ _ hs.g) ?_
 rintro _ _ _ w21 h22 hs ⟨A13,c14,A17,c18,rfl,hc15,hc19,hA16,hA20⟩
 replace hs:=((hs.a_SlO hA16).a_SlO hA20)
 have hq23:LQ (45000000) (qabs x):=LQ.abs hx
 refine eC 2 31 hs (fun _ _ hs=>rAbs x A1 c1 D1 d1 hc1 hd1 (LQ.ln (LQ.mono hx oM)) (LQ.ld (LQ.mono hx oM)) _ _ hs.g (hs.f.2.2.2.2.2.1) (hs.f.2.2.2.2.1)) ?_
 rintro _ _ _ w32 h33 hs ⟨A24,c25,A28,c29,rfl,hc26,hc30,hA27,hA31⟩
 replace hs:=((hs.a_SlO hA27).a_SlO hA31)
 have hq34:LQ (1+45000000+1) (((1:Int):Rat)+(qabs x)):=LQ.add (LQ.lit kD) hq23
 refine eC 3 32 hs (fun _ _ hs=>rAdd ((1:Int):Rat) A13 c14 A17 c18 hc15 hc19 (LQ.ln (LQ.mono (LQ.lit kD) oM)) (LQ.ld (LQ.mono (LQ.lit kD) oM)) (qabs x) A24 c25 A28 c29 hc26 hc30 (LQ.ln (LQ.mono hq23 oM)) (LQ.ld (LQ.mono hq23 oM)) _ _ hs.g (hs.f.2.2.2.1) (hs.f.2.2.1) (hs.f.2.1) (hs.f.1)) ?_
 rintro _ _ _ w43 h44 hs ⟨A35,c36,A39,c40,rfl,hc37,hc41,hA38,hA42⟩
 replace hs:=((hs.a_SlO hA38).a_SlO hA42)
 refine eD1p [] hsr hs 86 [.bool false,.slice none 0 0,.slice none 0 0] (fun w45 h46 b47 hs=>?_)
 refine tP 5 0 0 ([.bool (ineg (((1:Int):Rat)+(qabs x)).num),.slice A35 ((lim (iabs (((1:Int):Rat)+(qabs x)).num)).length) c36,.slice A39 ((lim (((1:Int):Rat)+(qabs x)).den).length) c40]) hs (fun w48 hs=>?_)
 refine tN (CG.seq ?_)
 have hsr:=hs
 refine cRz 8 [] [b7,b10] mixed hs al_nil ?_
 refine eO 0 33 [(4,0,3)] (.agg #[.bool (ineg x.num),.slice A1 ((lim (iabs x.num)).length) c1,.slice D1 ((lim x.den).length) d1]) hs ?_
 refine eO 1 34 [(0,0,3)] (.agg #[.bool (ineg (((1:Int):Rat)+(qabs x)).num),.slice A35 ((lim (iabs (((1:Int):Rat)+(qabs x)).num)).length) c36,.slice A39 ((lim (((1:Int):Rat)+(qabs x)).den).length) c40]) hs ?_
 refine eOz 3 36 [(3,0,3)] (.agg #[.bool (ineg d.num),.slice A2 ((lim (iabs d.num)).length) c2,.slice D2 ((lim d.den).length) d2]) hsr hs ?_ (hM:=fun p hp=>by obtain rfl:=List.mem_singleton.1 hp;exact fun hm=>by rcases List.mem_cons.1 hm with e|hm;exact bx_ne hs.st (i:=3) (j:=2) kR kR kR e;rcases List.mem_cons.1 hm with e|hm;exact bx_ne hs.st (i:=3) (j:=1) kR kR kR e;cases hm)
 refine eOz 4 37 [(0,0,3)] (.agg #[.bool (ineg (((1:Int):Rat)+(qabs x)).num),.slice A35 ((lim (iabs (((1:Int):Rat)+(qabs x)).num)).length) c36,.slice A39 ((lim (((1:Int):Rat)+(qabs x)).den).length) c40]) hsr hs ?_ (hM:=fun p hp=>by obtain rfl:=List.mem_singleton.1 hp;exact fun hm=>by rcases List.mem_cons.1 hm with e|hm;exact bx_ne hs.st (i:=0) (j:=2) kR kR kR e;rcases List.mem_cons.1 hm with e|hm;exact bx_ne hs.st (i:=0) (j:=1) kR kR kR e;cases hm)
 refine eOz 5 38 [(0,0,3)] (.agg #[.bool (ineg (((1:Int):Rat)+(qabs x)).num),.slice A35 ((lim (iabs (((1:Int):Rat)+(qabs x)).num)).length) c36,.slice A39 ((lim (((1:Int):Rat)+(qabs x)).den).length) c40]) hsr hs ?_ (hM:=fun p hp=>by obtain rfl:=List.mem_singleton.1 hp;exact fun hm=>by rcases List.mem_cons.1 hm with e|hm;exact bx_ne hs.st (i:=0) (j:=2) kR kR kR e;rcases List.mem_cons.1 hm with e|hm;exact bx_ne hs.st (i:=0) (j:=1) kR kR kR e;cases hm)
 have hq49:LQ (45000000+(1+45000000+1)) (x/(((1:Int):Rat)+(qabs x))):=LQ.div hx hq34
 refine eC 2 35 hs (fun _ _ hs=>rDiv x A1 c1 D1 d1 hc1 hd1 (LQ.ln (LQ.mono hx oM)) (LQ.ld (LQ.mono hx oM)) (((1:Int):Rat)+(qabs x)) A35 c36 A39 c40 hc37 hc41 (LQ.ln (LQ.mono hq34 oM)) (LQ.ld (LQ.mono hq34 oM)) (one_abs_ne x) _ _ hs.g (hs.f.2.2.2.2.2.2.2.2.2.1) (hs.f.2.2.2.2.2.2.2.2.1) (hs.f.2.1) (hs.f.1)) ?_
 rintro _ _ _ w58 h59 hs ⟨A50,c51,A54,c55,rfl,hc52,hc56,hA53,hA57⟩
 replace hs:=((hs.a_SlO hA53).a_SlO hA57)
 have hq60:LQ ((1+45000000+1)+(1+45000000+1)) ((((1:Int):Rat)+(qabs x))*(((1:Int):Rat)+(qabs x))):=LQ.mul hq34 hq34
 refine eC 6 39 hs (fun _ _ hs=>rMul (((1:Int):Rat)+(qabs x)) A35 c36 A39 c40 hc37 hc41 (LQ.ln (LQ.mono hq34 oM)) (LQ.ld (LQ.mono hq34 oM)) (((1:Int):Rat)+(qabs x)) A35 c36 A39 c40 hc37 hc41 (LQ.ln (LQ.mono hq34 oM)) (LQ.ld (LQ.mono hq34 oM)) _ _ hs.g (hs.f.2.2.2.1) (hs.f.2.2.1) (hs.f.2.2.2.1) (hs.f.2.2.1)) ?_
 rintro _ _ _ w69 h70 hs ⟨A61,c62,A65,c66,rfl,hc63,hc67,hA64,hA68⟩
 replace hs:=((hs.a_SlO hA64).a_SlO hA68)
 have hq71:LQ (45000000+((1+45000000+1)+(1+45000000+1))) (d/((((1:Int):Rat)+(qabs x))*(((1:Int):Rat)+(qabs x)))):=LQ.div hd hq60
 refine eC 7 40 hs (fun _ _ hs=>rDiv d A2 c2 D2 d2 hc2 hd2 (LQ.ln (LQ.mono hd oM)) (LQ.ld (LQ.mono hd oM)) ((((1:Int):Rat)+(qabs x))*(((1:Int):Rat)+(qabs x))) A61 c62 A65 c66 hc63 hc67 (LQ.ln (LQ.mono hq60 oM)) (LQ.ld (LQ.mono hq60 oM)) (one_abs_ne2 x) _ _ hs.g (hs.f.2.2.2.2.2.2.2.2.2.2.2.1) (hs.f.2.2.2.2.2.2.2.2.2.2.1) (hs.f.2.1) (hs.f.1)) ?_
 rintro _ _ _ w80 h81 hs ⟨A72,c73,A76,c77,rfl,hc74,hc78,hA75,hA79⟩
 replace hs:=((hs.a_SlO hA75).a_SlO hA79)
 refine eD0 hs (fun w82 h83 hs=>?_)
 refine tP 8 2 0 ([.bool (ineg (x/(((1:Int):Rat)+(qabs x))).num),.slice A50 ((lim (iabs (x/(((1:Int):Rat)+(qabs x))).num)).length) c51,.slice A54 ((lim (x/(((1:Int):Rat)+(qabs x))).den).length) c55]) hs (fun w84 hs=>?_) (hz:=tlz_mem (List.mem_cons_self))
 refine tP 9 1 0 ([.bool (ineg (d/((((1:Int):Rat)+(qabs x))*(((1:Int):Rat)+(qabs x)))).num),.slice A72 ((lim (iabs (d/((((1:Int):Rat)+(qabs x))*(((1:Int):Rat)+(qabs x)))).num)).length) c73,.slice A76 ((lim (d/((((1:Int):Rat)+(qabs x))*(((1:Int):Rat)+(qabs x)))).den).length) c77]) hs (fun w85 hs=>?_) (hz:=tlz_mem (List.mem_cons_of_mem _<|List.mem_cons_self))
 exact tN (CG.ret (hs.ret [(2,0,3),(1,0,3)] (.tuple #[.agg #[.bool (ineg (x/(((1:Int):Rat)+(qabs x))).num),.slice A50 ((lim (iabs (x/(((1:Int):Rat)+(qabs x))).num)).length) c51,.slice A54 ((lim (x/(((1:Int):Rat)+(qabs x))).den).length) c55],.agg #[.bool (ineg (d/((((1:Int):Rat)+(qabs x))*(((1:Int):Rat)+(qabs x)))).num),.slice A72 ((lim (iabs (d/((((1:Int):Rat)+(qabs x))*(((1:Int):Rat)+(qabs x)))).num)).length) c73,.slice A76 ((lim (d/((((1:Int):Rat)+(qabs x))*(((1:Int):Rat)+(qabs x)))).den).length) c77]]) (⟨_,_,rfl,by rw[act3];exact ⟨_,_,_,_,rfl,hc52,hc56,(hs.f.2.2.2.2.2.1),(hs.f.2.2.2.2.1)⟩,by rw[slq3];exact ⟨_,_,_,_,rfl,hc74,hc78,(hs.f.2.1),(hs.f.1)⟩⟩)))
theorem rBent (k:Int)(hk:k=1∨k=2∨k=3)(x d:Rat)(hx:LQ 45000000 x)(hd:LQ 45000000 d)(A1:Option Addr)(c1:Nat)(D1:Option Addr)(d1:Nat)(hc1:(lim (iabs x.num)).length≤c1)(hd1:(lim x.den).length≤d1)(A2:Option Addr)(c2:Nat)(D2:Option Addr)(d2:Nat)(hc2:(lim (iabs d.num)).length≤c2)(hd2:(lim d.den).length≤d2)(w:World)(h:Hp)(g:G w h)(hA1:SlO 1 u32c 0 h A1 (lim (iabs x.num)))(hD1:SlO 1 u32c 0 h D1 (lim x.den))(hA2:SlO 1 u32c 0 h A2 (lim (iabs d.num)))(hD2:SlO 1 u32c 0 h D2 (lim d.den)) :
    Calls Tryz.prog 178 #[.int .i64 k,.agg #[.bool (ineg x.num),.slice A1 ((lim (iabs x.num)).length) c1,.slice D1 ((lim x.den).length) d1],.agg #[.bool (ineg d.num),.slice A2 ((lim (iabs d.num)).length) c2,.slice D2 ((lim d.den).length) d2]] w (Ret w h fun v h1=>∃ v1 v2,v=.tuple #[v1,v2]∧RQ h1 v1 (act k x)∧RQ h1 v2 (slq k x d)):=by
  rcases hk with rfl|rfl|rfl
  · exact rBent1 x d hx hd A1 c1 D1 d1 hc1 hd1 A2 c2 D2 d2 hc2 hd2 w h g hA1 hD1 hA2 hD2
  · by_cases hs:0<x.num.sign
    · exact rBent2p x d hx hd A1 c1 D1 d1 hc1 hd1 A2 c2 D2 d2 hc2 hd2 hs w h g hA1 hD1 hA2 hD2
    · exact rBent2n x d hx hd A1 c1 D1 d1 hc1 hd1 A2 c2 D2 d2 hc2 hd2 hs w h g hA1 hD1 hA2 hD2
  · exact rBent3 x d hx hd A1 c1 D1 d1 hc1 hd1 A2 c2 D2 d2 hc2 hd2 w h g hA1 hD1 hA2 hD2
def RTz (h:Hp)(ts:List RT)(k:Nat):Prop:=∀ j,j<k→RQ h (rtv (ts.getD j rqd)) 0
theorem RTz.gw {h h':Hp}{ts:List RT}{k:Nat}(r:RTz h ts k)(u:Gw h h'):RTz h' ts k:=fun j hj=>(r j hj).gw u
theorem RTz.set {h:Hp}{ts:List RT}{k:Nat}{t:RT}(r:RTz h ts k)(hk:k<ts.length)(ht:RQ h (rtv t) 0):RTz h (ts.set k t) (k+1):=fun j hj=>by
  by_cases e:j=k
  · subst e;rw[List.getD_eq_getElem?_getD,List.getElem?_set_self hk];exact ht
  · rw[List.getD_eq_getElem?_getD,List.getElem?_set_ne (Ne.symm e),←List.getD_eq_getElem?_getD];exact r j oM
theorem RTz.rts {h:Hp}{ts:List RT}{k:Nat}(r:RTz h ts k)(hl:ts.length=k):RTs h ts (List.replicate k 0):=⟨by simp[hl],fun j hj=>by rw[rep_zero];exact r j (by simpa using hj)⟩
theorem rUnit0 (n:Nat)(hn:n≤1000000)(w:World)(h:Hp)(g:G w h) :
    Calls Tryz.prog 126 #[.int .i64 (n:Nat),.slice none 0 0] w (Ret w h fun v h1=>∃ A c ts,v=.slice A (ts:List RT).length c∧ts.length≤c∧SlO 3 rqc rqd h1 A ts∧RTs h1 ts (List.replicate n 0)):=by
 have hs:=SS.start g
 refine go Tryz.func126 [(0,.int .i64 (n:Nat)),(1,.slice none 0 0)] rfl ?_
 refine cSL (lL hs [.v 4 (.slice none 0 0)] (lNS (lL hs [.m 8 0] (lK 9 86 n 3 56 (.agg #[.bool false,.slice none 0 0,.slice none 0 0]) rqc ((false,.slice none 0 0,.slice none 0 0):RT) hs (fun b1 w2 h3 hs=>?_)))))
 have hl4:(List.replicate n ((false,.slice none 0 0,.slice none 0 0):RT)).length=n:=by simp
 refine lL hs [.m 5 9] (lN (CG.seq (cSL (lL hs [.v 6 (.int .i64 0)] (lN (CG.block (cTo [(0,.int .i64 (n:Nat)),(1,.slice none 0 0),(4,.slice none 0 0),(5,.slice (some ⟨b1,0,none⟩) n n),(6,.int .i64 0)] ?_)))))))
 replace hs:=hs.add (K:=fun h_=>RTz h_ (List.replicate n ((false,.slice none 0 0,.slice none 0 0):RT)) 0) ((fun j hj=>absurd hj (Nat.not_lt_zero j)))
 refine CG.loop (fun μ_ Γ w_=>∃ (k:Nat) (ts:List RT) (h_:Hp),μ_=n-k∧Γ=[(0,.int .i64 (n:Nat)),(1,.slice none 0 0),(4,.slice none 0 0),(5,.slice (some ⟨b1,0,none⟩) n n),(6,.int .i64 (k:Nat))]∧SS w h w_ h_ [⟨b1,86,(ts).flatMap rqc⟩] [] [fun h_=>RTz h_ ts k]∧(k≤n)∧(ts.length=n)) _ ⟨0,List.replicate n ((false,.slice none 0 0,.slice none 0 0):RT),h3,rfl,rfl,hs.to _ _,Nat.zero_le _,hl4⟩ ?_
 rintro _ _ w5 ⟨k,ts,h6,hm7,rfl,hs,hk,htl⟩
 refine CG.seq (cSL (lL hs [.m 10 6,.m 11 0] ?_))
 cases hb8:(decide (((k:Nat):Int)<((n:Nat):Int)))
 ·
  have phb8:=oF hb8
  refine lB 12 hb8 ?_
  refine lN (cIF (CG.exit ?_))
  show CG _ _ _ _ _ _ _ _
  refine CG.seq (cSL (lL hs [.v 7 (.int .i64 0)] (lN (CG.block (cTo [(1,.slice none 0 0),(4,.slice none 0 0),(5,.slice (some ⟨b1,0,none⟩) n n),(7,.int .i64 0)] ?_)))))
  refine CG.loop (fun μ_ Γ w_=>∃  (h_:Hp),μ_=0∧Γ=[(1,.slice none 0 0),(4,.slice none 0 0),(5,.slice (some ⟨b1,0,none⟩) n n),(7,.int .i64 0)]∧SS w h w_ h_ [⟨b1,86,(ts).flatMap rqc⟩] [] [fun h_=>RTz h_ ts k]) _ ⟨h6,rfl,rfl,hs.to _ _⟩ ?_
  rintro _ _ w9 ⟨h10,hm11,rfl,hs⟩
  refine CG.seq (cSL (lL hs [.m 19 7,.m 20 1,.v 21 (.int .i64 0),.v 22 (.bool false)] (lN (cIF (CG.exit ?_)))))
  show CG _ _ _ _ _ _ _ _
  refine cSL (lL hs [.m 40 5,.m 4 40] (lN (CG.ret ?_)))
  have hkn:k=n:=by omega
  obtain ⟨h12,hs,sg13,lo14,bc15⟩:=hs.pub 0
  replace hs:=(hs.to [] []).a_SlO (SlO.of_flat (sz:=3) (f:=rqc) (d:=rqd) (b:=b1) (o:=0) (l:=ts) (fun _=>rfl) sg13)
  exact hs.ret [] (.slice (some ⟨b1,0,none⟩) n n) (⟨_,_,ts,by rw[htl],by omega,(hs.f.1),(hkn▸(hs.f.2.1)).rts htl⟩)
 have phb8:=oT hb8
 refine lB 12 hb8 ?_
 refine lN (cIT (CG.skipN (CG.seq (CG.block (CG.listed (lL hs [.m 15 5,.m 16 6] (lC 17 hs (rOf 0 oM oM _ _ hs.g) ?_)))))))
 rintro _ w25 h26 hs ⟨A17,c18,A21,c22,rfl,hc19,hc23,hA20,hA24⟩
 replace hs:=((hs.a_SlO hA20).a_SlO hA24)
 refine lX 18 (some ⟨b1,0,none⟩) n n 3 (k:Nat) k rfl ?_
 refine lW 0 ts rqc 3 k ((ineg ((0:Int):Rat).num,.slice A17 ((lim (iabs ((0:Int):Rat).num)).length) c18,.slice A21 ((lim ((0:Int):Rat).den).length) c22):RT) hs oM (fun w27 hs=>?_)
 have hl28:((ts).set k ((ineg ((0:Int):Rat).num,.slice A17 ((lim (iabs ((0:Int):Rat).num)).length) c18,.slice A21 ((lim ((0:Int):Rat).den).length) c22):RT)).length=n:=by rw[List.length_set];exact htl
 replace hs:=hs.to [⟨b1,86,((ts).set k ((ineg ((0:Int):Rat).num,.slice A17 ((lim (iabs ((0:Int):Rat).num)).length) c18,.slice A21 ((lim ((0:Int):Rat).den).length) c22):RT)).flatMap rqc⟩] []
 refine lN (CG.listed (lL hs [.m 13 6] (lIn 14 ((k:Nat)+1) (k+1) ?_)))
 refine lL hs [.m 6 14] (lD ?_)
 intro a_ ka
 have q29:RTz h26 ((ts).set k ((ineg ((0:Int):Rat).num,.slice A17 ((lim (iabs ((0:Int):Rat).num)).length) c18,.slice A21 ((lim ((0:Int):Rat).den).length) c22):RT)) (k+1):=((hs.f.2.2.1).set oM (rqOk hc19 hc23 (hs.f.2.1) (hs.f.1)))
 have q30:(k+1)≤n:=by omega
 have q31:((ts).set k ((ineg ((0:Int):Rat).num,.slice A17 ((lim (iabs ((0:Int):Rat).num)).length) c18,.slice A21 ((lim ((0:Int):Rat).den).length) c22):RT)).length=n:=hl28
 replace hs:=(hs.tl.tl.tl.add (K:=fun h_=>RTz h_ ((ts).set k ((ineg ((0:Int):Rat).num,.slice A17 ((lim (iabs ((0:Int):Rat).num)).length) c18,.slice A21 ((lim ((0:Int):Rat).den).length) c22):RT)) (k+1)) q29)
 refine ⟨_,_,?_,⟨k+1,(ts).set k ((ineg ((0:Int):Rat).num,.slice A17 ((lim (iabs ((0:Int):Rat).num)).length) c18,.slice A21 ((lim ((0:Int):Rat).den).length) c22):RT),h26,rfl,rfl,hs.to _ _,q30,q31⟩,ka.to [(0,.int .i64 (n:Nat)),(1,.slice none 0 0),(4,.slice none 0 0),(5,.slice (some ⟨b1,0,none⟩) n n),(6,.int .i64 ((k+1):Nat))] kR⟩
 omega
theorem rThrough (A:Option Addr)(cap:Nat)(ts:List LV)(ls:List Lay)(d:Nat→Nat)(hO:Net3 ls d)(X:Option Addr)(c0:Nat)(xs:List Rat)(tX:List RT)(hx:xs.length=d 0)(hc0:tX.length≤c0)(hB:NetB ls xs)(w:World)(h:Hp)(g:G w h)(hA:SlO 3 lvc lvd h A ts)(hN:RNetL h ts ls)(hX:SlO 3 rqc rqd h X tX)(hTx:RTs h tX xs) :
    Calls Tryz.prog 105 #[.agg #[.slice A ts.length cap],.slice X tX.length c0,.int .i64 (-1)] w (Ret w h fun v h1=>∃ A c ts v2,v=.tuple #[.slice A (ts:List RT).length c,v2]∧ts.length≤c∧SlO 3 rqc rqd h1 A ts∧RTs h1 ts (outq ls xs ls.length)):=by
 have hs:=SS.start g
 replace hs:=((((hs.a_SlO hA).add (K:=fun h_=>RNetL h_ ts ls) hN).a_SlO hX).add (K:=fun h_=>RTs h_ tX xs) hTx)
 have hl:=(hs.f.2.2.1).len
 obtain ⟨o1,o2⟩:=hO.len
 have o3:=hO.first
 have hltx:=(hs.f.1).len
 refine go Tryz.func105 [(0,.agg #[.slice A ts.length cap]),(1,.slice X tX.length c0),(2,.int .i64 (-1))] rfl ?_
 refine cSL (lA 3 49 ([.slice A ts.length cap]) hs (fun b1 w2 h3 hs=>?_))
 refine lL hs [.v 6 (.slice none 0 0),.v 7 (.slice none 0 0)] (lNS (lL hs [.m 19 1,.v 20 (.int .i64 (tX.length:Nat))] (lC 21 hs (rUnit0 tX.length oM _ _ hs.g) ?_)))
 rintro _ w4 h5 hs ⟨Du,cu,tu,rfl,hcu,hDu,hTu⟩
 replace hs:=((hs.a_SlO hDu).add (K:=fun h_=>RTs h_ tu (List.replicate tX.length 0)) hTu)
 refine lL hs [.m 8 21] (lNS (lL hs [.v 9 (.int .i64 0)] (lN (CG.seq (cSL (lL hs [.v 10 (.int .i64 0)] (lN (CG.block (cTo [(2,.int .i64 (-1)),(3,.pointer (some ⟨b1,0,none⟩)),(6,.slice none 0 0),(7,.slice none 0 0),(10,.int .i64 0),(1,.slice X tX.length c0),(8,.slice Du tu.length cu),(9,.int .i64 0)] ?_)))))))))
 replace hs:=hs.add (K:=fun h_=>RTs h_ tu (List.replicate (d 0) (0:Rat))) ((by rw[←hx,←hltx];exact (hs.f.1)))
 replace hs:=hs.add (K:=fun h_=>SlO 3 rqc rqd h_ Du tu) ((hs.f.2.2.1))
 replace hs:=hs.add (K:=fun h_=>RTs h_ tX (outq ls xs 0)) ((hs.f.2.2.2.2.1))
 replace hs:=hs.add (K:=fun h_=>SlO 3 rqc rqd h_ X tX) ((hs.f.2.2.2.2.2.2.1))
 refine CG.loop (fun μ_ Γ w_=>∃ (k:Nat) (Xa:Option Addr) (Xc:Nat) (tx:List RT) (Da:Option Addr) (Dc:Nat) (td:List RT) (at_:Nat) (h_:Hp),μ_=ls.length-k∧Γ=[(2,.int .i64 (-1)),(3,.pointer (some ⟨b1,0,none⟩)),(6,.slice none 0 0),(7,.slice none 0 0),(10,.int .i64 (k:Nat)),(1,.slice Xa tx.length Xc),(8,.slice Da td.length Dc),(9,.int .i64 (at_:Nat))]∧SS w h w_ h_ [⟨b1,49,[.slice A ts.length cap]⟩] [] [fun h_=>SlO 3 rqc rqd h_ Xa tx,fun h_=>RTs h_ tx (outq ls xs k),fun h_=>SlO 3 rqc rqd h_ Da td,fun h_=>RTs h_ td (List.replicate (d k) (0:Rat)),fun h_=>RTs h_ tu (List.replicate tX.length 0),fun h_=>SlO 3 rqc rqd h_ Du tu,fun h_=>RTs h_ tX xs,fun h_=>SlO 3 rqc rqd h_ X tX,fun h_=>RNetL h_ ts ls,fun h_=>SlO 3 lvc lvd h_ A ts]∧(k≤ls.length)∧(at_≤k*300)∧(tx.length≤Xc)) _ ⟨0,X,c0,tX,Du,cu,tu,0,h5,rfl,rfl,hs.to _ _,Nat.zero_le _,Nat.zero_le _,hc0⟩ ?_
 rintro _ _ w6 ⟨k,Xa,Xc,tx,Da,Dc,td,at_,h7,hm8,rfl,hs,hk,hat,hcX⟩
 have hlx:=outq_len hO hx k oM
 have hsm:=fun h0=>hO.small k h0
 have hlt:=(hs.f.2.1).len
 have hld:=(hs.f.2.2.2.1).len
 refine CG.seq (cSL (lL hs [.m 22 10,.v 23 (.pointer (some ⟨b1,0,none⟩)),.o 24 (.slice A ts.length cap) 0 0 1,.v 25 (.int .i64 (ts.length:Nat))] ?_))
 cases hb9:(decide (((k:Nat):Int)<((ts.length:Nat):Int)))
 ·
  have phb9:=oF hb9
  refine lB 26 hb9 ?_
  refine lN (cIF (CG.exit ?_))
  show CG _ _ _ _ _ _ _ _
  refine cSL (lL hs [.m 134 1,.m 135 8,.m 6 134,.m 7 135] (lN (CG.ret ?_)))
  have hkn:k=ls.length:=by omega
  exact hs.ret [] (.tuple #[.slice Xa tx.length Xc,.slice Da td.length Dc]) (by rw[←hkn];exact ⟨_,_,tx,_,rfl,hcX,(hs.f.1),(hs.f.2.1)⟩)
 have phb9:=oT hb9
 refine lB 26 hb9 ?_
 refine lN (cIT (CG.skipN (CG.seq (CG.block (cSL (lL hs [.v 29 (.pointer (some ⟨b1,0,none⟩)),.o 30 (.slice A ts.length cap) 0 0 1,.m 31 10] (lX 32 A ts.length cap 3 (k:Nat) k ((hs.f.2.2.2.2.2.2.2.2.2.1).ok oM) ?_)))))))
 obtain ⟨mtx,lbx,r12x,kdx⟩:=hO.lay k oM
 obtain ⟨ekx,⟨AWx,cWx,usx,eWx,hcWx,hAWx,hTWx⟩,⟨ABx,cBx,rsx,eBx,hcBx,hABx,hTBx⟩⟩:=(hs.f.2.2.2.2.2.2.2.2.1).at_ k oM
 replace hs:=((((hs.a_SlO hAWx).add (K:=fun h_=>RVs h_ usx (ls.getD k lay0).W) hTWx).a_SlO hABx).add (K:=fun h_=>RTs h_ rsx (ls.getD k lay0).B) hTBx)
 refine lHe 33 (.agg #[.int .i64 ((ts.getD k lvd).1),(ts.getD k lvd).2.1,(ts.getD k lvd).2.2]) hs ((hs.f.2.2.2.2.2.2.2.2.2.2.2.2.2.1).el k oM) (by rw[ekx,eWx,eBx]) ?_
 have mrx:=mtx.rows;have mpx:=mtx.rpos;have mcx:=mtx.cpos;have lux:=(hs.f.2.2.1).len;have lbx2:=(hs.f.1).len
 refine lA 11 168 ([.int .i64 0,.slice none 0 0,.slice none 0 0]) hs (fun b10 w11 h12 hs=>?_)
 refine lP 0 0 ([.int .i64 ((ls.getD k lay0).k),.slice AWx usx.length cWx,.slice ABx rsx.length cBx]) hs (fun w13 hs=>?_)
 refine lNS (lL hs [.v 12 (.slice none 0 0),.v 13 (.slice none 0 0)] (lNS (lL hs [.m 34 1,.v 35 (.int .i64 (tx.length:Nat)),.m 14 35] (lN (CG.seq (cSL (lL hs [.v 15 (.int .i64 0)] (lN (CG.block ?_)))))))))
 replace hs:=hs.nil 86 3
 replace hs:=hs.nil 86 3
 refine cTo [(2,.int .i64 (-1)),(3,.pointer (some ⟨b1,0,none⟩)),(6,.slice none 0 0),(7,.slice none 0 0),(10,.int .i64 (k:Nat)),(1,.slice Xa tx.length Xc),(8,.slice Da td.length Dc),(9,.int .i64 (at_:Nat)),(11,.pointer (some ⟨b10,0,none⟩)),(14,.int .i64 (tx.length:Nat)),(15,.int .i64 0),(12,.slice none 0 0),(13,.slice none 0 0)] ?_
 replace hs:=hs.add (K:=fun h_=>RTs h_ ([]) (List.replicate 0 0)) (RTs.nil)
 replace hs:=hs.add (K:=fun h_=>RTs h_ ([]) ([])) (RTs.nil)
 refine CG.loop (fun μ_ Γ w_=>∃ (r:Nat) (syA:Option Addr) (syc:Nat) (ty:List RT) (yl:List Rat) (szA:Option Addr) (szc:Nat) (tz:List RT) (h_:Hp),μ_=usx.length-r∧Γ=[(2,.int .i64 (-1)),(3,.pointer (some ⟨b1,0,none⟩)),(6,.slice none 0 0),(7,.slice none 0 0),(10,.int .i64 (k:Nat)),(1,.slice Xa tx.length Xc),(8,.slice Da td.length Dc),(9,.int .i64 (at_:Nat)),(11,.pointer (some ⟨b10,0,none⟩)),(14,.int .i64 (tx.length:Nat)),(15,.int .i64 (r:Nat)),(12,.slice syA ((ty).length) syc),(13,.slice szA ((tz).length) szc)]∧SS w h w_ h_ [⟨b10,168,[.int .i64 ((ls.getD k lay0).k),.slice AWx usx.length cWx,.slice ABx rsx.length cBx]⟩,⟨b1,49,[.slice A ts.length cap]⟩] [⟨86,3,syA,syc,(ty).length,(ty).flatMap rqc⟩,⟨86,3,szA,szc,(tz).length,(tz).flatMap rqc⟩] [fun h_=>RTs h_ ty yl,fun h_=>RTs h_ tz (List.replicate r 0),fun h_=>RTs h_ rsx (ls.getD k lay0).B,fun h_=>SlO 3 rqc rqd h_ ABx rsx,fun h_=>RVs h_ usx (ls.getD k lay0).W,fun h_=>SlO 1 vc undef h_ AWx usx,fun h_=>SlO 3 rqc rqd h_ Xa tx,fun h_=>RTs h_ tx (outq ls xs k),fun h_=>SlO 3 rqc rqd h_ Da td,fun h_=>RTs h_ td (List.replicate (d k) (0:Rat)),fun h_=>RTs h_ tu (List.replicate tX.length 0),fun h_=>SlO 3 rqc rqd h_ Du tu,fun h_=>RTs h_ tX xs,fun h_=>SlO 3 rqc rqd h_ X tX,fun h_=>RNetL h_ ts ls,fun h_=>SlO 3 lvc lvd h_ A ts]∧(r≤usx.length)∧(yl=(List.range r).map (fun i=>act (ls.getD k lay0).k (dotq ((ls.getD k lay0).W.getD i []) (outq ls xs k) (outq ls xs k).length+(ls.getD k lay0).B.getD i 0)))) _ ⟨0,none,0,[],[],none,0,[],h12,rfl,rfl,hs.to _ _,Nat.zero_le _,rfl⟩ ?_
 rintro _ _ w14 ⟨r,syA,syc,ty,yl,szA,szc,tz,h15,hm16,rfl,hs,hr,hyl⟩
 have hlY:=(hs.f.1).len
 have hlZ:=(hs.f.2.1).len
 have hlyl:yl.length=r:=by rw[hyl];simp
 rw[List.length_replicate] at hlZ
 refine CG.seq (cSL (lL hs [.m 36 15,.v 37 (.pointer (some ⟨b10,1,none⟩)),.o 38 (.slice AWx usx.length cWx) 0 1 1,.v 39 (.int .i64 (usx.length:Nat))] ?_))
 cases hb17:(decide (((r:Nat):Int)<((usx.length:Nat):Int)))
 ·
  have phb17:=oF hb17
  refine lB 40 hb17 ?_
  refine lN (cIF (CG.exit ?_))
  show CG _ _ _ _ _ _ _ _
  refine cSL ?_
  have huw:usx.length*tx.length≤12*20:=Nat.mul_le_mul oM oM
  refine lL hs [.m 121 9,.v 122 (.pointer (some ⟨b10,1,none⟩)),.o 123 (.slice AWx usx.length cWx) 0 1 1,.v 124 (.int .i64 (usx.length:Nat)),.m 125 14] (lIn 126 ((usx.length:Nat)*(tx.length:Nat)) (usx.length*tx.length) ?_)
  refine lIn 127 ((at_:Nat)+(usx.length*tx.length:Nat)) (at_+(usx.length*tx.length)) ?_
  refine lL hs [.v 128 (.pointer (some ⟨b10,1,none⟩)),.o 129 (.slice AWx usx.length cWx) 0 1 1,.v 130 (.int .i64 (usx.length:Nat))] (lIn 131 ((at_+(usx.length*tx.length):Nat)+(usx.length:Nat)) ((at_+(usx.length*tx.length))+usx.length) ?_)
  refine lL hs [.m 9 131] (lNS ?_)
  obtain ⟨h18,hs,hc19⟩:=hs.pubr 0 (A:=syA) (c:=syc) (l:=ty) (f:=rqc) (ty:=86) (sz:=3) rqd (fun _=>rfl)
  refine lL hs [.m 132 12,.m 1 132] (lN (CG.listed ?_))
  obtain ⟨h21,hs,hc22⟩:=hs.pubr 0 (A:=szA) (c:=szc) (l:=tz) (f:=rqc) (ty:=86) (sz:=3) rqd (fun _=>rfl)
  refine lL hs [.m 133 13,.m 8 133] (lN (CG.listed (lL hs [.m 27 10] (lIn 28 ((k:Nat)+1) (k+1) ?_))))
  refine lL hs [.m 10 28] (lD ?_)
  have hyo:yl=outq ls xs (k+1):=by rw[hyl,show r=(ls.getD k lay0).W.length by omega];rfl
  have hzo:List.replicate r (0:Rat)=List.replicate (d (k+1)) 0:=by rw[show r=d (k+1) by omega]
  intro a_ ka
  have q24:SlO 3 rqc rqd h21 syA ty:=(hs.f.2.1)
  have q25:RTs h21 ty (outq ls xs (k+1)):=(hyo▸(hs.f.2.2.1))
  have q26:SlO 3 rqc rqd h21 szA tz:=(hs.f.1)
  have q27:RTs h21 tz (List.replicate (d (k+1)) (0:Rat)):=(hzo▸(hs.f.2.2.2.1))
  have q28:(k+1)≤ls.length:=by omega
  have q29:((at_+(usx.length*tx.length))+usx.length:Nat)≤(k+1)*300:=by omega
  have q30:ty.length≤syc:=hc19
  replace hs:=((((hs.tl.tl.tl.tl.tl.tl.tl.tl.tl.tl.tl.tl.add (K:=fun h_=>RTs h_ tz (List.replicate (d (k+1)) (0:Rat))) q27).add (K:=fun h_=>SlO 3 rqc rqd h_ szA tz) q26).add (K:=fun h_=>RTs h_ ty (outq ls xs (k+1))) q25).add (K:=fun h_=>SlO 3 rqc rqd h_ syA ty) q24)
  replace hs:=hs.drop 1 0
  refine ⟨_,_,?_,⟨k+1,syA,syc,ty,szA,szc,tz,((at_+(usx.length*tx.length))+usx.length:Nat),h21,rfl,rfl,hs.to _ _,q28,q29,q30⟩,ka.to [(2,.int .i64 (-1)),(3,.pointer (some ⟨b1,0,none⟩)),(6,.slice none 0 0),(7,.slice none 0 0),(10,.int .i64 ((k+1):Nat)),(1,.slice syA ty.length syc),(8,.slice szA tz.length szc),(9,.int .i64 (((at_+(usx.length*tx.length))+usx.length:Nat):Nat))] kR⟩
  omega
 have phb17:=oT hb17
 refine lB 40 hb17 ?_
 refine lN (cIT (CG.skipN (CG.seq (CG.block (CG.seq ?_)))))
 have hsr:=hs
 refine cR 14 [⟨13,16,.cells (List.toArray [.bool false,.slice none 0 0,.slice none 0 0]) 86 (0,0)⟩] mixed hs (al_cons (alOk kR (fun _ _=>by kernel_rfl)) al_nil) ?_
 refine eV 0 43 (.pointer (some ⟨b10,1,none⟩)) ?_
 refine eO 1 44 [(0,1,1)] (.slice AWx usx.length cWx) hs ?_
 refine eV 2 45 (.int .i64 (r:Nat)) ?_
 refine eX 3 46 AWx usx.length cWx 1 (r:Nat) r ((hs.f.2.2.2.2.2.1).ok oM) ?_
 obtain ⟨Arp,crp,trp,erp,hcrp,hRrp,hTrp⟩:=(hs.f.2.2.2.2.1).at_ r oM
 have hlrp:=hTrp.len
 replace hs:=((hs.a_SlO hRrp).add (K:=fun h_=>RTs h_ trp (((ls.getD k lay0).W).getD r [])) hTrp)
 refine eHe 4 47 (usx.getD r undef) hs ((hs.f.2.2.2.2.2.2.2.1).el r oM) erp ?_
 refine eV 5 48 (.slice Xa tx.length Xc) ?_
 refine eV 7 50 (.pointer (some ⟨b10,2,none⟩)) ?_
 refine eO 8 51 [(0,2,1)] (.slice ABx rsx.length cBx) hs ?_
 refine eV 9 52 (.int .i64 (r:Nat)) ?_
 refine eX 10 53 ABx rsx.length cBx 3 (r:Nat) r ((hs.f.2.2.2.2.2.1).ok oM) ?_
 obtain ⟨Ab,cb,Db,db,eb,hcb,hdb,hAb,hDb⟩:=(hs.f.2.2.2.2.1).at_ r oM
 replace hs:=((hs.a_SlO hAb).a_SlO hDb)
 refine eHe 11 54 (.agg #[.bool ((rsx.getD r rqd).1),(rsx.getD r rqd).2.1,(rsx.getD r rqd).2.2]) hs ((hs.f.2.2.2.2.2.2.2.1).el r oM) eb ?_
 refine eC 6 49 hs (fun _ _ hs=>rDotN Arp crp ((ls.getD k lay0).W.getD r []) trp Xa Xc (outq ls xs k) tx (outq ls xs k).length (by rw[mtx.row r oM,hlx]) oM 1000000 1000000 oM (dot_b1 (show (outq ls xs k).length≤20 by omega)) (hB.w k r) (hB.x k oM) _ _ hs.g (hs.f.2.2.2.1) (hs.f.2.2.1) (hs.f.2.2.2.2.2.2.2.2.2.2.1) (hs.f.2.2.2.2.2.2.2.2.2.2.2.1)) ?_
 rintro _ _ _ w39 h40 hs ⟨A31,c32,A35,c36,rfl,hc33,hc37,hA34,hA38⟩
 replace hs:=((hs.a_SlO hA34).a_SlO hA38)
 have hdt:LQ 41000000 (dotq ((ls.getD k lay0).W.getD r []) (outq ls xs k) (outq ls xs k).length):=(LQ.dot (n:=(outq ls xs k).length) (fun j _=>hB.w k r j) (fun j _=>hB.x k oM j) _ (Nat.le_refl _)).mono (dot_b2 (show (outq ls xs k).length≤20 by omega))
 have hq41:LQ (41000000+1000000+1) ((dotq ((ls.getD k lay0).W.getD r []) (outq ls xs k) (outq ls xs k).length)+(((ls.getD k lay0).B).getD r 0)):=LQ.add hdt (hB.b k r)
 refine eC 12 55 hs (fun _ _ hs=>rAdd (dotq ((ls.getD k lay0).W.getD r []) (outq ls xs k) (outq ls xs k).length) A31 c32 A35 c36 hc33 hc37 (LQ.ln (LQ.mono hdt oM)) (LQ.ld (LQ.mono hdt oM)) (((ls.getD k lay0).B).getD r 0) Ab cb Db db hcb hdb (LQ.ln (LQ.mono (hB.b k r) oM)) (LQ.ld (LQ.mono (hB.b k r) oM)) _ _ hs.g (hs.f.2.1) (hs.f.1) (hs.f.2.2.2.1) (hs.f.2.2.1)) ?_
 rintro _ _ _ w50 h51 hs ⟨A42,c43,A46,c47,rfl,hc44,hc48,hA45,hA49⟩
 replace hs:=((hs.a_SlO hA45).a_SlO hA49)
 refine eD1p [] hsr hs 86 [.bool false,.slice none 0 0,.slice none 0 0] (fun w52 h53 b54 hs=>?_)
 refine tP 14 0 0 ([.bool (ineg ((dotq ((ls.getD k lay0).W.getD r []) (outq ls xs k) (outq ls xs k).length)+(((ls.getD k lay0).B).getD r 0)).num),.slice A42 ((lim (iabs ((dotq ((ls.getD k lay0).W.getD r []) (outq ls xs k) (outq ls xs k).length)+(((ls.getD k lay0).B).getD r 0)).num)).length) c43,.slice A46 ((lim ((dotq ((ls.getD k lay0).W.getD r []) (outq ls xs k) (outq ls xs k).length)+(((ls.getD k lay0).B).getD r 0)).den).length) c47]) hs (fun w55 hs=>?_)
 refine tNS ?_
 refine lL hs [.v 56 (.pointer (some ⟨b10,1,none⟩)),.o 57 (.slice AWx usx.length cWx) 1 1 1,.m 58 15] (lX 59 AWx usx.length cWx 1 (r:Nat) r ((hs.f.2.2.2.2.2.2.2.2.2.2.2.2.2.1).ok oM) ?_)
 obtain ⟨Arq,crq,trq,erq,hcrq,hRrq,hTrq⟩:=(hs.f.2.2.2.2.2.2.2.2.2.2.2.2.1).at_ r oM
 have hlrq:=hTrq.len
 replace hs:=((hs.a_SlO hRrq).add (K:=fun h_=>RTs h_ trq (((ls.getD k lay0).W).getD r [])) hTrq)
 refine lHe 60 (usx.getD r undef) hs ((hs.f.2.2.2.2.2.2.2.2.2.2.2.2.2.2.2.1).el r oM) erq ?_
 refine lL hs [.m 61 8] (lC 62 hs (rDotN Arq crq ((ls.getD k lay0).W.getD r []) trq Da Dc (List.replicate (d k) (0:Rat)) td (outq ls xs k).length (by rw[mtx.row r oM,hlx]) (by rw[List.length_replicate];omega) 1000000 1 oM (dot_b3 (show (outq ls xs k).length≤20 by omega)) (hB.w k r) (fun i=>lqz i) _ _ hs.g (hs.f.2.1) (hs.f.1) (hs.f.2.2.2.2.2.2.2.2.2.2.2.2.2.2.2.2.2.2.1) (hs.f.2.2.2.2.2.2.2.2.2.2.2.2.2.2.2.2.2.2.2.1)) ?_)
 rintro _ w64 h65 hs ⟨A56,c57,A60,c61,rfl,hc58,hc62,hA59,hA63⟩
 replace hs:=((hs.a_SlO hA59).a_SlO hA63)
 have he0:dotq ((ls.getD k lay0).W.getD r []) (List.replicate (d k) (0:Rat)) (outq ls xs k).length=0:=dotq_zero _ _ rep_zero _
 have hde:LQ 1 (dotq ((ls.getD k lay0).W.getD r []) (List.replicate (d k) (0:Rat)) (outq ls xs k).length):=by rw[he0];exact lq0' 
 refine lA 17 86 ([.bool false,.slice none 0 0,.slice none 0 0]) hs (fun b66 w67 h68 hs=>?_)
 refine lP 0 0 ([.bool (ineg (dotq ((ls.getD k lay0).W.getD r []) (List.replicate (d k) (0:Rat)) (outq ls xs k).length).num),.slice A56 ((lim (iabs (dotq ((ls.getD k lay0).W.getD r []) (List.replicate (d k) (0:Rat)) (outq ls xs k).length).num)).length) c57,.slice A60 ((lim (dotq ((ls.getD k lay0).W.getD r []) (List.replicate (d k) (0:Rat)) (outq ls xs k).length).den).length) c61]) hs (fun w69 hs=>?_)
 refine lN (CG.seq (cSL ?_))
 have hrw:r*tx.length≤12*20:=Nat.mul_le_mul oM oM
 refine lL hs [.m 63 2,.m 64 9] (lI 65 ((-1)-(at_:Nat)) ?_)
 refine lL hs [.m 66 15,.m 67 14] (lIn 68 ((r:Nat)*(tx.length:Nat)) (r*tx.length) ?_)
 refine lI 69 (((-1)-(at_:Nat))-(r*tx.length:Nat)) ?_
 refine lL hs [.m 18 69] (lN (cTo [(2,.int .i64 (-1)),(3,.pointer (some ⟨b1,0,none⟩)),(6,.slice none 0 0),(7,.slice none 0 0),(10,.int .i64 (k:Nat)),(1,.slice Xa tx.length Xc),(8,.slice Da td.length Dc),(9,.int .i64 (at_:Nat)),(11,.pointer (some ⟨b10,0,none⟩)),(14,.int .i64 (tx.length:Nat)),(15,.int .i64 (r:Nat)),(12,.slice syA ((ty).length) syc),(13,.slice szA ((tz).length) szc),(16,.pointer (some ⟨b54,0,none⟩)),(17,.pointer (some ⟨b66,0,none⟩)),(18,.int .i64 (((-1)-(at_:Nat))-(r*tx.length:Nat)))] ?_))
 refine cSL (lL hs [.m 70 18] ?_)
 have ⟨hb70,phb70⟩:=dF (p:=(0:Int)≤(((-1)-(at_:Nat))-(r*tx.length:Nat):Int)) oM
 refine lB 71 hb70 ?_
 refine lL hs [.m 72 71] (lG 73 ?_)
 refine lG 74 ?_
 refine lG 75 ?_
 refine lL hs [.v 76 (.bool false),.m 77 76] (lG 78 ?_)
 refine lG 79 ?_
 refine lL hs [.v 80 (.bool false)] (lN (cIF (CG.skipN (CG.seq (cSL (lL hs [.m 87 2,.v 88 (.bool false),.m 89 88] (lG 90 ?_)))))))
 refine lG 91 ?_
 refine lG 92 ?_
 refine lG 93 ?_
 refine lG 94 ?_
 refine lG 95 ?_
 refine lG 96 ?_
 refine lG 97 ?_
 refine lG 98 ?_
 refine lG 99 ?_
 refine lG 100 ?_
 refine lL hs [.v 101 (.bool false)] (lN (cTo [(2,.int .i64 (-1)),(3,.pointer (some ⟨b1,0,none⟩)),(6,.slice none 0 0),(7,.slice none 0 0),(10,.int .i64 (k:Nat)),(1,.slice Xa tx.length Xc),(8,.slice Da td.length Dc),(9,.int .i64 (at_:Nat)),(11,.pointer (some ⟨b10,0,none⟩)),(14,.int .i64 (tx.length:Nat)),(15,.int .i64 (r:Nat)),(12,.slice syA ((ty).length) syc),(13,.slice szA ((tz).length) szc),(16,.pointer (some ⟨b54,0,none⟩)),(17,.pointer (some ⟨b66,0,none⟩)),(101,.bool false)] ?_))
 refine cIF (CG.skipN (cSL (lL hs [.v 106 (.pointer (some ⟨b10,0,none⟩)),.o 107 (.int .i64 ((ls.getD k lay0).k)) 2 0 1,.o 108 (.agg #[.bool (ineg ((dotq ((ls.getD k lay0).W.getD r []) (outq ls xs k) (outq ls xs k).length)+(((ls.getD k lay0).B).getD r 0)).num),.slice A42 ((lim (iabs ((dotq ((ls.getD k lay0).W.getD r []) (outq ls xs k) (outq ls xs k).length)+(((ls.getD k lay0).B).getD r 0)).num)).length) c43,.slice A46 ((lim ((dotq ((ls.getD k lay0).W.getD r []) (outq ls xs k) (outq ls xs k).length)+(((ls.getD k lay0).B).getD r 0)).den).length) c47]) 1 0 3,.o 109 (.agg #[.bool (ineg (dotq ((ls.getD k lay0).W.getD r []) (List.replicate (d k) (0:Rat)) (outq ls xs k).length).num),.slice A56 ((lim (iabs (dotq ((ls.getD k lay0).W.getD r []) (List.replicate (d k) (0:Rat)) (outq ls xs k).length).num)).length) c57,.slice A60 ((lim (dotq ((ls.getD k lay0).W.getD r []) (List.replicate (d k) (0:Rat)) (outq ls xs k).length).den).length) c61]) 0 0 3] (lC 110 hs (rBent (ls.getD k lay0).k kdx (((dotq ((ls.getD k lay0).W.getD r []) (outq ls xs k) (outq ls xs k).length)+(((ls.getD k lay0).B).getD r 0))) ((dotq ((ls.getD k lay0).W.getD r []) (List.replicate (d k) (0:Rat)) (outq ls xs k).length)) (LQ.mono (LQ.add hdt (hB.b k r)) oM) (hde.mono oM) A42 c43 A46 c47 hc44 hc48 A56 c57 A60 c61 hc58 hc62 _ _ hs.g (hs.f.2.2.2.2.2.1) (hs.f.2.2.2.2.1) (hs.f.2.1) (hs.f.1)) ?_))))
 rintro _ w87 h88 hs ⟨_,_,rfl,⟨A71,c72,A75,c76,rfl,hc73,hc77,hA74,hA78⟩,⟨A79,c80,A83,c84,rfl,hc81,hc85,hA82,hA86⟩⟩
 replace hs:=((((hs.a_SlO hA74).a_SlO hA78).a_SlO hA82).a_SlO hA86)
 refine lL hs [.m 105 110,.v 111 (.agg #[.bool (ineg (act (ls.getD k lay0).k ((dotq ((ls.getD k lay0).W.getD r []) (outq ls xs k) (outq ls xs k).length)+(((ls.getD k lay0).B).getD r 0))).num),.slice A71 ((lim (iabs (act (ls.getD k lay0).k ((dotq ((ls.getD k lay0).W.getD r []) (outq ls xs k) (outq ls xs k).length)+(((ls.getD k lay0).B).getD r 0))).num)).length) c72,.slice A75 ((lim (act (ls.getD k lay0).k ((dotq ((ls.getD k lay0).W.getD r []) (outq ls xs k) (outq ls xs k).length)+(((ls.getD k lay0).B).getD r 0))).den).length) c76]),.v 112 (.agg #[.bool (ineg (slq (ls.getD k lay0).k ((dotq ((ls.getD k lay0).W.getD r []) (outq ls xs k) (outq ls xs k).length)+(((ls.getD k lay0).B).getD r 0)) (dotq ((ls.getD k lay0).W.getD r []) (List.replicate (d k) (0:Rat)) (outq ls xs k).length)).num),.slice A79 ((lim (iabs (slq (ls.getD k lay0).k ((dotq ((ls.getD k lay0).W.getD r []) (outq ls xs k) (outq ls xs k).length)+(((ls.getD k lay0).B).getD r 0)) (dotq ((ls.getD k lay0).W.getD r []) (List.replicate (d k) (0:Rat)) (outq ls xs k).length)).num)).length) c80,.slice A83 ((lim (slq (ls.getD k lay0).k ((dotq ((ls.getD k lay0).W.getD r []) (outq ls xs k) (outq ls xs k).length)+(((ls.getD k lay0).B).getD r 0)) (dotq ((ls.getD k lay0).W.getD r []) (List.replicate (d k) (0:Rat)) (outq ls xs k).length)).den).length) c84])] (lP 1 0 ([.bool (ineg (act (ls.getD k lay0).k ((dotq ((ls.getD k lay0).W.getD r []) (outq ls xs k) (outq ls xs k).length)+(((ls.getD k lay0).B).getD r 0))).num),.slice A71 ((lim (iabs (act (ls.getD k lay0).k ((dotq ((ls.getD k lay0).W.getD r []) (outq ls xs k) (outq ls xs k).length)+(((ls.getD k lay0).B).getD r 0))).num)).length) c72,.slice A75 ((lim (act (ls.getD k lay0).k ((dotq ((ls.getD k lay0).W.getD r []) (outq ls xs k) (outq ls xs k).length)+(((ls.getD k lay0).B).getD r 0))).den).length) c76]) hs (fun w89 hs=>?_))
 refine lP 0 0 ([.bool (ineg (slq (ls.getD k lay0).k ((dotq ((ls.getD k lay0).W.getD r []) (outq ls xs k) (outq ls xs k).length)+(((ls.getD k lay0).B).getD r 0)) (dotq ((ls.getD k lay0).W.getD r []) (List.replicate (d k) (0:Rat)) (outq ls xs k).length)).num),.slice A79 ((lim (iabs (slq (ls.getD k lay0).k ((dotq ((ls.getD k lay0).W.getD r []) (outq ls xs k) (outq ls xs k).length)+(((ls.getD k lay0).B).getD r 0)) (dotq ((ls.getD k lay0).W.getD r []) (List.replicate (d k) (0:Rat)) (outq ls xs k).length)).num)).length) c80,.slice A83 ((lim (slq (ls.getD k lay0).k ((dotq ((ls.getD k lay0).W.getD r []) (outq ls xs k) (outq ls xs k).length)+(((ls.getD k lay0).B).getD r 0)) (dotq ((ls.getD k lay0).W.getD r []) (List.replicate (d k) (0:Rat)) (outq ls xs k).length)).den).length) c84]) hs (fun w90 hs=>?_)
 refine lNS (lL hs [.m 113 12,.o 114 (.agg #[.bool (ineg (act (ls.getD k lay0).k ((dotq ((ls.getD k lay0).W.getD r []) (outq ls xs k) (outq ls xs k).length)+(((ls.getD k lay0).B).getD r 0))).num),.slice A71 ((lim (iabs (act (ls.getD k lay0).k ((dotq ((ls.getD k lay0).W.getD r []) (outq ls xs k) (outq ls xs k).length)+(((ls.getD k lay0).B).getD r 0))).num)).length) c72,.slice A75 ((lim (act (ls.getD k lay0).k ((dotq ((ls.getD k lay0).W.getD r []) (outq ls xs k) (outq ls xs k).length)+(((ls.getD k lay0).B).getD r 0))).den).length) c76]) 1 0 3] (lR 115 86 1 ([.bool (ineg (act (ls.getD k lay0).k ((dotq ((ls.getD k lay0).W.getD r []) (outq ls xs k) (outq ls xs k).length)+(((ls.getD k lay0).B).getD r 0))).num),.slice A71 ((lim (iabs (act (ls.getD k lay0).k ((dotq ((ls.getD k lay0).W.getD r []) (outq ls xs k) (outq ls xs k).length)+(((ls.getD k lay0).B).getD r 0))).num)).length) c72,.slice A75 ((lim (act (ls.getD k lay0).k ((dotq ((ls.getD k lay0).W.getD r []) (outq ls xs k) (outq ls xs k).length)+(((ls.getD k lay0).B).getD r 0))).den).length) c76]) hs (fun b91 w92 h93 hs=>?_)))
 refine lY 116 0 86 3 syc syA ty rqc ((ineg (act (ls.getD k lay0).k ((dotq ((ls.getD k lay0).W.getD r []) (outq ls xs k) (outq ls xs k).length)+(((ls.getD k lay0).B).getD r 0))).num,.slice A71 ((lim (iabs (act (ls.getD k lay0).k ((dotq ((ls.getD k lay0).W.getD r []) (outq ls xs k) (outq ls xs k).length)+(((ls.getD k lay0).B).getD r 0))).num)).length) c72,.slice A75 ((lim (act (ls.getD k lay0).k ((dotq ((ls.getD k lay0).W.getD r []) (outq ls xs k) (outq ls xs k).length)+(((ls.getD k lay0).B).getD r 0))).den).length) c76):RT) 56 b91 (.agg #[.bool false,.slice none 0 0,.slice none 0 0]) hs (hs.f.1) (fun A95 c96 w97 h98 hs=>?_)
 refine lL hs [.m 12 116] (lN (CG.listed (lL hs [.m 117 13,.o 118 (.agg #[.bool (ineg (slq (ls.getD k lay0).k ((dotq ((ls.getD k lay0).W.getD r []) (outq ls xs k) (outq ls xs k).length)+(((ls.getD k lay0).B).getD r 0)) (dotq ((ls.getD k lay0).W.getD r []) (List.replicate (d k) (0:Rat)) (outq ls xs k).length)).num),.slice A79 ((lim (iabs (slq (ls.getD k lay0).k ((dotq ((ls.getD k lay0).W.getD r []) (outq ls xs k) (outq ls xs k).length)+(((ls.getD k lay0).B).getD r 0)) (dotq ((ls.getD k lay0).W.getD r []) (List.replicate (d k) (0:Rat)) (outq ls xs k).length)).num)).length) c80,.slice A83 ((lim (slq (ls.getD k lay0).k ((dotq ((ls.getD k lay0).W.getD r []) (outq ls xs k) (outq ls xs k).length)+(((ls.getD k lay0).B).getD r 0)) (dotq ((ls.getD k lay0).W.getD r []) (List.replicate (d k) (0:Rat)) (outq ls xs k).length)).den).length) c84]) 0 0 3] (lR 119 86 1 ([.bool (ineg (slq (ls.getD k lay0).k ((dotq ((ls.getD k lay0).W.getD r []) (outq ls xs k) (outq ls xs k).length)+(((ls.getD k lay0).B).getD r 0)) (dotq ((ls.getD k lay0).W.getD r []) (List.replicate (d k) (0:Rat)) (outq ls xs k).length)).num),.slice A79 ((lim (iabs (slq (ls.getD k lay0).k ((dotq ((ls.getD k lay0).W.getD r []) (outq ls xs k) (outq ls xs k).length)+(((ls.getD k lay0).B).getD r 0)) (dotq ((ls.getD k lay0).W.getD r []) (List.replicate (d k) (0:Rat)) (outq ls xs k).length)).num)).length) c80,.slice A83 ((lim (slq (ls.getD k lay0).k ((dotq ((ls.getD k lay0).W.getD r []) (outq ls xs k) (outq ls xs k).length)+(((ls.getD k lay0).B).getD r 0)) (dotq ((ls.getD k lay0).W.getD r []) (List.replicate (d k) (0:Rat)) (outq ls xs k).length)).den).length) c84]) hs (fun b100 w101 h102 hs=>?_)))))
 refine lY 120 1 86 3 szc szA tz rqc ((ineg (slq (ls.getD k lay0).k ((dotq ((ls.getD k lay0).W.getD r []) (outq ls xs k) (outq ls xs k).length)+(((ls.getD k lay0).B).getD r 0)) (dotq ((ls.getD k lay0).W.getD r []) (List.replicate (d k) (0:Rat)) (outq ls xs k).length)).num,.slice A79 ((lim (iabs (slq (ls.getD k lay0).k ((dotq ((ls.getD k lay0).W.getD r []) (outq ls xs k) (outq ls xs k).length)+(((ls.getD k lay0).B).getD r 0)) (dotq ((ls.getD k lay0).W.getD r []) (List.replicate (d k) (0:Rat)) (outq ls xs k).length)).num)).length) c80,.slice A83 ((lim (slq (ls.getD k lay0).k ((dotq ((ls.getD k lay0).W.getD r []) (outq ls xs k) (outq ls xs k).length)+(((ls.getD k lay0).B).getD r 0)) (dotq ((ls.getD k lay0).W.getD r []) (List.replicate (d k) (0:Rat)) (outq ls xs k).length)).den).length) c84):RT) 56 b100 (.agg #[.bool false,.slice none 0 0,.slice none 0 0]) hs (hs.f.1) (fun A104 c105 w106 h107 hs=>?_)
 refine lL hs [.m 13 120] (lN (CG.listed (lL hs [.m 41 15] (lIn 42 ((r:Nat)+1) (r+1) ?_))))
 refine lL hs [.m 15 42] (lD ?_)
 intro a_ ka
 have q109:RTs h107 (ty++[((ineg (act (ls.getD k lay0).k ((dotq ((ls.getD k lay0).W.getD r []) (outq ls xs k) (outq ls xs k).length)+(((ls.getD k lay0).B).getD r 0))).num,.slice A71 ((lim (iabs (act (ls.getD k lay0).k ((dotq ((ls.getD k lay0).W.getD r []) (outq ls xs k) (outq ls xs k).length)+(((ls.getD k lay0).B).getD r 0))).num)).length) c72,.slice A75 ((lim (act (ls.getD k lay0).k ((dotq ((ls.getD k lay0).W.getD r []) (outq ls xs k) (outq ls xs k).length)+(((ls.getD k lay0).B).getD r 0))).den).length) c76):RT)]) (yl++[act (ls.getD k lay0).k (dotq ((ls.getD k lay0).W.getD r []) (outq ls xs k) (outq ls xs k).length+((ls.getD k lay0).B).getD r 0)]):=(RTs.snoc (hs.f.2.2.2.2.2.2.2.2.2.2.2.2.2.2.2.2.2.2.1) (rqOk hc73 hc77 (hs.f.2.2.2.2.2.1) (hs.f.2.2.2.2.1)))
 have q110:RTs h107 (tz++[((ineg (slq (ls.getD k lay0).k ((dotq ((ls.getD k lay0).W.getD r []) (outq ls xs k) (outq ls xs k).length)+(((ls.getD k lay0).B).getD r 0)) (dotq ((ls.getD k lay0).W.getD r []) (List.replicate (d k) (0:Rat)) (outq ls xs k).length)).num,.slice A79 ((lim (iabs (slq (ls.getD k lay0).k ((dotq ((ls.getD k lay0).W.getD r []) (outq ls xs k) (outq ls xs k).length)+(((ls.getD k lay0).B).getD r 0)) (dotq ((ls.getD k lay0).W.getD r []) (List.replicate (d k) (0:Rat)) (outq ls xs k).length)).num)).length) c80,.slice A83 ((lim (slq (ls.getD k lay0).k ((dotq ((ls.getD k lay0).W.getD r []) (outq ls xs k) (outq ls xs k).length)+(((ls.getD k lay0).B).getD r 0)) (dotq ((ls.getD k lay0).W.getD r []) (List.replicate (d k) (0:Rat)) (outq ls xs k).length)).den).length) c84):RT)]) (List.replicate (r+1) 0):=(by rw[List.replicate_succ'];exact RTs.snoc (hs.f.2.2.2.2.2.2.2.2.2.2.2.2.2.2.2.2.2.2.2.1) (RQ.eq (rqOk hc81 hc85 (hs.f.2.2.2.1) (hs.f.2.2.1)) (by rw[he0,slq_zero])))
 have q111:(r+1)≤usx.length:=by omega
 have q112:(yl++[act (ls.getD k lay0).k (dotq ((ls.getD k lay0).W.getD r []) (outq ls xs k) (outq ls xs k).length+((ls.getD k lay0).B).getD r 0)])=(List.range (r+1)).map (fun i=>act (ls.getD k lay0).k (dotq ((ls.getD k lay0).W.getD i []) (outq ls xs k) (outq ls xs k).length+(ls.getD k lay0).B.getD i 0)):=by rw[List.range_succ,List.map_append,hyl];rfl
 replace hs:=((hs.tl.tl.tl.tl.tl.tl.tl.tl.tl.tl.tl.tl.tl.tl.tl.tl.tl.tl.tl.tl.add (K:=fun h_=>RTs h_ (tz++[((ineg (slq (ls.getD k lay0).k ((dotq ((ls.getD k lay0).W.getD r []) (outq ls xs k) (outq ls xs k).length)+(((ls.getD k lay0).B).getD r 0)) (dotq ((ls.getD k lay0).W.getD r []) (List.replicate (d k) (0:Rat)) (outq ls xs k).length)).num,.slice A79 ((lim (iabs (slq (ls.getD k lay0).k ((dotq ((ls.getD k lay0).W.getD r []) (outq ls xs k) (outq ls xs k).length)+(((ls.getD k lay0).B).getD r 0)) (dotq ((ls.getD k lay0).W.getD r []) (List.replicate (d k) (0:Rat)) (outq ls xs k).length)).num)).length) c80,.slice A83 ((lim (slq (ls.getD k lay0).k ((dotq ((ls.getD k lay0).W.getD r []) (outq ls xs k) (outq ls xs k).length)+(((ls.getD k lay0).B).getD r 0)) (dotq ((ls.getD k lay0).W.getD r []) (List.replicate (d k) (0:Rat)) (outq ls xs k).length)).den).length) c84):RT)]) (List.replicate (r+1) 0)) q110).add (K:=fun h_=>RTs h_ (ty++[((ineg (act (ls.getD k lay0).k ((dotq ((ls.getD k lay0).W.getD r []) (outq ls xs k) (outq ls xs k).length)+(((ls.getD k lay0).B).getD r 0))).num,.slice A71 ((lim (iabs (act (ls.getD k lay0).k ((dotq ((ls.getD k lay0).W.getD r []) (outq ls xs k) (outq ls xs k).length)+(((ls.getD k lay0).B).getD r 0))).num)).length) c72,.slice A75 ((lim (act (ls.getD k lay0).k ((dotq ((ls.getD k lay0).W.getD r []) (outq ls xs k) (outq ls xs k).length)+(((ls.getD k lay0).B).getD r 0))).den).length) c76):RT)]) (yl++[act (ls.getD k lay0).k (dotq ((ls.getD k lay0).W.getD r []) (outq ls xs k) (outq ls xs k).length+((ls.getD k lay0).B).getD r 0)])) q109)
 replace hs:=hs.drop 2 0
 refine ⟨_,_,?_,⟨r+1,A95,c96,ty++[((ineg (act (ls.getD k lay0).k ((dotq ((ls.getD k lay0).W.getD r []) (outq ls xs k) (outq ls xs k).length)+(((ls.getD k lay0).B).getD r 0))).num,.slice A71 ((lim (iabs (act (ls.getD k lay0).k ((dotq ((ls.getD k lay0).W.getD r []) (outq ls xs k) (outq ls xs k).length)+(((ls.getD k lay0).B).getD r 0))).num)).length) c72,.slice A75 ((lim (act (ls.getD k lay0).k ((dotq ((ls.getD k lay0).W.getD r []) (outq ls xs k) (outq ls xs k).length)+(((ls.getD k lay0).B).getD r 0))).den).length) c76):RT)],yl++[act (ls.getD k lay0).k (dotq ((ls.getD k lay0).W.getD r []) (outq ls xs k) (outq ls xs k).length+((ls.getD k lay0).B).getD r 0)],A104,c105,tz++[((ineg (slq (ls.getD k lay0).k ((dotq ((ls.getD k lay0).W.getD r []) (outq ls xs k) (outq ls xs k).length)+(((ls.getD k lay0).B).getD r 0)) (dotq ((ls.getD k lay0).W.getD r []) (List.replicate (d k) (0:Rat)) (outq ls xs k).length)).num,.slice A79 ((lim (iabs (slq (ls.getD k lay0).k ((dotq ((ls.getD k lay0).W.getD r []) (outq ls xs k) (outq ls xs k).length)+(((ls.getD k lay0).B).getD r 0)) (dotq ((ls.getD k lay0).W.getD r []) (List.replicate (d k) (0:Rat)) (outq ls xs k).length)).num)).length) c80,.slice A83 ((lim (slq (ls.getD k lay0).k ((dotq ((ls.getD k lay0).W.getD r []) (outq ls xs k) (outq ls xs k).length)+(((ls.getD k lay0).B).getD r 0)) (dotq ((ls.getD k lay0).W.getD r []) (List.replicate (d k) (0:Rat)) (outq ls xs k).length)).den).length) c84):RT)],h107,rfl,rfl,hs.to _ _,q111,q112⟩,ka.to [(2,.int .i64 (-1)),(3,.pointer (some ⟨b1,0,none⟩)),(6,.slice none 0 0),(7,.slice none 0 0),(10,.int .i64 (k:Nat)),(1,.slice Xa tx.length Xc),(8,.slice Da td.length Dc),(9,.int .i64 (at_:Nat)),(11,.pointer (some ⟨b10,0,none⟩)),(14,.int .i64 (tx.length:Nat)),(15,.int .i64 ((r+1):Nat)),(12,.slice A95 (((ty++[((ineg (act (ls.getD k lay0).k ((dotq ((ls.getD k lay0).W.getD r []) (outq ls xs k) (outq ls xs k).length)+(((ls.getD k lay0).B).getD r 0))).num,.slice A71 ((lim (iabs (act (ls.getD k lay0).k ((dotq ((ls.getD k lay0).W.getD r []) (outq ls xs k) (outq ls xs k).length)+(((ls.getD k lay0).B).getD r 0))).num)).length) c72,.slice A75 ((lim (act (ls.getD k lay0).k ((dotq ((ls.getD k lay0).W.getD r []) (outq ls xs k) (outq ls xs k).length)+(((ls.getD k lay0).B).getD r 0))).den).length) c76):RT)])).length) c96),(13,.slice A104 (((tz++[((ineg (slq (ls.getD k lay0).k ((dotq ((ls.getD k lay0).W.getD r []) (outq ls xs k) (outq ls xs k).length)+(((ls.getD k lay0).B).getD r 0)) (dotq ((ls.getD k lay0).W.getD r []) (List.replicate (d k) (0:Rat)) (outq ls xs k).length)).num,.slice A79 ((lim (iabs (slq (ls.getD k lay0).k ((dotq ((ls.getD k lay0).W.getD r []) (outq ls xs k) (outq ls xs k).length)+(((ls.getD k lay0).B).getD r 0)) (dotq ((ls.getD k lay0).W.getD r []) (List.replicate (d k) (0:Rat)) (outq ls xs k).length)).num)).length) c80,.slice A83 ((lim (slq (ls.getD k lay0).k ((dotq ((ls.getD k lay0).W.getD r []) (outq ls xs k) (outq ls xs k).length)+(((ls.getD k lay0).B).getD r 0)) (dotq ((ls.getD k lay0).W.getD r []) (List.replicate (d k) (0:Rat)) (outq ls xs k).length)).den).length) c84):RT)])).length) c105)] kR⟩
 omega
theorem chkFrom_ok {ls:List Lay}:∀ (n k:Nat),chkFrom ls k n=0→∀ i,k≤i→i<k+n→Fine ls i∧Kd ls i
  | 0,k,_,i,h1,h2=>absurd h2 oM
  | n + 1,k,h,i,h1,h2=>by
    unfold chkFrom at h
    split at h
    · rename_i hf
      split at h
      · rename_i hd
        by_cases e:i=k
        · subst e;exact ⟨hf,hd⟩
        · exact chkFrom_ok n (k+1) h i oM oM
      · exact absurd h kD
    · exact absurd h kD
def dOf (ls:List Lay)(i:Nat):Nat:=if i=0 then ((ls.getD 0 lay0).W.getD 0 []).length else (ls.getD (i-1) lay0).W.length
theorem chk_net3 {ls:List Lay}(h:chkq ls=0):Net3 ls (dOf ls):=by
  unfold chkq at h
  split at h
  · rename_i hl
    have H:=chkFrom_ok ls.length 0 h
    refine ⟨hl,?_,fun i hi=>?_⟩
    · obtain ⟨⟨_,_,_,f4,_⟩,_⟩:=H 0 oM oM
      show (if 0=0 then _ else _)≤20
      rw[if_pos rfl];exact f4 rfl
    · obtain ⟨⟨f1,f2,f3,f4,f5⟩,k1,k2⟩:=H i oM oM
      obtain ⟨r1,r2,r3⟩:=f1
      have e1:dOf ls (i+1)=(ls.getD i lay0).W.length:=by show (if i+1=0 then _ else _)=_;rw[if_neg oM];rfl
      have e2:((ls.getD i lay0).W.getD 0 []).length=dOf ls i:=by
        by_cases h0:i=0
        · subst h0;show _=(if 0=0 then _ else _);rw[if_pos rfl]
        · rw[f5 oM];show _=(if i=0 then _ else _);rw[if_neg h0]
      rw[e1]
      refine ⟨⟨rfl,r1,by rw[←e2];exact r2,fun j hj=>by rw[←e2];exact r3 j hj⟩,f3,f2,by omega⟩
  · exact absurd h kD
structure LaySz (L:Lay):Prop where
  rl:L.W.length≤8
  rls:∀ i,(L.W.getD i []).length≤8
  bl:L.B.length≤8
  w:∀ i j,LQ 1 ((L.W.getD i []).getD j 0)
  b:∀ i,LQ 1 (L.B.getD i 0)
theorem LaySz.fit {L:Lay}(h:LaySz L):LayFit L:=⟨by have:=h.rl;omega,fun i _=>by have:=h.rls i;omega,fun i _ j _=>(h.w i j).mono oM,by have:=h.bl;omega,fun i _=>(h.b i).mono oM⟩
theorem LaySz.len {L:Lay}(h:LaySz L):LayLen L:=⟨by have:=h.rl;omega,fun i _=>by have:=h.rls i;omega,by have:=h.bl;omega⟩
theorem lq0 {k:Nat}(h:1≤k):LQ k 0:=(LQ.lit (z:=0) kD).mono h
def grow:Nat→Nat
  | 0=>1
  | k+1=>16*grow k+40
theorem layq_lq {L:Lay}{x:List Rat}{m:Nat}(h:LaySz L)(hx:∀ j,LQ m (x.getD j 0))(hl:x.length≤8)(hm:1≤m)(j:Nat):LQ (16*m+40) ((layq L x).getD j 0):=by
  unfold layq
  by_cases hj:j<L.W.length
  · rw[List.getD_eq_getElem?_getD,List.getElem?_eq_getElem (by simpa using hj),List.getElem_map,List.getElem_range]
    show LQ _ (act _ _)
    have h1:=LQ.dot (n:=x.length) (fun i _=>h.w j i) (fun i _=>hx i) x.length (Nat.le_refl _)
    have h2:=(h1.add (h.b j)).mono (l:=8*m+19) (by
      have:x.length*(1+m+1)≤8*(1+m+1):=Nat.mul_le_mul_right _ hl
      omega)
    exact (LQ.act _ h2 oM).mono oM
  · rw[List.getD_eq_getElem?_getD,List.getElem?_eq_none (by simpa using hj)]
    exact lq0 oM
theorem outq_lq {ls:List Lay}{d:Nat→Nat}(o:Net3 ls d)(hL:∀ k,LaySz (ls.getD k lay0)){xs:List Rat}(hx:xs.length=d 0)(hq:∀ j,LQ 1 (xs.getD j 0)):∀ k,k≤ls.length→∀ j,LQ (grow k) ((outq ls xs k).getD j 0)
  | 0,_,j=>hq j
  | k + 1,hk,j=>by
    show LQ (16*grow k+40) ((layq _ _).getD j 0)
    refine layq_lq (hL k) (outq_lq o hL hx hq k oM) ?_ ?_ j
    · rw[outq_len o hx k oM]
      have h0:=(o.lay k oM).1.row 0 (o.lay k oM).1.rpos
      have:=(hL k).rls 0
      omega
    · cases k with
      | zero=>exact Nat.le_refl _
      | succ k=>show 1≤16*grow k+40;omega
theorem grow_le (k:Nat)(h:k≤4):grow k≤1000000:=by
  have:k=0∨k=1∨k=2∨k=3∨k=4:=by omega
  rcases this with rfl|rfl|rfl|rfl|rfl<;>decide
theorem lay0_sz:LaySz lay0:=⟨by decide,fun i=>by simp[lay0],by decide,fun i j=>by simp[lay0];exact lq0 oM,fun i=>by simp[lay0];exact lq0 oM⟩
theorem netB {ls:List Lay}{d:Nat→Nat}(o:Net3 ls d)(hL:∀ k,LaySz (ls.getD k lay0)){xs:List Rat}(hx:xs.length=d 0)(hq:∀ j,LQ 1 (xs.getD j 0)):NetB ls xs :=
  ⟨fun k i j=>((hL k).w i j).mono oM,fun k i=>((hL k).b i).mono oM,fun k hk j=>(outq_lq o hL hx hq k hk j).mono (grow_le k (by have:=o.len.2;omega))⟩
noncomputable def ansE (ls:List Lay)(xs:List Rat):Int:=if chkq ls=0 then (if xs.length=dOf ls 0 then 0 else 5) else 1
noncomputable def ansL (ls:List Lay)(xs:List Rat):List Rat:=if chkq ls=0∧xs.length=dOf ls 0 then outq ls xs ls.length else []
def topF (l:List Rat):Nat→Nat
  | 0=>0
  | k+1=>if 0<cmpR (l.getD k 0) (l.getD (topF l k) 0) then k else topF l k
theorem topF_le (l:List Rat):∀ k,topF l k≤k
  | 0=>Nat.le_refl _
  | k+1=>by unfold topF;split;omega;have:=topF_le l k;omega
theorem topF_lt (l:List Rat)(k:Nat)(h:0<k):topF l k<k:=by
  induction k with
  | zero=>omega
  | succ k ih =>
    unfold topF;split
    · omega
    · rcases Nat.eq_zero_or_pos k with h0|h0
      · subst h0;exact Nat.zero_lt_one
      · have:=ih h0;omega
theorem topF_one (l:List Rat):topF l 1=0:=by show (if 0<cmpR (l.getD 0 0) (l.getD 0 0) then 0 else 0)=0;split<;>rfl
theorem topF_t {l:List Rat}{k:Nat}(h:0<cmpR (l.getD k 0) (l.getD (topF l k) 0)):topF l (k+1)=k:=by show (if _ then _ else _)=_;rw[if_pos h]
theorem topF_f {l:List Rat}{k:Nat}(h:¬0<cmpR (l.getD k 0) (l.getD (topF l k) 0)):topF l (k+1)=topF l k:=by show (if _ then _ else _)=_;rw[if_neg h]
noncomputable def clsq (ls:List Lay)(xs:List Rat):Int:=if chkq ls=0∧xs.length=dOf ls 0 then ((topF (ansL ls xs) (ansL ls xs).length:Nat):Int) else 0
theorem ansE0 {ls:List Lay}{xs:List Rat}(h1:chkq ls=0)(h2:xs.length=dOf ls 0):ansE ls xs=0:=by unfold ansE;rw[if_pos h1,if_pos h2]
theorem ansE1 {ls:List Lay}{xs:List Rat}(h1:chkq ls≠0):ansE ls xs=1:=by unfold ansE;rw[if_neg h1]
theorem ansE5 {ls:List Lay}{xs:List Rat}(h1:chkq ls=0)(h2:xs.length≠dOf ls 0):ansE ls xs=5:=by unfold ansE;rw[if_pos h1,if_neg h2]
theorem ansL0 {ls:List Lay}{xs:List Rat}(h1:chkq ls=0)(h2:xs.length=dOf ls 0):ansL ls xs=outq ls xs ls.length:=by unfold ansL;rw[if_pos ⟨h1,h2⟩]
theorem ansL1 {ls:List Lay}{xs:List Rat}(h:¬(chkq ls=0∧xs.length=dOf ls 0)):ansL ls xs=[]:=by unfold ansL;rw[if_neg h]
theorem bneF' {a b:Int}(h:a=b):((a:Int) != (b:Int))=false:=by simpa using h
theorem nAnswer1 (A:Option Addr)(cap:Nat)(ts:List LV)(ls:List Lay)(hn:ls.length≤1000000)(hF:∀ i,i<ls.length→LayLen (ls.getD i lay0))(X:Option Addr)(c0:Nat)(xs:List Rat)(hc0:xs.length≤c0)(hB:chkq ls=0→xs.length=dOf ls 0→NetB ls xs)(h1:chkq ls≠0)(w:World)(h:Hp)(g:G w h)(hA:SlO 3 lvc lvd h A ts)(hN:NetL h ts ls)(hX:SlO 5 qc 0 h X xs)(tb:Tab h) :
    Calls Tryz.prog 26 #[.agg #[.slice A ts.length cap],.slice X xs.length c0] w (Ret w h fun v h1=>∃ A c,v=.tuple #[.slice A (ansL ls xs).length c,.int .i64 (ansE ls xs)]∧(ansL ls xs).length≤c∧SlO 5 qc 0 h1 A (ansL ls xs)):=by
 have hs:=SS.start g
 replace hs:=((((hs.a_SlO hA).add (K:=fun h_=>NetL h_ ts ls) hN).a_SlO hX).add (K:=fun h_=>Tab h_) tb)
 refine go Tryz.func26 [(0,.agg #[.slice A ts.length cap]),(1,.slice X xs.length c0)] rfl ?_
 refine cSL (lA 2 57 ([.slice A ts.length cap]) hs (fun b1 w2 h3 hs=>?_))
 refine lL hs [.v 4 (.slice none 0 0),.v 5 (.int .i64 0)] (lN (CG.seq (cSL (lL hs [.o 6 (.agg #[.slice A ts.length cap]) 0 0 1] (lC 7 hs (nCheckG A cap ts ls hn hF _ _ hs.g (hs.f.2.2.2.1) (hs.f.2.2.1)) ?_)))))
 rintro _ w4 h5 hs rfl
 have hb6:((chkq ls:Int) != (0:Int))=true:=bneT h1
 have phb6:=neOfBne hb6
 refine lB 8 hb6 ?_
 exact lN (cIT (cSL (lL hs [.v 4 (.slice none 0 0),.v 5 (.int .i64 1)] (lN (CG.ret (hs.ret [] (.tuple #[.slice none 0 0,.int .i64 1]) (⟨none,0,by rw[ansE1 h1,ansL1 (fun e=>h1 e.1)];rfl,by rw[ansL1 (fun e=>h1 e.1)];exact Nat.le_refl _,by rw[ansL1 (fun e=>h1 e.1)];exact SlO.nil⟩)))))))
theorem nAnswer5 (A:Option Addr)(cap:Nat)(ts:List LV)(ls:List Lay)(hn:ls.length≤1000000)(hF:∀ i,i<ls.length→LayLen (ls.getD i lay0))(X:Option Addr)(c0:Nat)(xs:List Rat)(hc0:xs.length≤c0)(hB:chkq ls=0→xs.length=dOf ls 0→NetB ls xs)(h1:chkq ls=0)(h2:xs.length≠dOf ls 0)(w:World)(h:Hp)(g:G w h)(hA:SlO 3 lvc lvd h A ts)(hN:NetL h ts ls)(hX:SlO 5 qc 0 h X xs)(tb:Tab h) :
    Calls Tryz.prog 26 #[.agg #[.slice A ts.length cap],.slice X xs.length c0] w (Ret w h fun v h1=>∃ A c,v=.tuple #[.slice A (ansL ls xs).length c,.int .i64 (ansE ls xs)]∧(ansL ls xs).length≤c∧SlO 5 qc 0 h1 A (ansL ls xs)):=by
 have hs:=SS.start g
 replace hs:=((((hs.a_SlO hA).add (K:=fun h_=>NetL h_ ts ls) hN).a_SlO hX).add (K:=fun h_=>Tab h_) tb)
 refine go Tryz.func26 [(0,.agg #[.slice A ts.length cap]),(1,.slice X xs.length c0)] rfl ?_
 refine cSL (lA 2 57 ([.slice A ts.length cap]) hs (fun b1 w2 h3 hs=>?_))
 refine lL hs [.v 4 (.slice none 0 0),.v 5 (.int .i64 0)] (lN (CG.seq (cSL (lL hs [.o 6 (.agg #[.slice A ts.length cap]) 0 0 1] (lC 7 hs (nCheckG A cap ts ls hn hF _ _ hs.g (hs.f.2.2.2.1) (hs.f.2.2.1)) ?_)))))
 rintro _ w4 h5 hs rfl
 have hb6:((chkq ls:Int) != (0:Int))=false:=bneF' h1
 have phb6:=eqOfBne hb6
 refine lB 8 hb6 ?_
 refine lN (cIF (CG.skipN (CG.seq (cSL (lL hs [.o 9 (.agg #[.slice A ts.length cap]) 0 0 1,.m 10 1] (lC 11 hs (nSuitsF A cap ts ls (dOf ls) (chk_net3 h1) X c0 xs h2 _ _ hs.g (hs.f.2.2.2.1) (hs.f.2.2.1) (hs.f.2.1)) ?_))))))
 rintro _ w7 h8 hs rfl
 exact lL hs [.v 12 (.bool true)] (lN (cIT (cSL (lL hs [.v 4 (.slice none 0 0),.v 5 (.int .i64 5)] (lN (CG.ret (hs.ret [] (.tuple #[.slice none 0 0,.int .i64 5]) (⟨none,0,by rw[ansE5 h1 h2,ansL1 (fun e=>h2 e.2)];rfl,by rw[ansL1 (fun e=>h2 e.2)];exact Nat.le_refl _,by rw[ansL1 (fun e=>h2 e.2)];exact SlO.nil⟩))))))))
theorem nAnswer0 (A:Option Addr)(cap:Nat)(ts:List LV)(ls:List Lay)(hn:ls.length≤1000000)(hF:∀ i,i<ls.length→LayLen (ls.getD i lay0))(X:Option Addr)(c0:Nat)(xs:List Rat)(hc0:xs.length≤c0)(hB:chkq ls=0→xs.length=dOf ls 0→NetB ls xs)(h1:chkq ls=0)(h2:xs.length=dOf ls 0)(w:World)(h:Hp)(g:G w h)(hA:SlO 3 lvc lvd h A ts)(hN:NetL h ts ls)(hX:SlO 5 qc 0 h X xs)(tb:Tab h) :
    Calls Tryz.prog 26 #[.agg #[.slice A ts.length cap],.slice X xs.length c0] w (Ret w h fun v h1=>∃ A c,v=.tuple #[.slice A (ansL ls xs).length c,.int .i64 (ansE ls xs)]∧(ansL ls xs).length≤c∧SlO 5 qc 0 h1 A (ansL ls xs)):=by
 have hs:=SS.start g
 replace hs:=((((hs.a_SlO hA).add (K:=fun h_=>NetL h_ ts ls) hN).a_SlO hX).add (K:=fun h_=>Tab h_) tb)
 refine go Tryz.func26 [(0,.agg #[.slice A ts.length cap]),(1,.slice X xs.length c0)] rfl ?_
 refine cSL (lA 2 57 ([.slice A ts.length cap]) hs (fun b1 w2 h3 hs=>?_))
 refine lL hs [.v 4 (.slice none 0 0),.v 5 (.int .i64 0)] (lN (CG.seq (cSL (lL hs [.o 6 (.agg #[.slice A ts.length cap]) 0 0 1] (lC 7 hs (nCheckG A cap ts ls hn hF _ _ hs.g (hs.f.2.2.2.1) (hs.f.2.2.1)) ?_)))))
 rintro _ w4 h5 hs rfl
 have hb6:((chkq ls:Int) != (0:Int))=false:=bneF' h1
 have phb6:=eqOfBne hb6
 refine lB 8 hb6 ?_
 refine lN (cIF (CG.skipN (CG.seq (cSL (lL hs [.o 9 (.agg #[.slice A ts.length cap]) 0 0 1,.m 10 1] (lC 11 hs (nSuitsT A cap ts ls (dOf ls) (chk_net3 h1) X c0 xs h2 _ _ hs.g (hs.f.2.2.2.1) (hs.f.2.2.1) (hs.f.2.1)) ?_))))))
 rintro _ w7 h8 hs rfl
 refine lL hs [.v 12 (.bool false)] (lN (cIF (CG.skipN (cSL (lL hs [.o 13 (.agg #[.slice A ts.length cap]) 0 0 1,.m 14 1] (lC 15 hs (nForward A cap ts ls (dOf ls) (chk_net3 h1) X c0 xs h2 hc0 (hB h1 h2) _ _ hs.g (hs.f.2.2.2.1) (hs.f.2.2.1) (hs.f.2.1) (hs.f.1)) ?_))))))
 rintro _ w9 h10 hs ⟨A1,c1,u1,A2,c2,u2,Ax,cx,rfl,-,-,hcx,-,-,-,-,hXk⟩
 replace hs:=(hs.a_SlO hXk)
 exact lL hs [.v 16 (.slice Ax ((outq ls xs ls.length).length) cx),.m 4 16,.v 5 (.int .i64 0)] (lN (CG.ret (hs.ret [] (.tuple #[.slice Ax ((outq ls xs ls.length).length) cx,.int .i64 0]) (⟨_,_,by rw[ansE0 h1 h2,ansL0 h1 h2],by rw[ansL0 h1 h2];exact hcx,by rw[ansL0 h1 h2];exact (hs.f.1)⟩))))
theorem nAnswer (A:Option Addr)(cap:Nat)(ts:List LV)(ls:List Lay)(hn:ls.length≤1000000)(hF:∀ i,i<ls.length→LayLen (ls.getD i lay0))(X:Option Addr)(c0:Nat)(xs:List Rat)(hc0:xs.length≤c0)(hB:chkq ls=0→xs.length=dOf ls 0→NetB ls xs)(w:World)(h:Hp)(g:G w h)(hA:SlO 3 lvc lvd h A ts)(hN:NetL h ts ls)(hX:SlO 5 qc 0 h X xs)(tb:Tab h):Calls Tryz.prog 26 #[.agg #[.slice A ts.length cap],.slice X xs.length c0] w (Ret w h (fun v h1=>∃ A c,v=.tuple #[.slice A (ansL ls xs).length c,.int .i64 (ansE ls xs)]∧(ansL ls xs).length≤c∧SlO 5 qc 0 h1 A (ansL ls xs))):=by
  by_cases h1:chkq ls=0
  · by_cases h2:xs.length=dOf ls 0
    · exact nAnswer0 A cap ts ls hn hF X c0 xs hc0 hB h1 h2 w h g hA hN hX tb
    · exact nAnswer5 A cap ts ls hn hF X c0 xs hc0 hB h1 h2 w h g hA hN hX tb
  · exact nAnswer1 A cap ts ls hn hF X c0 xs hc0 hB h1 w h g hA hN hX tb
theorem nClassE (A:Option Addr)(cap:Nat)(ts:List LV)(ls:List Lay)(hn:ls.length≤1000000)(hF:∀ i,i<ls.length→LayLen (ls.getD i lay0))(X:Option Addr)(c0:Nat)(xs:List Rat)(hc0:xs.length≤c0)(hB:chkq ls=0→xs.length=dOf ls 0→NetB ls xs)(he:ansE ls xs≠0)(w:World)(h:Hp)(g:G w h)(hA:SlO 3 lvc lvd h A ts)(hN:NetL h ts ls)(hX:SlO 5 qc 0 h X xs)(tb:Tab h) :
    Calls Tryz.prog 28 #[.agg #[.slice A ts.length cap],.slice X xs.length c0] w (Ret w h fun v _=>v=.tuple #[.int .i64 (clsq ls xs),.int .i64 (ansE ls xs)]):=by
 have hs:=SS.start g
 replace hs:=((((hs.a_SlO hA).add (K:=fun h_=>NetL h_ ts ls) hN).a_SlO hX).add (K:=fun h_=>Tab h_) tb)
 refine go Tryz.func28 [(0,.agg #[.slice A ts.length cap]),(1,.slice X xs.length c0)] rfl ?_
 refine cSL (lA 2 57 ([.slice A ts.length cap]) hs (fun b1 w2 h3 hs=>?_))
 refine lL hs [.v 4 (.int .i64 0),.v 5 (.int .i64 0)] (lNS (lL hs [.o 11 (.agg #[.slice A ts.length cap]) 0 0 1,.m 12 1] (lC 13 hs (nAnswer A cap ts ls hn hF X c0 xs hc0 hB _ _ hs.g (hs.f.2.2.2.1) (hs.f.2.2.1) (hs.f.2.1) (hs.f.1)) ?_)))
 rintro _ w4 h5 hs ⟨Aa,ca,rfl,hca,hAa⟩
 replace hs:=(hs.a_SlO hAa)
 refine lL hs [.m 10 13,.v 14 (.slice Aa ((ansL ls xs).length) ca),.v 15 (.int .i64 (ansE ls xs)),.m 6 14,.m 7 15] (lN (CG.seq (cSL (lL hs [.m 16 7] ?_))))
 have hb6:((ansE ls xs:Int) != (0:Int))=true:=bneT he
 have phb6:=neOfBne hb6
 refine lB 17 hb6 ?_
 exact lN (cIT (cSL (lL hs [.m 18 7,.v 4 (.int .i64 0),.m 5 18] (lN (CG.ret (hs.ret [] (.tuple #[.int .i64 0,.int .i64 (ansE ls xs)]) (by have hc:clsq ls xs=0:=if_neg (fun e=>he (ansE0 e.1 e.2));rw[hc])))))))
theorem nClassO (A:Option Addr)(cap:Nat)(ts:List LV)(ls:List Lay)(hn:ls.length≤1000000)(hF:∀ i,i<ls.length→LayLen (ls.getD i lay0))(X:Option Addr)(c0:Nat)(xs:List Rat)(hc0:xs.length≤c0)(hB:chkq ls=0→xs.length=dOf ls 0→NetB ls xs)(h1:chkq ls=0)(h2:xs.length=dOf ls 0)(w:World)(h:Hp)(g:G w h)(hA:SlO 3 lvc lvd h A ts)(hN:NetL h ts ls)(hX:SlO 5 qc 0 h X xs)(tb:Tab h) :
    Calls Tryz.prog 28 #[.agg #[.slice A ts.length cap],.slice X xs.length c0] w (Ret w h fun v _=>v=.tuple #[.int .i64 (clsq ls xs),.int .i64 (ansE ls xs)]):=by
 have hs:=SS.start g
 replace hs:=((((hs.a_SlO hA).add (K:=fun h_=>NetL h_ ts ls) hN).a_SlO hX).add (K:=fun h_=>Tab h_) tb)
 have hlq:∀ j,LQ 100000000 ((ansL ls xs).getD j 0):=fun j=>by rw[ansL0 h1 h2];exact ((hB h1 h2).x _ (Nat.le_refl _) j).mono oM
 have hlen:(ansL ls xs).length≤20:=by rw[ansL0 h1 h2,outq_len (chk_net3 h1) h2 _ (Nat.le_refl _)];have o_:=(chk_net3 h1).len;have:=((chk_net3 h1).lay (ls.length-1) oM).2.2.1;rw[show ls.length-1+1=ls.length by omega] at this;omega
 refine go Tryz.func28 [(0,.agg #[.slice A ts.length cap]),(1,.slice X xs.length c0)] rfl ?_
 refine cSL (lA 2 57 ([.slice A ts.length cap]) hs (fun b1 w2 h3 hs=>?_))
 refine lL hs [.v 4 (.int .i64 0),.v 5 (.int .i64 0)] (lNS (lL hs [.o 11 (.agg #[.slice A ts.length cap]) 0 0 1,.m 12 1] (lC 13 hs (nAnswer A cap ts ls hn hF X c0 xs hc0 hB _ _ hs.g (hs.f.2.2.2.1) (hs.f.2.2.1) (hs.f.2.1) (hs.f.1)) ?_)))
 rintro _ w4 h5 hs ⟨Aa,ca,rfl,hca,hAa⟩
 replace hs:=(hs.a_SlO hAa)
 refine lL hs [.m 10 13,.v 14 (.slice Aa ((ansL ls xs).length) ca),.v 15 (.int .i64 (ansE ls xs)),.m 6 14,.m 7 15] (lN (CG.seq (cSL (lL hs [.m 16 7] ?_))))
 have hb6:((ansE ls xs:Int) != (0:Int))=false:=bneF' (ansE0 h1 h2)
 have phb6:=eqOfBne hb6
 refine lB 17 hb6 ?_
 refine lN (cIF (CG.skipN (cSL (lL hs [.v 8 (.int .i64 0)] (lN (CG.seq (cSL (lL hs [.m 19 6,.v 20 (.int .i64 ((ansL ls xs).length:Nat)),.v 21 (.int .i64 0)] (lN (CG.block (cTo [(4,.int .i64 0),(5,.int .i64 0),(6,.slice Aa ((ansL ls xs).length) ca),(20,.int .i64 ((ansL ls xs).length:Nat)),(21,.int .i64 0),(8,.int .i64 0)] ?_)))))))))))
 refine CG.loop (fun μ_ Γ w_=>∃ (k:Nat) (b_:Nat) (h_:Hp),μ_=(ansL ls xs).length-k∧Γ=[(4,.int .i64 0),(5,.int .i64 0),(6,.slice Aa ((ansL ls xs).length) ca),(20,.int .i64 ((ansL ls xs).length:Nat)),(21,.int .i64 (k:Nat)),(8,.int .i64 (b_:Nat))]∧SS w h w_ h_ [⟨b1,57,[.slice A ts.length cap]⟩] [] [fun h_=>SlO 5 qc 0 h_ Aa (ansL ls xs),fun h_=>Tab h_,fun h_=>SlO 5 qc 0 h_ X xs,fun h_=>NetL h_ ts ls,fun h_=>SlO 3 lvc lvd h_ A ts]∧(k≤(ansL ls xs).length)∧(b_=topF (ansL ls xs) k)) _ ⟨0,0,h5,rfl,rfl,hs.to _ _,Nat.zero_le _,rfl⟩ ?_
 rintro _ _ w7 ⟨k,b_,h8,hm9,rfl,hs,hk,hb⟩
 have hble:=topF_le (ansL ls xs) k
 refine cSL ?_
 cases hb10:(decide (((k:Nat):Int)<(((ansL ls xs).length:Nat):Int)))
 ·
  have phb10:=oF hb10
  refine lB 22 hb10 ?_
  refine lN (CG.seq (cIF (CG.exit ?_)))
  show CG _ _ _ _ _ _ _ _
  refine cSL (lL hs [.m 36 8,.m 4 36,.v 5 (.int .i64 0)] (lN (CG.ret ?_)))
  have hkn:k=(ansL ls xs).length:=by omega
  have hcl:clsq ls xs=((b_:Nat):Int):=by unfold clsq;rw[if_pos ⟨h1,h2⟩,←hkn,hb]
  have hae:=ansE0 h1 h2
  exact hs.ret [] (.tuple #[.int .i64 (b_:Nat),.int .i64 0]) (by rw[hcl,hae])
 have phb10:=oT hb10
 refine lB 22 hb10 ?_
 refine lN (CG.seq (cIT (CG.skipN (CG.seq (CG.block (cSL (lL hs [.m 23 21,.m 9 23] (lN (CG.seq (cR 10 [] mixed hs al_nil ?_))))))))))
 refine eV 0 24 (.slice Aa ((ansL ls xs).length) ca) ?_
 refine eV 1 25 (.int .i64 (k:Nat)) ?_
 refine eX 2 26 Aa ((ansL ls xs).length) ca 5 (k:Nat) k ((hs.f.1).ok oM) ?_
 refine eH 3 27 (qv ((ansL ls xs).getD k 0)) hs ((hs.f.1).el k oM) ?_
 refine eV 4 28 (.slice Aa ((ansL ls xs).length) ca) ?_
 refine eV 5 29 (.int .i64 (b_:Nat)) ?_
 refine eX 6 30 Aa ((ansL ls xs).length) ca 5 (b_:Nat) b_ ((hs.f.1).ok oM) ?_
 refine eH 7 31 (qv ((ansL ls xs).getD b_ 0)) hs ((hs.f.1).el b_ oM) ?_
 refine eC 8 32 hs (fun _ _ hs=>fCmp ((ansL ls xs).getD k 0) ((ansL ls xs).getD b_ 0) (hlq _) (hlq _) _ _ hs.g) ?_
 rintro _ _ _ w11 h12 hs rfl
 cases hb13:(decide ((0:Int)<(cmpR ((ansL ls xs).getD k 0) ((ansL ls xs).getD b_ 0):Int)))
 ·
  have phb13:=oF hb13
  refine eB 9 33 hb13 ?_
  refine eD0 hs (fun w14 h15 hs=>?_)
  refine tN (cIF (CG.skipN (CG.listed (lIn 35 ((k:Nat)+1) (k+1) ?_))))
  refine lL hs [.m 21 35] (lD ?_)
  intro a_ ka
  have q16:(k+1)≤(ansL ls xs).length:=by omega
  have q17:b_=topF (ansL ls xs) (k+1):=(by subst hb;first|rw[topF_t aM]|rw[topF_f aM])
  refine ⟨_,_,?_,⟨k+1,b_,h15,rfl,rfl,hs.to _ _,q16,q17⟩,ka.to [(4,.int .i64 0),(5,.int .i64 0),(6,.slice Aa ((ansL ls xs).length) ca),(20,.int .i64 ((ansL ls xs).length:Nat)),(21,.int .i64 ((k+1):Nat)),(8,.int .i64 (b_:Nat))] kR⟩
  omega
 have phb13:=oT hb13
 refine eB 9 33 hb13 ?_
 refine eD0 hs (fun w18 h19 hs=>?_)
 refine tN (cIT (CG.listed (lL hs [.m 34 9,.m 8 34] (lN (CG.listed (lIn 35 ((k:Nat)+1) (k+1) ?_))))))
 refine lL hs [.m 21 35] (lD ?_)
 intro a_ ka
 have q20:(k+1)≤(ansL ls xs).length:=by omega
 have q21:k=topF (ansL ls xs) (k+1):=(by subst hb;first|rw[topF_t aM]|rw[topF_f aM])
 refine ⟨_,_,?_,⟨k+1,k,h19,rfl,rfl,hs.to _ _,q20,q21⟩,ka.to [(4,.int .i64 0),(5,.int .i64 0),(6,.slice Aa ((ansL ls xs).length) ca),(20,.int .i64 ((ansL ls xs).length:Nat)),(21,.int .i64 ((k+1):Nat)),(8,.int .i64 (k:Nat))] kR⟩
 omega
theorem nClass (A:Option Addr)(cap:Nat)(ts:List LV)(ls:List Lay)(hn:ls.length≤1000000)(hF:∀ i,i<ls.length→LayLen (ls.getD i lay0))(X:Option Addr)(c0:Nat)(xs:List Rat)(hc0:xs.length≤c0)(hB:chkq ls=0→xs.length=dOf ls 0→NetB ls xs)(w:World)(h:Hp)(g:G w h)(hA:SlO 3 lvc lvd h A ts)(hN:NetL h ts ls)(hX:SlO 5 qc 0 h X xs)(tb:Tab h):Calls Tryz.prog 28 #[.agg #[.slice A ts.length cap],.slice X xs.length c0] w (Ret w h (fun v _=>v=.tuple #[.int .i64 (clsq ls xs),.int .i64 (ansE ls xs)])):=by
  by_cases h1:chkq ls=0
  · by_cases h2:xs.length=dOf ls 0
    · exact nClassO A cap ts ls hn hF X c0 xs hc0 hB h1 h2 w h g hA hN hX tb
    · exact nClassE A cap ts ls hn hF X c0 xs hc0 hB (by rw[ansE5 h1 h2];decide) w h g hA hN hX tb
  · exact nClassE A cap ts ls hn hF X c0 xs hc0 hB (by rw[ansE1 h1];decide) w h g hA hN hX tb
theorem rTop (A:Option Addr)(ca:Nat)(l:List Rat)(ta:List RT)(hpos:0<l.length)(hln:l.length≤1000000)(hlq:∀ j,LQ 100000000 (l.getD j 0))(w:World)(h:Hp)(g:G w h)(hA:SlO 3 rqc rqd h A ta)(hT:RTs h ta l) :
    Calls Tryz.prog 33 #[.slice A ta.length ca] w (Ret w h fun v _=>v=.int .i64 (topF l l.length:Nat)):=by
 have hs:=SS.start g
 replace hs:=((hs.a_SlO hA).add (K:=fun h_=>RTs h_ ta l) hT)
 have hlt:=(hs.f.1).len
 refine go Tryz.func33 [(0,.slice A ta.length ca)] rfl ?_
 refine cSL (lL hs [.v 2 (.int .i64 0)] (lNS (lL hs [.v 3 (.int .i64 0)] (lN (CG.seq (cSL (lL hs [.v 4 (.int .i64 1)] (lN (CG.block (cTo [(0,.slice A ta.length ca),(2,.int .i64 0),(4,.int .i64 1),(3,.int .i64 0)] ?_))))))))))
 refine CG.loop (fun μ_ Γ w_=>∃ (k:Nat) (b_:Nat) (h_:Hp),μ_=l.length-k∧Γ=[(0,.slice A ta.length ca),(2,.int .i64 0),(4,.int .i64 (k:Nat)),(3,.int .i64 (b_:Nat))]∧SS w h w_ h_ [] [] [fun h_=>RTs h_ ta l,fun h_=>SlO 3 rqc rqd h_ A ta]∧(k≤l.length)∧(0<k)∧(b_=topF l k)) _ ⟨1,0,h,rfl,rfl,hs.to _ _,hpos,Nat.zero_lt_one,(topF_one l).symm⟩ ?_
 rintro _ _ w1 ⟨k,b_,h2,hm3,rfl,hs,hk,hk0,hb⟩
 have hble:=topF_lt l k hk0
 refine CG.seq (cSL (lL hs [.m 5 4,.m 6 0,.v 7 (.int .i64 (ta.length:Nat))] ?_))
 cases hb4:(decide (((k:Nat):Int)<((ta.length:Nat):Int)))
 ·
  have phb4:=oF hb4
  refine lB 8 hb4 ?_
  refine lN (cIF (CG.exit ?_))
  show CG _ _ _ _ _ _ _ _
  refine cSL (lL hs [.m 22 3,.m 2 22] (lN (CG.ret ?_)))
  have hkn:k=l.length:=by omega
  rw[hkn] at hb
  exact hs.ret [] (.int .i64 (b_:Nat)) (by rw[hb])
 have phb4:=oT hb4
 refine lB 8 hb4 ?_
 refine lN (cIT (CG.skipN (CG.seq (CG.block (CG.seq (cR 10 [] mixed hs al_nil ?_))))))
 refine eV 0 11 (.slice A ta.length ca) ?_
 refine eV 1 12 (.int .i64 (k:Nat)) ?_
 refine eX 2 13 A ta.length ca 3 (k:Nat) k ((hs.f.2.1).ok oM) ?_
 obtain ⟨Ax,cx,Dx,dx,ex,hcx,hdx,hAx,hDx⟩:=(hs.f.1).at_ k oM
 replace hs:=((hs.a_SlO hAx).a_SlO hDx)
 refine eHe 3 14 (.agg #[.bool ((ta.getD k rqd).1),(ta.getD k rqd).2.1,(ta.getD k rqd).2.2]) hs ((hs.f.2.2.2.1).el k oM) ex ?_
 refine eV 4 15 (.slice A ta.length ca) ?_
 refine eV 5 16 (.int .i64 (b_:Nat)) ?_
 refine eX 6 17 A ta.length ca 3 (b_:Nat) b_ ((hs.f.2.2.2.1).ok oM) ?_
 obtain ⟨Ay,cy,Dy,dy,ey,hcy,hdy,hAy,hDy⟩:=(hs.f.2.2.1).at_ b_ oM
 replace hs:=((hs.a_SlO hAy).a_SlO hDy)
 refine eHe 7 18 (.agg #[.bool ((ta.getD b_ rqd).1),(ta.getD b_ rqd).2.1,(ta.getD b_ rqd).2.2]) hs ((hs.f.2.2.2.2.2.1).el b_ oM) ey ?_
 refine eC 8 19 hs (fun _ _ hs=>rCmp ((l.getD k 0)) Ax cx Dx dx hcx hdx (LQ.ln (hlq _)) (LQ.ld (hlq _)) ((l.getD b_ 0)) Ay cy Dy dy hcy hdy (LQ.ln (hlq _)) (LQ.ld (hlq _)) _ _ hs.g (hs.f.2.2.2.1) (hs.f.2.2.1) (hs.f.2.1) (hs.f.1)) ?_
 rintro _ _ _ w5 h6 hs rfl
 cases hb7:(decide ((0:Int)<(cmpR ((l.getD k 0)) ((l.getD b_ 0)):Int)))
 ·
  have phb7:=oF hb7
  refine eB 9 20 hb7 ?_
  refine eD0 hs (fun w8 h9 hs=>?_)
  refine tN (cIF (CG.skipN (CG.listed (lL hs [.m 9 4] (lIn 10 ((k:Nat)+1) (k+1) ?_)))))
  refine lL hs [.m 4 10] (lD ?_)
  intro a_ ka
  have q10:(k+1)≤l.length:=by omega
  have q11:0<(k+1):=by omega
  have q12:b_=topF l (k+1):=(by subst hb;first|rw[topF_t aM]|rw[topF_f aM])
  replace hs:=hs.tl.tl.tl.tl
  refine ⟨_,_,?_,⟨k+1,b_,h9,rfl,rfl,hs.to _ _,q10,q11,q12⟩,ka.to [(0,.slice A ta.length ca),(2,.int .i64 0),(4,.int .i64 ((k+1):Nat)),(3,.int .i64 (b_:Nat))] kR⟩
  omega
 have phb7:=oT hb7
 refine eB 9 20 hb7 ?_
 refine eD0 hs (fun w13 h14 hs=>?_)
 refine tN (cIT (CG.listed (lL hs [.m 21 4,.m 3 21] (lN (CG.listed (lL hs [.m 9 4] (lIn 10 ((k:Nat)+1) (k+1) ?_)))))))
 refine lL hs [.m 4 10] (lD ?_)
 intro a_ ka
 have q15:(k+1)≤l.length:=by omega
 have q16:0<(k+1):=by omega
 have q17:k=topF l (k+1):=(by subst hb;first|rw[topF_t aM]|rw[topF_f aM])
 replace hs:=hs.tl.tl.tl.tl
 refine ⟨_,_,?_,⟨k+1,k,h14,rfl,rfl,hs.to _ _,q15,q16,q17⟩,ka.to [(0,.slice A ta.length ca),(2,.int .i64 0),(4,.int .i64 ((k+1):Nat)),(3,.int .i64 (k:Nat))] kR⟩
 omega
theorem rNetAnswer (A:Option Addr)(cap:Nat)(ts:List LV)(ls:List Lay)(d:Nat→Nat)(hO:Net3 ls d)(X:Option Addr)(c0:Nat)(xs:List Rat)(tX:List RT)(hx:xs.length=d 0)(hc0:tX.length≤c0)(hB:NetB ls xs)(w:World)(h:Hp)(g:G w h)(hA:SlO 3 lvc lvd h A ts)(hN:RNetL h ts ls)(hX:SlO 3 rqc rqd h X tX)(hTx:RTs h tX xs) :
    Calls Tryz.prog 32 #[.agg #[.slice A ts.length cap],.slice X tX.length c0] w (Ret w h fun v h1=>∃ A c ts,v=.slice A (ts:List RT).length c∧ts.length≤c∧SlO 3 rqc rqd h1 A ts∧RTs h1 ts (outq ls xs ls.length)):=by
 have hs:=SS.start g
 replace hs:=((((hs.a_SlO hA).add (K:=fun h_=>RNetL h_ ts ls) hN).a_SlO hX).add (K:=fun h_=>RTs h_ tX xs) hTx)
 refine go Tryz.func32 [(0,.agg #[.slice A ts.length cap]),(1,.slice X tX.length c0)] rfl ?_
 refine cSL (lA 2 49 ([.slice A ts.length cap]) hs (fun b1 w2 h3 hs=>?_))
 refine lL hs [.v 4 (.slice none 0 0)] (lNS (lL hs [.o 8 (.agg #[.slice A ts.length cap]) 0 0 1,.m 9 1] (lC 10 hs (rThrough A cap ts ls d hO X c0 xs tX hx hc0 hB _ _ hs.g (hs.f.2.2.2.1) (hs.f.2.2.1) (hs.f.2.1) (hs.f.1)) ?_)))
 rintro _ w4 h5 hs ⟨Ay,cy,ty,v2,rfl,hcy,hAy,hTy⟩
 replace hs:=((hs.a_SlO hAy).add (K:=fun h_=>RTs h_ ty (outq ls xs ls.length)) hTy)
 exact lL hs [.m 7 10,.v 11 (.slice Ay ty.length cy),.v 12 v2,.m 5 11,.m 6 12] (lNS (lL hs [.m 13 5,.m 4 13] (lN (CG.ret (hs.ret [] (.slice Ay ty.length cy) (⟨_,_,ty,rfl,hcy,(hs.f.2.1),(hs.f.1)⟩))))))
def sizesq (ls:List Lay):List Nat:=dOf ls 0::ls.map (·.W.length)
theorem rNetSizes (A:Option Addr)(cap:Nat)(ts:List LV)(ls:List Lay)(hO:Net3 ls (dOf ls))(w:World)(h:Hp)(g:G w h)(hA:SlO 3 lvc lvd h A ts)(hN:RNetL h ts ls) :
    Calls Tryz.prog 31 #[.agg #[.slice A ts.length cap]] w (Ret w h fun v h1=>∃ A c,v=.slice A (sizesq ls).length c∧(sizesq ls).length≤c∧SlO 1 natc 0 h1 A (sizesq ls)):=by
 have hs:=SS.start g
 replace hs:=((hs.a_SlO hA).add (K:=fun h_=>RNetL h_ ts ls) hN)
 have hl:=(hs.f.1).len
 obtain ⟨o1,o2⟩:=hO.len
 have o3:=hO.first
 refine go Tryz.func31 [(0,.agg #[.slice A ts.length cap])] rfl ?_
 refine cSL (lA 1 49 ([.slice A ts.length cap]) hs (fun b1 w2 h3 hs=>?_))
 refine lL hs [.v 2 (.slice none 0 0)] (lNS (lL hs [.v 5 (.pointer (some ⟨b1,0,none⟩)),.o 6 (.slice A ts.length cap) 0 0 1] (lX 7 A ts.length cap 3 0 0 ((hs.f.2.1).ok oM) ?_)))
 refine lL hs [.v 8 (.pointer (some ⟨(aB A),aO A+0*3+1,none⟩))] ?_
 obtain ⟨mtx,lbx,r12x,kdx⟩:=hO.lay 0 oM
 obtain ⟨ekx,⟨AWx,cWx,usx,eWx,hcWx,hAWx,hTWx⟩,⟨ABx,cBx,rsx,eBx,hcBx,hABx,hTBx⟩⟩:=(hs.f.1).at_ 0 oM
 replace hs:=((((hs.a_SlO hAWx).add (K:=fun h_=>RVs h_ usx (ls.getD 0 lay0).W) hTWx).a_SlO hABx).add (K:=fun h_=>RTs h_ rsx (ls.getD 0 lay0).B) hTBx)
 refine lHe 9 ((ts.getD 0 lvd).2.1) hs (((hs.f.2.2.2.2.2.1).el 0 oM).part 1 1) eWx ?_
 have mrx:=mtx.rows;have mpx:=mtx.rpos;have mcx:=mtx.cpos;have lux:=(hs.f.2.2.1).len;have m0x:=mtx.row 0 oM
 refine lX 10 AWx usx.length cWx 1 0 0 ((hs.f.2.2.2.1).ok oM) ?_
 obtain ⟨Arp,crp,trp,erp,hcrp,hRrp,hTrp⟩:=(hs.f.2.2.1).at_ 0 oM
 have hlrp:=hTrp.len
 replace hs:=((hs.a_SlO hRrp).add (K:=fun h_=>RTs h_ trp (((ls.getD 0 lay0).W).getD 0 [])) hTrp)
 refine lHe 11 (usx.getD 0 undef) hs ((hs.f.2.2.2.2.2.1).el 0 oM) erp ?_
 refine lL hs [.v 12 (.int .i64 (trp.length:Nat))] (lRw 13 3 1 natc ([trp.length]:List Nat) hs (fun b4 w5 h6 hs=>?_))
 refine lL hs [.m 3 13] (lN (CG.seq (cSL (lL hs [.v 4 (.int .i64 0)] (lN (CG.block (cTo [(1,.pointer (some ⟨b1,0,none⟩)),(2,.slice none 0 0),(4,.int .i64 0),(3,.slice (some ⟨b4,0,none⟩) ((([trp.length]:List Nat)).length) ((([trp.length]:List Nat)).length))] ?_)))))))
 refine CG.loop (fun μ_ Γ w_=>∃ (k:Nat) (sA:Option Addr) (sc:Nat) (zl:List Nat) (h_:Hp),μ_=ls.length-k∧Γ=[(1,.pointer (some ⟨b1,0,none⟩)),(2,.slice none 0 0),(4,.int .i64 (k:Nat)),(3,.slice sA ((zl).length) sc)]∧SS w h w_ h_ [⟨b1,49,[.slice A ts.length cap]⟩] [⟨3,1,sA,sc,(zl).length,(zl).flatMap natc⟩] [fun h_=>RTs h_ trp (((ls.getD 0 lay0).W).getD 0 []),fun h_=>SlO 3 rqc rqd h_ Arp trp,fun h_=>RTs h_ rsx (ls.getD 0 lay0).B,fun h_=>SlO 3 rqc rqd h_ ABx rsx,fun h_=>RVs h_ usx (ls.getD 0 lay0).W,fun h_=>SlO 1 vc undef h_ AWx usx,fun h_=>RNetL h_ ts ls,fun h_=>SlO 3 lvc lvd h_ A ts]∧(k≤ls.length)∧(zl=dOf ls 0::(ls.take k).map (·.W.length))) _ ⟨0,some ⟨b4,0,none⟩,(([trp.length]:List Nat)).length,([trp.length]:List Nat),h6,rfl,rfl,hs.to _ _,Nat.zero_le _,(by rw[hlrp];rfl)⟩ ?_
 rintro _ _ w9 ⟨k,sA,sc,zl,h10,hm11,rfl,hs,hk,hzl⟩
 have hzz:zl.length=k+1:=by rw[hzl];simp;omega
 refine CG.seq (cSL (lL hs [.m 14 4,.v 15 (.pointer (some ⟨b1,0,none⟩)),.o 16 (.slice A ts.length cap) 0 0 1,.v 17 (.int .i64 (ts.length:Nat))] ?_))
 cases hb12:(decide (((k:Nat):Int)<((ts.length:Nat):Int)))
 ·
  have phb12:=oF hb12
  refine lB 18 hb12 ?_
  refine lN (cIF (CG.exit ?_))
  show CG _ _ _ _ _ _ _ _
  refine cSL (lL hs [.m 31 3,.m 2 31] (lN (CG.ret ?_)))
  have hkn:k=ls.length:=by omega
  have hzs:zl=sizesq ls:=by rw[hzl,hkn,List.take_length];rfl
  obtain ⟨h13,hs,hc14⟩:=hs.pubr 0 (A:=sA) (c:=sc) (l:=zl) (f:=natc) (ty:=3) (sz:=1) 0 (fun _=>rfl)
  exact hs.ret [] (.slice sA ((zl).length) sc) (by rw[←hzs];exact ⟨_,_,rfl,hc14,(hs.f.1)⟩)
 have phb12:=oT hb12
 refine lB 18 hb12 ?_
 refine lN (cIT (CG.skipN (CG.seq (CG.block (CG.listed (lL hs [.m 21 3,.v 22 (.pointer (some ⟨b1,0,none⟩)),.o 23 (.slice A ts.length cap) 0 0 1,.m 24 4] (lX 25 A ts.length cap 3 (k:Nat) k ((hs.f.2.2.2.2.2.2.2.1).ok oM) ?_)))))))
 refine lL hs [.v 26 (.pointer (some ⟨(aB A),aO A+k*3+1,none⟩))] ?_
 obtain ⟨mty,lby,r12y,kdy⟩:=hO.lay k oM
 obtain ⟨eky,⟨AWy,cWy,usy,eWy,hcWy,hAWy,hTWy⟩,⟨ABy,cBy,rsy,eBy,hcBy,hABy,hTBy⟩⟩:=(hs.f.2.2.2.2.2.2.1).at_ k oM
 replace hs:=((((hs.a_SlO hAWy).add (K:=fun h_=>RVs h_ usy (ls.getD k lay0).W) hTWy).a_SlO hABy).add (K:=fun h_=>RTs h_ rsy (ls.getD k lay0).B) hTBy)
 refine lHe 27 ((ts.getD k lvd).2.1) hs (((hs.f.2.2.2.2.2.2.2.2.2.2.2.1).el k oM).part 1 1) eWy ?_
 have mry:=mty.rows;have mpy:=mty.rpos;have mcy:=mty.cpos;have luy:=(hs.f.2.2.1).len;have m0y:=mty.row 0 oM
 refine lL hs [.v 28 (.int .i64 (usy.length:Nat))] (lR 29 3 1 ([.int .i64 (usy.length:Nat)]) hs (fun b16 w17 h18 hs=>?_))
 refine lY 30 0 3 1 sc sA zl natc usy.length 8 b16 (.int .i64 0) hs (hs.f.1) (fun A20 c21 w22 h23 hs=>?_)
 refine lL hs [.m 3 30] (lN (CG.listed (lL hs [.m 19 4] (lIn 20 ((k:Nat)+1) (k+1) ?_))))
 refine lL hs [.m 4 20] (lD ?_)
 intro a_ ka
 have q25:(k+1)≤ls.length:=by omega
 have q26:(zl++[usy.length])=dOf ls 0::(ls.take (k+1)).map (·.W.length):=(by rw[take_snoc' lay0 oM,List.map_append,hzl,luy];rfl)
 replace hs:=hs.tl.tl.tl.tl.tl
 refine ⟨_,_,?_,⟨k+1,A20,c21,zl++[usy.length],h23,rfl,rfl,hs.to _ _,q25,q26⟩,ka.to [(1,.pointer (some ⟨b1,0,none⟩)),(2,.slice none 0 0),(4,.int .i64 ((k+1):Nat)),(3,.slice A20 (((zl++[usy.length])).length) c21)] kR⟩
 omega
theorem Seg.runF {α:Type}{K:Nat}{P:Program}{w w':World}{h:Hp}{b o:Nat}{cs:List Value}{s:Sem α}{r:α}(sg:Seg h b o cs)(g:G w h)(hK:w.heap.size≤K)(x:Mo [K] w w')(he:evalL P s cs=some (r,mka b o cs.length)):s.run P w'=.ok r w' :=
  evalL_run _ _ _ _ he (fun i a v ha hv=>by
    rw[mka_get _ _ _ _ _ ha]
    have e:=sg i v hv
    have hc:=hcell_w g e
    have hl:b<w.heap.size:=by
      rcases Nat.lt_or_ge b w.heap.size with hl|hl
      · exact hl
      · unfold World.cell? at hc;rw[Array.getElem?_eq_none hl] at hc;cases hc
    have hb:=x.blk b hl (fun hm=>by have:=List.mem_singleton.1 hm;omega)
    unfold World.cell? at hc ⊢
    rw[hb];exact hc)
section fut
variable {P:Program} {n:Nat} {N R:Po} {X:Nat→Po} {ops:Array Oper} {k0 K:Nat} {L:Array Bool} {Γ:Env} {w:World} {h:Hp} {w0:World} {h0:Hp} {B:List Bx} {Rs:List Rw} {F:List (Hp→Prop)}
theorem fHe (i t:Nat)(v:Value){u:Value}{b o:Nat}{cs:List Value}(s:SS w0 h0 w h B Rs F)(hK:w.heap.size≤K)(sg:Seg h b o cs)(e:v=u)(H:AG ⟨[K],none⟩ P n N R X ops k0 (L.setIfInBounds i true) ((t,u)::Γ) w)(hc:cEl n ops k0 [] L Γ i t=true:=by kernel_rfl)(he:evalL P (execOp (ev Γ) (opAt ops i)) cs=some (.value v,mka b o cs.length):=by kernel_rfl):AG ⟨[K],none⟩ P n N R X ops k0 L Γ w :=
  aL i t u (fun _ hx=>e▸Seg.runF sg s.g hK hx he) H hc
theorem fRq (i t j:Nat)(v:Value)(ds:List Value){ty:TypeId}{sz c m b o:Nat}{cs:List Value}(s:SS w0 h0 w h B Rs F)(hK:w.heap.size≤K)(hds:(cs.drop o).take ds.length=ds)(H:AG ⟨[K],none⟩ P n N R X ops k0 (L.setIfInBounds i true) ((t,v)::Γ) w)(hr':Rs.getD j default=⟨ty,sz,some ⟨b,0,none⟩,c,m,cs⟩:=by kernel_rfl)(hj:decide (j<Rs.length)=true:=by kernel_rfl)(hc:cEl n ops k0 [] L Γ i t=true:=by kernel_rfl)(he:evalL P (execOp (ev Γ) (opAt ops i)) ds=some (.value v,mka b o ds.length):=by kernel_rfl):AG ⟨[K],none⟩ P n N R X ops k0 L Γ w:=by
  obtain ⟨vs,ho,hv,_⟩:=s.rowO j hr' (oT hj)
  have hn:b ∉ [K]:=fun hm=>by have:=List.mem_singleton.1 hm;have:=ho.lt;omega
  exact aL i t v (fun w' hx=>evalL_run _ _ _ _ he (fun q a v ha hv'=>by rw[mka_get _ _ _ _ _ ha,(ho.mo hx hn).cell];exact take_get hv (take_drop_get hds q v hv'))) H hc
theorem fEv {M:Ms}(i t:Nat)(v:Value)(w':World)(hm:Mo M.l w w')(H:AG M P n N R X ops k0 (L.setIfInBounds i true) ((t,v)::Γ) w')(hr:(execOp (ev Γ) (opAt ops i)).run P w=.ok (.value v) w')(hc:(chkK ops k0 L i && knownOp Γ (opAt ops i) && ((opAt ops i).dst == some t) && decide (t<n))=true)(hw:wantE ops Γ (opAt ops i)=some true):AG M P n N R X ops k0 L Γ w:=by
  simp only[Bool.and_eq_true,decide_eq_true_eq,beq_iff_eq] at hc
  obtain ⟨⟨⟨h1,h2⟩,h3⟩,h4⟩:=hc
  unfold chkK at h1
  simp only[Bool.and_eq_true,decide_eq_true_eq,beq_iff_eq] at h1
  have hg:=opAt_get (ops:=ops) h1.1.1.1
  intro a ka
  refine A.intro (fun h0=>by rw[h1.2] at h0;cases h0) (fun j hj=>?_)
  rw[h1.2,List.mem_singleton] at hj
  subst hj
  refine OpR.wpOp (R:=fun u w1=>u=v∧w1=w') hg ⟨ka.want hw,.inl ⟨v,w',?_,rfl,rfl⟩⟩ (fun u w1 hq=>⟨Rl.mo h1.1.1.2 (hq.2▸hm),?_⟩)
  · rw[ka.exec (Region.noSelect_spec h1.1.2 j _ · · hg) h2];exact hr
  · rw[h3,hq.1,hq.2];exact H _ (ka.put h4 v)
theorem fR {M:Ms}(i t:Nat)(ty:TypeId)(m:Nat)(cs:List Value)(s:SS w0 h0 w h B Rs F)(H:∀ b w' h',w'.heap.size=w.heap.size+1→SS w0 h0 w' h' B Rs ((fun h=>Seg h b 0 cs)::F)→AG M P n N R X ops k0 (L.setIfInBounds i true) ((t,.slice (some ⟨b,0,none⟩) m m)::Γ) w')(hc:(chkK ops k0 L i && knownOp Γ (opAt ops i) && ((opAt ops i).dst == some t) && decide (t<n))=true:=by kernel_rfl)(hw:wantE ops Γ (opAt ops i)=some true:=by kernel_rfl)
    (hr:(execOp (ev Γ) (opAt ops i)).run P w=.ok (.value (.slice (some ⟨w.heap.size,0,none⟩) m m)) (w.alloc (.cells cs.toArray ty (0,0))):=by kernel_rfl):AG M P n N R X ops k0 L Γ w :=
  fEv i t _ _ ((Up.allocAny s.g _ _ (.inl rfl)).ext.mo M.l) (H _ _ _ (by rw[heap_alloc,Array.size_push]) ((s.step (Up.allocAny s.g _ _ (.inl rfl))).a_Seg (by rw[s.g.size];exact Seg.new cs ty))) hr hc hw
theorem fYz {M:Ms}{α:Type}(i t:Nat)(ty:TypeId)(sz:Nat)(f:α→List Value)(d:α)(b0:Nat)(A2:Option Addr)(m:List α)(c2 bt:Nat)(z:Value)(s:SS w0 h0 w h B Rs F)(so:SlO sz f d h A2 m)(hm0:0<m.length)(h1:∀ x∈m,(f x).all (·.oneCell')=true)
    (H:∀ A' c' w' h',(∀ b,(Value.slice A' m.length c').ownBlock=some b→b=w.heap.size)→SS w0 h0 w' h' B (⟨ty,sz,A',c',m.length,m.flatMap f⟩::Rs) F→AG M P n N R X ops k0 (L.setIfInBounds i true) ((t,.slice A' m.length c')::Γ) w')
    (hc:(chkK ops k0 L i && knownOp Γ (opAt ops i) && ((opAt ops i).dst == some t) && decide (t<n))=true:=by kernel_rfl)(hw:wantE ops Γ (opAt ops i)=some true:=by kernel_rfl)(he:apE P (ev Γ) (opAt ops i)=some (.slice (some ⟨b0,0,none⟩) 0 0,.slice A2 m.length c2,ty,z,sz,bt):=by kernel_rfl)(hf:∀ x,(f x).length=sz:=by intro _;rfl)(hzs:z.cells.size=sz:=by kernel_rfl)(hpos:0<sz:=by decide)(hm:m.length≤1099511627776:=by omega)(hb:m.length*bt≤140737488355328:=by omega):AG M P n N R X ops k0 L Γ w:=by
  rw[so.ok hm0] at he
  obtain ⟨x',y,ty',ho,hx,hy,hu,hi⟩:=apE_op he
  obtain ⟨v',w',hrun,ow,gr,hloc⟩:=app_runE (P:=P) ho hx hy hu hi hzs hpos s.st (len_flat hf m) (seg_newsO s.g (so.flat hf)) (fun u hu=>by
    obtain ⟨x,hx',hx⟩:=List.mem_flatMap.1 hu
    exact (List.all_eq_true.1 (h1 x hx')) u hx) hm0 hm hb
  obtain ⟨h',A',c',rfl,e2,s'⟩:=(s.nil ty sz).grown (j:=0) (by simp) (w':=w') (v':=v') (m2:=m.length) (news:=m.flatMap f) ow gr hloc
  have hrun':(execOp (ev Γ) (opAt ops i)).run P w=.ok (.value (.slice A' m.length c')) w':=by rw[hrun];simp
  refine fEv i t _ w' ⟨gr.os,gr.tape,gr.output,gr.size,fun c hc _=>gr.block c hc (by simp[Value.ownBlock])⟩ (H A' c' w' h' ?_ (by simpa using s')) hrun' hc hw
  intro b hb'
  rcases hloc with e|e
  · have e3:some b=(Value.slice none 0 0).ownBlock:=hb'.symm.trans (by simpa [Value.ownBlock] using e)
    simp[Value.ownBlock] at e3
  · have e3:some b=some w.heap.size:=hb'.symm.trans (by simpa [Value.ownBlock] using e)
    injection e3
theorem fY {M:Ms}{α:Type}(i t j:Nat)(ty:TypeId)(sz c:Nat)(A:Option Addr)(l:List α)(f:α→List Value)(x:α)(bt b:Nat)(z:Value)(s:SS w0 h0 w h B Rs F)(sg:Seg h b 0 (f x))(hMv:∀ b,(Value.slice A l.length c).ownBlock=some b→b∈M.l)
    (H:∀ A' c' w' h',SS w0 h0 w' h' B (Rs.set j ⟨ty,sz,A',c',(l++[x]).length,(l++[x]).flatMap f⟩) F→AG M P n N R X ops k0 (L.setIfInBounds i true) ((t,.slice A' (l++[x]).length c')::Γ) w')
    (hc:(chkK ops k0 L i && knownOp Γ (opAt ops i) && ((opAt ops i).dst == some t) && decide (t<n))=true:=by kernel_rfl)(hw:wantE ops Γ (opAt ops i)=some true:=by kernel_rfl)(he:apE P (ev Γ) (opAt ops i)=some (.slice A l.length c,.slice (some ⟨b,0,none⟩) 1 1,ty,z,sz,bt):=by kernel_rfl)(hzs:z.cells.size=sz:=by kernel_rfl)(hpos:0<sz:=by decide)
    (hr':Rs.getD j default=⟨ty,sz,A,c,l.length,l.flatMap f⟩:=by kernel_rfl)(hj:decide (j<Rs.length)=true:=by kernel_rfl)(h1:(f x).all (·.oneCell')=true:=by kernel_rfl)(hl:(f x).length=1*sz:=by kernel_rfl)(hm:l.length+1≤1099511627776:=by omega)(hb:(l.length+1)*bt≤140737488355328:=by omega):AG M P n N R X ops k0 L Γ w:=by
  have hj':=oT hj
  obtain ⟨x',y,ty',ho,hx,hy,hu,hi⟩:=apE_op he
  have r:=s.ro _ (List.getElem_mem hj')
  have er:=rw_get hr' hj'
  rw[er] at r
  obtain ⟨v',w',hrun,ow,gr,hloc⟩:=app_run (P:=P) ho hx hy hu hi hzs hpos s.st r hl (seg_news s.g sg) (fun u hu=>(List.all_eq_true.1 h1) u hu) hm hb
  have hg:=s.grown (j:=j) hj' (w':=w') (v':=v') (m2:=1) (news:=f x) (by rw[er];exact ow) (by rw[er];exact gr) (by rw[er];exact hloc)
  rw[er] at hg
  obtain ⟨h',A',c',rfl,e2,s'⟩:=hg
  have e1:l.length+1=(l++[x]).length:=by simp
  simp only[] at s'
  rw[snoc_row,e1] at s'
  rw[e1] at hrun
  exact fEv i t _ w' ⟨gr.os,gr.tape,gr.output,gr.size,fun c hc hn=>gr.block c hc (fun e=>hn (hMv c e.symm))⟩ (H A' c' w' h' s') hrun hc hw
end fut
theorem getD_drop_ {α:Type}{l:List α}{n i:Nat}{d:α}:(l.drop n).getD i d=l.getD (n+i) d:=by simp[List.getD_eq_getElem?_getD]
theorem rts_drop {h:Hp}{ts:List RT}{qs:List Rat}(r:RTs h ts qs):RTs h (ts.drop 1) (qs.drop 1):=⟨by rw[List.length_drop,List.length_drop,r.len],fun i hi=>by rw[List.length_drop] at hi;rw[getD_drop_,getD_drop_];exact r.at_ _ oM⟩
theorem rvs_drop {h:Hp}{us:List Value}{W:List (List Rat)}(r:RVs h us W):RVs h (us.drop 1) (W.drop 1):=⟨by rw[List.length_drop,List.length_drop,r.len],fun i hi=>by rw[List.length_drop] at hi;rw[getD_drop_,getD_drop_];exact r.at_ _ oM⟩
theorem rnet_drop {h:Hp}{ts:List LV}{ls:List Lay}(r:RNetL h ts ls):RNetL h (ts.drop 1) (ls.drop 1):=⟨by rw[List.length_drop,List.length_drop,r.len],fun i hi=>by rw[List.length_drop] at hi;rw[getD_drop_,getD_drop_];exact r.at_ _ oM⟩
theorem getD_app_ {α:Type}{a b:List α}{i:Nat}{d:α}:(a++b).getD i d=if i<a.length then a.getD i d else b.getD (i-a.length) d:=by
  simp only[List.getD_eq_getElem?_getD,List.getElem?_append];split<;>rfl
theorem rnet_app {h:Hp}{ts ts2:List LV}{ls ls2:List Lay}(r:RNetL h ts ls)(r2:RNetL h ts2 ls2):RNetL h (ts++ts2) (ls++ls2):=⟨by rw[List.length_append,List.length_append,r.len,r2.len],fun i hi=>by
  rw[List.length_append] at hi
  rw[getD_app_,getD_app_,r.len]
  split
  · exact r.at_ i aM
  · exact r2.at_ _ oM⟩
theorem getD_set_ {α:Type}{l:List α}{n i:Nat}{d x:α}(h:n<l.length):(l.set n x).getD i d=if i=n then x else l.getD i d:=by
  split
  · rename_i e;subst e;simp[h]
  · rename_i e;rw[List.getD_eq_getElem?_getD,List.getElem?_set_ne (Ne.symm e),←List.getD_eq_getElem?_getD]
theorem rnet_set {h:Hp}{ts:List LV}{ls:List Lay}(r:RNetL h ts ls)(k:Nat)(hk:k<ls.length){t:LV}{L:Lay}(hx:t.1=L.k∧(∃ A c,∃ us:List Value,t.2.1=.slice A us.length c∧us.length≤c∧SlO 1 vc undef h A us∧RVs h us L.W) ∧
    (∃ A c,∃ rs:List RT,t.2.2=.slice A rs.length c∧rs.length≤c∧SlO 3 rqc rqd h A rs∧RTs h rs L.B)):RNetL h (ts.set k t) (ls.set k L):=⟨by rw[List.length_set,List.length_set,r.len],fun i hi=>by
  rw[List.length_set] at hi
  rw[getD_set_ (by rw[r.len];exact hk),getD_set_ hk]
  split
  · exact hx
  · exact r.at_ i hi⟩
theorem ln_one {h:Hp}{ts:List LV}{ls:List Lay}(r:RNetL h ts ls):∀ t∈ts,(lvc t).all (·.oneCell')=true:=fun t ht=>by
  obtain ⟨i,hi,e⟩:=List.mem_iff_getElem.1 ht
  obtain ⟨_,⟨A,c,us,e1,_⟩,⟨B,d,rs,e2,_⟩⟩:=r.at_ i (by rw[←r.len];exact hi)
  have e3:ts.getD i lvd=t:=by simp[hi,e]
  rw[e3] at e1 e2
  unfold lvc;rw[e1,e2];rfl
theorem rv_one {h:Hp}{us:List Value}{W:List (List Rat)}(r:RVs h us W):∀ v∈us,(vc v).all (·.oneCell')=true:=fun v hv=>by
  obtain ⟨i,hi,e⟩:=List.mem_iff_getElem.1 hv
  obtain ⟨A,c,ts,e1,_⟩:=r.at_ i (by rw[←r.len];exact hi)
  have e3:us.getD i undef=v:=by simp[hi,e]
  rw[e3] at e1
  unfold vc;rw[e1];rfl
structure LayS4 (L:Lay):Prop where
  rl:L.W.length≤4
  rls:∀ i,(L.W.getD i []).length≤4
  bl:L.B.length≤4
  w:∀ i j,LQ 1 ((L.W.getD i []).getD j 0)
  b:∀ i,LQ 1 (L.B.getD i 0)
theorem LayS4.sz {L:Lay}(h:LayS4 L):LaySz L:=⟨by have:=h.rl;omega,fun i=>by have:=h.rls i;omega,by have:=h.bl;omega,h.w,h.b⟩
theorem sz_set {ls:List Lay}(h:∀ i,LaySz (ls.getD i lay0)){k:Nat}{L:Lay}(hL:LaySz L):∀ i,LaySz ((ls.set k L).getD i lay0):=fun i=>by
  rcases Nat.lt_or_ge k ls.length with hk|hk
  · rw[getD_set_ hk];split
    · exact hL
    · exact h i
  · rw[List.set_eq_of_length_le hk];exact h i
theorem sz_app {a b:List Lay}(h:∀ i,LaySz (a.getD i lay0))(h2:∀ i,LaySz (b.getD i lay0)):∀ i,LaySz ((a++b).getD i lay0):=fun i=>by
  rw[getD_app_];split
  · exact h i
  · exact h2 _
theorem lay_wide {L:Lay}(z:LayS4 L){r:List Rat}(hl:r.length≤8)(hq:∀ i,LQ 1 (r.getD i 0)):LaySz ⟨L.k,L.W++[r],L.B⟩:=by
  refine ⟨by show (L.W++[r]).length≤8;rw[List.length_append,List.length_singleton];have:=z.rl;omega,fun i=>?_,z.sz.bl,fun i j=>?_,z.b⟩
  · show ((L.W++[r]).getD i []).length≤8
    rw[getD_snoc];split
    · exact z.sz.rls i
    · split
      · exact hl
      · exact Nat.zero_le _
  · show LQ 1 (((L.W++[r]).getD i []).getD j 0)
    rw[getD_snoc];split
    · exact z.w i j
    · split
      · exact hq j
      · exact lq0'
theorem lq_rep {n:Nat}(i:Nat):LQ 1 ((List.replicate n ((1:Int):Rat)).getD i 0):=by
  rw[List.getD_eq_getElem?_getD,List.getElem?_replicate];split
  · exact LQ.lit (z:=1) kD
  · exact lq0'
theorem mUnit (n:Nat)(hn:n≤1000000)(w:World)(h:Hp)(g:G w h) :
    Calls Tryz.prog 99 #[.int .i64 (n:Nat)] w (Ret w h fun v h1=>∃ A c ts,v=.slice A (ts:List RT).length c∧ts.length≤c∧SlO 3 rqc rqd h1 A ts∧RTs h1 ts (List.replicate n ((1:Int):Rat))):=by
 have hs:=SS.start g
 refine go Tryz.func99 [(0,.int .i64 (n:Nat))] rfl ?_
 refine cSL (lL hs [.v 2 (.slice none 0 0)] (lNS (lL hs [.v 3 (.slice none 0 0)] (lN (CG.seq (cSL (lL hs [.v 4 (.int .i64 0)] (lN (CG.block ?_)))))))))
 replace hs:=hs.nil 86 3
 refine cTo [(0,.int .i64 (n:Nat)),(2,.slice none 0 0),(4,.int .i64 0),(3,.slice none 0 0)] ?_
 replace hs:=hs.add (K:=fun h_=>RTs h_ ([]) (List.replicate 0 ((1:Int):Rat))) (RTs.nil)
 refine CG.loop (fun μ_ Γ w_=>∃ (k:Nat) (sA:Option Addr) (sc:Nat) (tl:List RT) (h_:Hp),μ_=n-k∧Γ=[(0,.int .i64 (n:Nat)),(2,.slice none 0 0),(4,.int .i64 (k:Nat)),(3,.slice sA ((tl).length) sc)]∧SS w h w_ h_ [] [⟨86,3,sA,sc,(tl).length,(tl).flatMap rqc⟩] [fun h_=>RTs h_ tl (List.replicate k ((1:Int):Rat))]∧(k≤n)) _ ⟨0,none,0,[],h,rfl,rfl,hs.to _ _,Nat.zero_le _⟩ ?_
 rintro _ _ w1 ⟨k,sA,sc,tl,h2,hm3,rfl,hs,hk⟩
 have hlT:=(hs.f.1).len
 rw[List.length_replicate] at hlT
 refine CG.seq (cSL (lL hs [.m 5 4,.m 6 0] ?_))
 cases hb4:(decide (((k:Nat):Int)<((n:Nat):Int)))
 ·
  have phb4:=oF hb4
  refine lB 7 hb4 ?_
  refine lN (cIF (CG.exit ?_))
  show CG _ _ _ _ _ _ _ _
  refine cSL (lL hs [.m 14 3,.m 2 14] (lN (CG.ret ?_)))
  have hkn:k=n:=by omega
  obtain ⟨h5,hs,hc6⟩:=hs.pubr 0 (A:=sA) (c:=sc) (l:=tl) (f:=rqc) (ty:=86) (sz:=3) rqd (fun _=>rfl)
  exact hs.ret [] (.slice sA ((tl).length) sc) (by rw[←hkn];exact ⟨_,_,tl,rfl,hc6,(hs.f.1),(hs.f.2.1)⟩)
 have phb4:=oT hb4
 refine lB 7 hb4 ?_
 refine lN (cIT (CG.skipN (CG.seq (CG.block (CG.listed (lL hs [.m 10 3] (lC 11 hs (rOf 1 oM oM _ _ hs.g) ?_)))))))
 rintro _ w16 h17 hs ⟨A8,c9,A12,c13,rfl,hc10,hc14,hA11,hA15⟩
 replace hs:=((hs.a_SlO hA11).a_SlO hA15)
 refine lR 12 86 1 ([.bool (ineg ((1:Int):Rat).num),.slice A8 ((lim (iabs ((1:Int):Rat).num)).length) c9,.slice A12 ((lim ((1:Int):Rat).den).length) c13]) hs (fun b18 w19 h20 hs=>?_)
 refine lY 13 0 86 3 sc sA tl rqc ((ineg ((1:Int):Rat).num,.slice A8 ((lim (iabs ((1:Int):Rat).num)).length) c9,.slice A12 ((lim ((1:Int):Rat).den).length) c13):RT) 56 b18 (.agg #[.bool false,.slice none 0 0,.slice none 0 0]) hs (hs.f.1) (fun A22 c23 w24 h25 hs=>?_)
 refine lL hs [.m 3 13] (lN (CG.listed (lL hs [.m 8 4] (lIn 9 ((k:Nat)+1) (k+1) ?_))))
 refine lL hs [.m 4 9] (lD ?_)
 intro a_ ka
 have q27:RTs h25 (tl++[((ineg ((1:Int):Rat).num,.slice A8 ((lim (iabs ((1:Int):Rat).num)).length) c9,.slice A12 ((lim ((1:Int):Rat).den).length) c13):RT)]) (List.replicate (k+1) ((1:Int):Rat)):=(by rw[List.replicate_succ'];exact RTs.snoc (hs.f.2.2.2.1) (rqOk hc10 hc14 (hs.f.2.2.1) (hs.f.2.1)))
 have q28:(k+1)≤n:=by omega
 replace hs:=(hs.tl.tl.tl.tl.add (K:=fun h_=>RTs h_ (tl++[((ineg ((1:Int):Rat).num,.slice A8 ((lim (iabs ((1:Int):Rat).num)).length) c9,.slice A12 ((lim ((1:Int):Rat).den).length) c13):RT)]) (List.replicate (k+1) ((1:Int):Rat))) q27)
 refine ⟨_,_,?_,⟨k+1,A22,c23,tl++[((ineg ((1:Int):Rat).num,.slice A8 ((lim (iabs ((1:Int):Rat).num)).length) c9,.slice A12 ((lim ((1:Int):Rat).den).length) c13):RT)],h25,rfl,rfl,hs.to _ _,q28⟩,ka.to [(0,.int .i64 (n:Nat)),(2,.slice none 0 0),(4,.int .i64 ((k+1):Nat)),(3,.slice A22 (((tl++[((ineg ((1:Int):Rat).num,.slice A8 ((lim (iabs ((1:Int):Rat).num)).length) c9,.slice A12 ((lim ((1:Int):Rat).den).length) c13):RT)])).length) c23)] kR⟩
 omega
theorem mSpoiltN (A:Option Addr)(cap:Nat)(ts:List LV)(ls:List Lay)(hne:0<ls.length)(hl2:ls.length≤2)(hZ:∀ i,LayS4 (ls.getD i lay0))(hp:∀ i,i<ls.length→0<(ls.getD i lay0).W.length∧0<(ls.getD i lay0).B.length)(way at_ by_:Int)(w:World)(h:Hp)(g:G w h)(hA:SlO 3 lvc lvd h A ts)(hN:RNetL h ts ls) :
    Calls Tryz.prog 23 #[.agg #[.slice A ts.length cap],.int .i64 way,.int .i64 at_,.int .i64 by_] w (Ret w h fun v h1=>∃ A c,∃ ts2:List LV,∃ ls2:List Lay,v=.agg #[.slice A ts2.length c]∧ts2.length≤c∧SlO 3 lvc lvd h1 A ts2∧RNetL h1 ts2 ls2∧ls2.length≤4∧∀ i,LaySz (ls2.getD i lay0)):=by
 have hs:=SS.start g
 replace hs:=((hs.a_SlO hA).add (K:=fun h_=>RNetL h_ ts ls) hN)
 have hlt:=(hs.f.1).len
 refine go Tryz.func23 [(0,.agg #[.slice A ts.length cap]),(1,.int .i64 way),(2,.int .i64 at_),(3,.int .i64 by_)] rfl ?_
 refine cSL (lA 4 49 ([.slice A ts.length cap]) hs (fun b1 w2 h3 hs=>?_))
 refine lA 8 49 ([.slice none 0 0]) hs (fun b4 w5 h6 hs=>?_)
 refine lNS (lR 10 168 0 ([]) hs (fun b7 w8 h9 hs=>?_))
 refine lL hs [.v 11 (.pointer (some ⟨b1,0,none⟩)),.o 12 (.slice A ts.length cap) 1 0 1] (lYz 13 168 3 lvc lvd b7 A ts cap 56 (.agg #[.int .i64 0,.slice none 0 0,.slice none 0 0]) hs (hs.f.2.2.1) oM (ln_one (hs.f.2.1)) (fun A11 c12 w13 h14 hs=>?_))
 refine lL hs [.v 14 (.pointer (some ⟨b1,0,none⟩))] (lP 1 0 ([.slice A11 ((ts).length) c12]) hs (fun w16 hs=>?_))
 refine lN (CG.seq (cR 8 [] mixed hs al_nil ?_))
 refine eV 0 15 (.pointer (some ⟨b1,0,none⟩)) ?_
 refine eO 1 16 [(1,0,1)] (.slice A11 ((ts).length) c12) hs ?_
 refine eV 2 17 (.int .i64 at_) ?_
 refine eV 3 18 (.pointer (some ⟨b1,0,none⟩)) ?_
 refine eO 4 19 [(1,0,1)] (.slice A11 ((ts).length) c12) hs ?_
 refine eV 5 20 (.int .i64 ((ts).length:Nat)) ?_
 refine eC 6 21 hs (fun _ _ hs=>hPick (at_) ((ts).length) oM oM _ _ hs.g) ?_
 rintro _ _ _ w17 h18 hs rfl
 have lp0:=pick_lt (at_) ((ts).length) oM
 obtain ⟨bR19,hbR20⟩:=hs.rowA 0 (A:=A11) (c:=c12) (m:=(ts).length) (ty:=168) (sz:=3) (cs:=(ts).flatMap lvc) oM
 subst hbR20
 refine eX 7 22 (some ⟨bR19,0,none⟩) ((ts).length) c12 3 (pick (at_) ((ts).length):Nat) (pick (at_) ((ts).length):Nat) rfl ?_
 refine eD0 hs (fun w21 h22 hs=>?_)
 refine tV 8 9 (.pointer (some ⟨bR19,0+(pick (at_) ((ts).length):Nat)*3,none⟩)) ?_
 refine tN (CG.seq (cSL (lL hs [.m 23 1] (lC 24 hs (hPick (way) 10 oM oM _ _ hs.g) ?_))))
 rintro _ w23 h24 hs rfl
 have lp1:=pick_lt (way) 10 oM
 refine lN (CG.block (cSL ?_))
 cases hb25:(((pick (way) 10:Nat):Int) == (0:Int))
 ·
  have phb25:=neOfBeq hb25
  refine lB 26 hb25 ?_
  refine lL hs [.m 25 26] (lN (cIF (cSL ?_)))
  cases hb26:(((pick (way) 10:Nat):Int) == (1:Int))
  ·
   have phb26:=neOfBeq hb26
   refine lB 34 hb26 ?_
   refine lL hs [.m 33 34] (lN (cIF (cSL ?_)))
   cases hb27:(((pick (way) 10:Nat):Int) == (2:Int))
   ·
    have phb27:=neOfBeq hb27
    refine lB 44 hb27 ?_
    refine lL hs [.m 43 44] (lN (cIF (cSL ?_)))
    cases hb28:(((pick (way) 10:Nat):Int) == (3:Int))
    ·
     have phb28:=neOfBeq hb28
     refine lB 54 hb28 ?_
     refine lL hs [.m 53 54] (lN (cIF (cSL ?_)))
     cases hb29:(((pick (way) 10:Nat):Int) == (4:Int))
     ·
      have phb29:=neOfBeq hb29
      refine lB 76 hb29 ?_
      refine lL hs [.m 75 76] (lN (cIF (cSL ?_)))
      cases hb30:(((pick (way) 10:Nat):Int) == (5:Int))
      ·
       have phb30:=neOfBeq hb30
       refine lB 82 hb30 ?_
       refine lL hs [.m 81 82] (lN (cIF (CG.skipN (cSL ?_))))
       obtain ⟨h31,hs,hc32⟩:=hs.pubr 0 (A:=some ⟨bR19,0,none⟩) (c:=c12) (l:=ts) (f:=lvc) (ty:=168) (sz:=3) lvd (fun _=>rfl)
       refine lL hs [.o 89 (.agg #[.slice (some ⟨bR19,0,none⟩) ((ts).length) c12]) 1 0 1] (lP 0 0 ([.slice (some ⟨bR19,0,none⟩) ((ts).length) c12]) hs (fun w34 hs=>?_))
       exact lN (CG.ret (hs.ret [(0,0,1)] (.agg #[.slice (some ⟨bR19,0,none⟩) ((ts).length) c12]) (⟨_,_,ts,ls,rfl,hc32,(hs.f.1),(hs.f.2.2.1),by omega,fun i=>(hZ i).sz⟩)))
      have phb30:=eq_of_beq hb30
      refine lB 82 hb30 ?_
      refine lL hs [.m 81 82] (lN (cIT (CG.listed (lL hs [.v 83 (.pointer (some ⟨b1,0,none⟩)),.o 84 (.slice (some ⟨bR19,0,none⟩) ((ts).length) c12) 1 0 1,.v 85 (.pointer (some ⟨b1,0,none⟩)),.o 86 (.slice (some ⟨bR19,0,none⟩) ((ts).length) c12) 1 0 1] (lYse 87 0 168 3 c12 bR19 ts lvc 56 (.agg #[.int .i64 0,.slice none 0 0,.slice none 0 0]) hs oM (ln_one (hs.f.2.1)) (fun A35 c36 w37 h38 hs=>?_))))))
      refine lL hs [.v 88 (.pointer (some ⟨b1,0,none⟩))] (lP 1 0 ([.slice A35 ((ts++ts).length) c36]) hs (fun w40 hs=>?_))
      refine lNS ?_
      obtain ⟨h41,hs,hc42⟩:=hs.pubr 0 (A:=A35) (c:=c36) (l:=ts++ts) (f:=lvc) (ty:=168) (sz:=3) lvd (fun _=>rfl)
      refine lL hs [.o 89 (.agg #[.slice A35 ((ts++ts).length) c36]) 1 0 1] (lP 0 0 ([.slice A35 ((ts++ts).length) c36]) hs (fun w44 hs=>?_))
      refine lN (cTo [(8,.pointer (some ⟨b4,0,none⟩))] ?_)
      exact CG.ret (hs.ret [(0,0,1)] (.agg #[.slice A35 ((ts++ts).length) c36]) (⟨_,_,ts++ts,ls++ls,rfl,hc42,(hs.f.1),rnet_app (hs.f.2.2.1) (hs.f.2.2.1),by rw[List.length_append];omega,sz_app (fun i=>(hZ i).sz) (fun i=>(hZ i).sz)⟩))
     have phb29:=eq_of_beq hb29
     refine lB 76 hb29 ?_
     refine lL hs [.m 75 76] (lN (cIT (CG.listed (lL hs [.v 77 (.pointer (some ⟨b1,0,none⟩)),.o 78 (.slice (some ⟨bR19,0,none⟩) ((ts).length) c12) 1 0 1] ?_))))
     obtain ⟨h45,hs,hc46⟩:=hs.pubr 0 (A:=some ⟨bR19,0,none⟩) (c:=c12) (l:=ts) (f:=lvc) (ty:=168) (sz:=3) lvd (fun _=>rfl)
     refine lF 79 (some ⟨bR19,0,none⟩) ((ts).length) c12 3 1 1 ?_
     refine lL hs [.v 80 (.pointer (some ⟨b1,0,none⟩))] (lP 1 0 ([.slice (if c12=1 then some ⟨bR19,0,none⟩ else (some ⟨bR19,0,none⟩:Option Addr).map (·.add (1*3))) ((ts).length-1) (c12-1)]) hs (fun w48 hs=>?_))
     refine lNS (lL hs [.o 89 (.agg #[.slice (if c12=1 then some ⟨bR19,0,none⟩ else (some ⟨bR19,0,none⟩:Option Addr).map (·.add (1*3))) ((ts).length-1) (c12-1)]) 1 0 1] (lP 0 0 ([.slice (if c12=1 then some ⟨bR19,0,none⟩ else (some ⟨bR19,0,none⟩:Option Addr).map (·.add (1*3))) ((ts).length-1) (c12-1)]) hs (fun w49 hs=>?_)))
     exact lN (CG.ret (hs.ret [(0,0,1)] (.agg #[.slice (if c12=1 then some ⟨bR19,0,none⟩ else (some ⟨bR19,0,none⟩:Option Addr).map (·.add (1*3))) ((ts).length-1) (c12-1)]) (⟨_,_,ts.drop 1,ls.drop 1,by rw[List.length_drop],by rw[List.length_drop];omega,((hs.f.1).drop 1 c12 hc46),rnet_drop (hs.f.2.2.1),by rw[List.length_drop];omega,fun i=>by rw[getD_drop_];exact (hZ _).sz⟩)))
    have phb28:=eq_of_beq hb28
    refine lB 54 hb28 ?_
    refine lL hs [.m 53 54] (lN (cIT ?_))
    obtain ⟨K_,hK_⟩:∃ K_,K_=w23.heap.size+1:=⟨_,rfl⟩
    have hKs:w23.heap.size≤K_:=by omega
    have hdr_:w23.drew.heap.size=w23.heap.size:=rfl
    refine cRa ⟨[K_],none⟩ 18 mixed ?_
    replace hs:=hs.drew
    refine aV 0 55 (.pointer (some ⟨bR19,0+(pick (at_) ((ts).length):Nat)*3,none⟩)) ?_
    refine aV 2 57 (.pointer (some ⟨bR19,0+(pick (at_) ((ts).length):Nat)*3,none⟩)) ?_
    refine aV 3 58 (.pointer (some ⟨bR19,0+(pick (at_) ((ts).length):Nat)*3,none⟩)) ?_
    refine aV 4 59 (.pointer (some ⟨bR19,0+(pick (at_) ((ts).length):Nat)*3+1,none⟩)) ?_
    obtain ⟨ekx,⟨AWx,cWx,usx,eWx,hcWx,hAWx,hTWx⟩,⟨ABx,cBx,rsx,eBx,hcBx,hABx,hTBx⟩⟩:=(hs.f.2.1).at_ (pick (at_) ((ts).length):Nat) oM
    have lux:=hTWx.len;have lbx:=hTBx.len;have hpx:=hp (pick (at_) ((ts).length):Nat) oM;have hz1:=(hZ (pick (at_) ((ts).length):Nat)).rl;have hz2:=(hZ (pick (at_) ((ts).length):Nat)).rls 0;have hz3:=(hZ (pick (at_) ((ts).length):Nat)).bl
    replace hs:=((((hs.a_SlO hAWx).add (K:=fun h_=>RVs h_ usx (ls.getD (pick (at_) ((ts).length):Nat) lay0).W) hTWx).a_SlO hABx).add (K:=fun h_=>RTs h_ rsx (ls.getD (pick (at_) ((ts).length):Nat) lay0).B) hTBx)
    refine fRq (ty:=168) (sz:=3) (c:=c12) (m:=(ts).length) (b:=bR19) (cs:=(ts).flatMap lvc) 5 60 0 (.slice AWx usx.length cWx) ([.slice AWx usx.length cWx]) hs hKs ((row_part (f:=lvc) (sz:=3) (fun _=>rfl) lvd ts (pick (at_) ((ts).length):Nat) oM 1 1 kD).trans (by show [(ts.getD (pick (at_) ((ts).length):Nat) lvd).2.1]=_;rw[eWx])) ?_
    refine aV 7 62 (.pointer (some ⟨bR19,0+(pick (at_) ((ts).length):Nat)*3,none⟩)) ?_
    refine aV 8 63 (.pointer (some ⟨bR19,0+(pick (at_) ((ts).length):Nat)*3,none⟩)) ?_
    refine aV 9 64 (.pointer (some ⟨bR19,0+(pick (at_) ((ts).length):Nat)*3+1,none⟩)) ?_
    refine fRq (ty:=168) (sz:=3) (c:=c12) (m:=(ts).length) (b:=bR19) (cs:=(ts).flatMap lvc) 10 65 0 (.slice AWx usx.length cWx) ([.slice AWx usx.length cWx]) hs hKs ((row_part (f:=lvc) (sz:=3) (fun _=>rfl) lvd ts (pick (at_) ((ts).length):Nat) oM 1 1 kD).trans (by show [(ts.getD (pick (at_) ((ts).length):Nat) lvd).2.1]=_;rw[eWx])) ?_
    refine aX 11 66 AWx usx.length cWx 1 0 0 ((hs.f.2.2.2.1).ok oM) ?_
    obtain ⟨Arq,crq,trq,erq,hcrq,hRrq,hTrq⟩:=(hs.f.2.2.1).at_ 0 oM
    have hlrq:=hTrq.len
    replace hs:=((hs.a_SlO hRrq).add (K:=fun h_=>RTs h_ trq (((ls.getD (pick (at_) ts.length) lay0).W).getD 0 [])) hTrq)
    refine fHe 12 67 (usx.getD 0 undef) hs hKs ((hs.f.2.2.2.2.2.1).el 0 oM) erq ?_
    refine aV 13 68 (.int .i64 (trq.length:Nat)) ?_
    refine aV 14 69 (.int .i64 (trq.length+1:Nat)) ?_ (hv:=fun _=>rint (n:=IntKind.wrap .i64 ((trq.length:Nat)+1)) kR ((wr64 oM oM).trans oM))
    refine fR 1 56 27 0 ([]) hs (fun b50 w51 h52 hzb50 hs=>?_)
    refine fYz 6 61 27 1 vc undef b50 AWx usx cWx 24 (.slice none 0 0) hs (hs.f.2.2.2.2.2.2.1) oM (rv_one (hs.f.2.2.2.2.2.1)) (fun A54 c55 w56 h57 hbn hs=>?_)
    refine aCu 15 70 (mUnit ((trq.length+1)) oM _ _ hs.g) ?_
    rintro _ w59 h60 u61 ⟨Au,cu,tu,rfl,hcu,hAu,hTu⟩
    replace hs:=hs.step u61
    replace hs:=((hs.a_SlO hAu).add (K:=fun h_=>RTs h_ tu (List.replicate ((trq.length+1)) ((1:Int):Rat))) hTu)
    refine fR 16 71 27 1 ([.slice Au tu.length cu]) hs (fun b62 w63 h64 hzb62 hs=>?_)
    refine fY 17 72 0 27 1 c55 A54 usx vc (.slice Au tu.length cu:Value) 24 b62 (.slice none 0 0) hs (hs.f.1) (fun b hb=>List.mem_singleton.2 (by have:=hbn b hb;omega)) (fun A66 c67 w68 h69 hs=>?_)
    refine tV 18 73 (.pointer (some ⟨bR19,0+(pick (at_) ((ts).length):Nat)*3,none⟩)) ?_
    refine tV 19 74 (.pointer (some ⟨bR19,0+(pick (at_) ((ts).length):Nat)*3+1,none⟩)) ?_
    obtain ⟨h71,hs,hc72⟩:=hs.pubr 0 (A:=A66) (c:=c67) (l:=usx++[(.slice Au tu.length cu:Value)]) (f:=vc) (ty:=27) (sz:=1) undef (fun _=>rfl)
    refine tRs 20 (ty:=168) (c:=c12) (b:=bR19) 0 (pick (at_) ((ts).length):Nat) 1 ([.slice A66 ((usx++[(.slice Au tu.length cu:Value)]).length) c67]) ts lvc 3 lvd (((ts.getD (pick (at_) ((ts).length):Nat) lvd).1,.slice A66 ((usx++[(.slice Au tu.length cu:Value)]).length) c67,(ts.getD (pick (at_) ((ts).length):Nat) lvd).2.2):LV) hs oM (fun w74 hs=>?_)
    replace hs:=hs.to [⟨b4,49,[.slice none 0 0]⟩,⟨b1,49,[.slice (some ⟨bR19,0,none⟩) ((ts).length) c12]⟩] [⟨168,3,some ⟨bR19,0,none⟩,c12,(ts).length,(ts.set (pick (at_) ((ts).length):Nat) (((ts.getD (pick (at_) ((ts).length):Nat) lvd).1,.slice A66 ((usx++[(.slice Au tu.length cu:Value)]).length) c67,(ts.getD (pick (at_) ((ts).length):Nat) lvd).2.2):LV)).flatMap lvc⟩]
    refine tN (cTo [(4,.pointer (some ⟨b1,0,none⟩)),(8,.pointer (some ⟨b4,0,none⟩))] ?_)
    refine cSL ?_
    replace hs:=hs.rown [⟨168,3,some ⟨bR19,0,none⟩,c12,(ts.set (pick (at_) ((ts).length):Nat) (((ts.getD (pick (at_) ((ts).length):Nat) lvd).1,.slice A66 ((usx++[(.slice Au tu.length cu:Value)]).length) c67,(ts.getD (pick (at_) ((ts).length):Nat) lvd).2.2):LV)).length,(ts.set (pick (at_) ((ts).length):Nat) (((ts.getD (pick (at_) ((ts).length):Nat) lvd).1,.slice A66 ((usx++[(.slice Au tu.length cu:Value)]).length) c67,(ts.getD (pick (at_) ((ts).length):Nat) lvd).2.2):LV)).flatMap lvc⟩] (by simp only[List.length_set])
    obtain ⟨h75,hs,hc76⟩:=hs.pubr 0 (A:=some ⟨bR19,0,none⟩) (c:=c12) (l:=ts.set (pick (at_) ((ts).length):Nat) (((ts.getD (pick (at_) ((ts).length):Nat) lvd).1,.slice A66 ((usx++[(.slice Au tu.length cu:Value)]).length) c67,(ts.getD (pick (at_) ((ts).length):Nat) lvd).2.2):LV)) (f:=lvc) (ty:=168) (sz:=3) lvd (fun _=>rfl)
    refine lL hs [.o 89 (.agg #[.slice (some ⟨bR19,0,none⟩) ((ts).length) c12]) 1 0 1] (lP 0 0 ([.slice (some ⟨bR19,0,none⟩) ((ts).length) c12]) hs (fun w78 hs=>?_))
    refine lN (CG.ret ?_)
    obtain ⟨rowu,hru⟩:∃ r:List Rat,List.replicate (trq.length+1) ((1:Int):Rat)=r:=⟨_,rfl⟩
    have hrl:rowu.length≤8:=by rw[←hru,List.length_replicate];have:=(hZ (pick (at_) ts.length)).rls 0;omega
    have hrq:∀ i,LQ 1 (rowu.getD i 0):=fun i=>by rw[←hru];exact lq_rep i
    exact hs.ret [(0,0,1)] (.agg #[.slice (some ⟨bR19,0,none⟩) ((ts).length) c12]) (⟨_,_,_,ls.set (pick (at_) ts.length) (⟨(ls.getD (pick (at_) ts.length) lay0).k,(ls.getD (pick (at_) ts.length) lay0).W++[rowu],(ls.getD (pick (at_) ts.length) lay0).B⟩:Lay),by rw[List.length_set],hc76,(hs.f.1),rnet_set (hs.f.2.2.2.2.2.2.2.2.2.2.2.2.2.1) (pick (at_) ts.length) oM ⟨((hs.f.2.2.2.2.2.2.2.2.2.2.2.2.2.1).at_ (pick (at_) ts.length) oM).1,⟨_,_,usx++[_],rfl,hc72,(hs.f.2.1),RVs.snoc (hs.f.2.2.2.2.2.2.2.2.2.2.1) ⟨_,_,tu,rfl,hcu,(hs.f.2.2.2.2.1),hru▸(hs.f.2.2.2.1)⟩⟩,((hs.f.2.2.2.2.2.2.2.2.2.2.2.2.2.1).at_ (pick (at_) ts.length) oM).2.2⟩,by rw[List.length_set];omega,sz_set (fun i=>(hZ i).sz) (lay_wide (hZ (pick (at_) ts.length)) hrl hrq)⟩)
   have phb27:=eq_of_beq hb27
   refine lB 44 hb27 ?_
   refine lL hs [.m 43 44] (lN (cIT (CG.listed (lL hs [.m 45 9,.m 46 9,.v 47 (.pointer (some ⟨bR19,0+(pick (at_) ((ts).length):Nat)*3,none⟩)),.v 48 (.pointer (some ⟨bR19,0+(pick (at_) ((ts).length):Nat)*3+1,none⟩))] ?_))))
   obtain ⟨ekx,⟨AWx,cWx,usx,eWx,hcWx,hAWx,hTWx⟩,⟨ABx,cBx,rsx,eBx,hcBx,hABx,hTBx⟩⟩:=(hs.f.2.1).at_ (pick (at_) ((ts).length):Nat) oM
   have lux:=hTWx.len;have lbx:=hTBx.len;have hpx:=hp (pick (at_) ((ts).length):Nat) oM;have hz1:=(hZ (pick (at_) ((ts).length):Nat)).rl;have hz2:=(hZ (pick (at_) ((ts).length):Nat)).rls 0;have hz3:=(hZ (pick (at_) ((ts).length):Nat)).bl
   replace hs:=((((hs.a_SlO hAWx).add (K:=fun h_=>RVs h_ usx (ls.getD (pick (at_) ((ts).length):Nat) lay0).W) hTWx).a_SlO hABx).add (K:=fun h_=>RTs h_ rsx (ls.getD (pick (at_) ((ts).length):Nat) lay0).B) hTBx)
   refine lRq (ty:=168) (sz:=3) (c:=c12) (m:=(ts).length) (b:=bR19) (cs:=(ts).flatMap lvc) 49 0 (.slice AWx usx.length cWx) ([.slice AWx usx.length cWx]) hs ((row_part (f:=lvc) (sz:=3) (fun _=>rfl) lvd ts (pick (at_) ((ts).length):Nat) oM 1 1 kD).trans (by show [(ts.getD (pick (at_) ((ts).length):Nat) lvd).2.1]=_;rw[eWx])) ?_
   refine lF 50 AWx usx.length cWx 1 1 1 ?_
   refine lL hs [.v 51 (.pointer (some ⟨bR19,0+(pick (at_) ((ts).length):Nat)*3,none⟩)),.v 52 (.pointer (some ⟨bR19,0+(pick (at_) ((ts).length):Nat)*3+1,none⟩))] (lRs (ty:=168) (c:=c12) (b:=bR19) 0 (pick (at_) ((ts).length):Nat) 1 ([.slice (if cWx=1 then AWx else AWx.map (·.add (1*1))) (usx.length-1) (cWx-1)]) ts lvc 3 lvd (((ts.getD (pick (at_) ((ts).length):Nat) lvd).1,.slice (if cWx=1 then AWx else AWx.map (·.add (1*1))) (usx.length-1) (cWx-1),(ts.getD (pick (at_) ((ts).length):Nat) lvd).2.2):LV) hs oM (fun w79 hs=>?_))
   replace hs:=hs.to [⟨b4,49,[.slice none 0 0]⟩,⟨b1,49,[.slice (some ⟨bR19,0,none⟩) ((ts).length) c12]⟩] [⟨168,3,some ⟨bR19,0,none⟩,c12,(ts).length,(ts.set (pick (at_) ((ts).length):Nat) (((ts.getD (pick (at_) ((ts).length):Nat) lvd).1,.slice (if cWx=1 then AWx else AWx.map (·.add (1*1))) (usx.length-1) (cWx-1),(ts.getD (pick (at_) ((ts).length):Nat) lvd).2.2):LV)).flatMap lvc⟩]
   refine lNS ?_
   replace hs:=hs.rown [⟨168,3,some ⟨bR19,0,none⟩,c12,(ts.set (pick (at_) ((ts).length):Nat) (((ts.getD (pick (at_) ((ts).length):Nat) lvd).1,.slice (if cWx=1 then AWx else AWx.map (·.add (1*1))) (usx.length-1) (cWx-1),(ts.getD (pick (at_) ((ts).length):Nat) lvd).2.2):LV)).length,(ts.set (pick (at_) ((ts).length):Nat) (((ts.getD (pick (at_) ((ts).length):Nat) lvd).1,.slice (if cWx=1 then AWx else AWx.map (·.add (1*1))) (usx.length-1) (cWx-1),(ts.getD (pick (at_) ((ts).length):Nat) lvd).2.2):LV)).flatMap lvc⟩] (by simp only[List.length_set])
   obtain ⟨h80,hs,hc81⟩:=hs.pubr 0 (A:=some ⟨bR19,0,none⟩) (c:=c12) (l:=ts.set (pick (at_) ((ts).length):Nat) (((ts.getD (pick (at_) ((ts).length):Nat) lvd).1,.slice (if cWx=1 then AWx else AWx.map (·.add (1*1))) (usx.length-1) (cWx-1),(ts.getD (pick (at_) ((ts).length):Nat) lvd).2.2):LV)) (f:=lvc) (ty:=168) (sz:=3) lvd (fun _=>rfl)
   refine lL hs [.o 89 (.agg #[.slice (some ⟨bR19,0,none⟩) ((ts).length) c12]) 1 0 1] (lP 0 0 ([.slice (some ⟨bR19,0,none⟩) ((ts).length) c12]) hs (fun w83 hs=>?_))
   exact lN (CG.ret (hs.ret [(0,0,1)] (.agg #[.slice (some ⟨bR19,0,none⟩) ((ts).length) c12]) (⟨_,_,_,ls.set (pick (at_) ts.length) (⟨(ls.getD (pick (at_) ts.length) lay0).k,(ls.getD (pick (at_) ts.length) lay0).W.drop 1,(ls.getD (pick (at_) ts.length) lay0).B⟩:Lay),by rw[List.length_set],hc81,(hs.f.1),rnet_set (hs.f.2.2.2.2.2.2.1) (pick (at_) ts.length) oM ⟨((hs.f.2.2.2.2.2.2.1).at_ (pick (at_) ts.length) oM).1,⟨_,_,usx.drop 1,by rw[List.length_drop],by rw[List.length_drop];omega,(hs.f.2.2.2.2.1).drop 1 cWx hcWx,rvs_drop (hs.f.2.2.2.1)⟩,((hs.f.2.2.2.2.2.2.1).at_ (pick (at_) ts.length) oM).2.2⟩,by rw[List.length_set];omega,sz_set (fun i=>(hZ i).sz) ⟨by rw[List.length_drop];have:=(hZ (pick (at_) ts.length)).sz.rl;omega,fun i=>by rw[getD_drop_];exact (hZ (pick (at_) ts.length)).sz.rls _,(hZ (pick (at_) ts.length)).sz.bl,fun i j=>by rw[getD_drop_];exact (hZ (pick (at_) ts.length)).sz.w _ j,(hZ (pick (at_) ts.length)).sz.b⟩⟩)))
  have phb26:=eq_of_beq hb26
  refine lB 34 hb26 ?_
  refine lL hs [.m 33 34] (lN (cIT (CG.listed (lL hs [.m 35 9,.m 36 9,.v 37 (.pointer (some ⟨bR19,0+(pick (at_) ((ts).length):Nat)*3,none⟩)),.v 38 (.pointer (some ⟨bR19,0+(pick (at_) ((ts).length):Nat)*3+2,none⟩))] ?_))))
  obtain ⟨ekx,⟨AWx,cWx,usx,eWx,hcWx,hAWx,hTWx⟩,⟨ABx,cBx,rsx,eBx,hcBx,hABx,hTBx⟩⟩:=(hs.f.2.1).at_ (pick (at_) ((ts).length):Nat) oM
  have lux:=hTWx.len;have lbx:=hTBx.len;have hpx:=hp (pick (at_) ((ts).length):Nat) oM;have hz1:=(hZ (pick (at_) ((ts).length):Nat)).rl;have hz2:=(hZ (pick (at_) ((ts).length):Nat)).rls 0;have hz3:=(hZ (pick (at_) ((ts).length):Nat)).bl
  replace hs:=((((hs.a_SlO hAWx).add (K:=fun h_=>RVs h_ usx (ls.getD (pick (at_) ((ts).length):Nat) lay0).W) hTWx).a_SlO hABx).add (K:=fun h_=>RTs h_ rsx (ls.getD (pick (at_) ((ts).length):Nat) lay0).B) hTBx)
  refine lRq (ty:=168) (sz:=3) (c:=c12) (m:=(ts).length) (b:=bR19) (cs:=(ts).flatMap lvc) 39 0 (.slice ABx rsx.length cBx) ([.slice ABx rsx.length cBx]) hs ((row_part (f:=lvc) (sz:=3) (fun _=>rfl) lvd ts (pick (at_) ((ts).length):Nat) oM 2 1 kD).trans (by show [(ts.getD (pick (at_) ((ts).length):Nat) lvd).2.2]=_;rw[eBx])) ?_
  refine lF 40 ABx rsx.length cBx 3 1 1 ?_
  refine lL hs [.v 41 (.pointer (some ⟨bR19,0+(pick (at_) ((ts).length):Nat)*3,none⟩)),.v 42 (.pointer (some ⟨bR19,0+(pick (at_) ((ts).length):Nat)*3+2,none⟩))] (lRs (ty:=168) (c:=c12) (b:=bR19) 0 (pick (at_) ((ts).length):Nat) 2 ([.slice (if cBx=1 then ABx else ABx.map (·.add (1*3))) (rsx.length-1) (cBx-1)]) ts lvc 3 lvd (((ts.getD (pick (at_) ((ts).length):Nat) lvd).1,(ts.getD (pick (at_) ((ts).length):Nat) lvd).2.1,.slice (if cBx=1 then ABx else ABx.map (·.add (1*3))) (rsx.length-1) (cBx-1)):LV) hs oM (fun w84 hs=>?_))
  replace hs:=hs.to [⟨b4,49,[.slice none 0 0]⟩,⟨b1,49,[.slice (some ⟨bR19,0,none⟩) ((ts).length) c12]⟩] [⟨168,3,some ⟨bR19,0,none⟩,c12,(ts).length,(ts.set (pick (at_) ((ts).length):Nat) (((ts.getD (pick (at_) ((ts).length):Nat) lvd).1,(ts.getD (pick (at_) ((ts).length):Nat) lvd).2.1,.slice (if cBx=1 then ABx else ABx.map (·.add (1*3))) (rsx.length-1) (cBx-1)):LV)).flatMap lvc⟩]
  refine lNS ?_
  replace hs:=hs.rown [⟨168,3,some ⟨bR19,0,none⟩,c12,(ts.set (pick (at_) ((ts).length):Nat) (((ts.getD (pick (at_) ((ts).length):Nat) lvd).1,(ts.getD (pick (at_) ((ts).length):Nat) lvd).2.1,.slice (if cBx=1 then ABx else ABx.map (·.add (1*3))) (rsx.length-1) (cBx-1)):LV)).length,(ts.set (pick (at_) ((ts).length):Nat) (((ts.getD (pick (at_) ((ts).length):Nat) lvd).1,(ts.getD (pick (at_) ((ts).length):Nat) lvd).2.1,.slice (if cBx=1 then ABx else ABx.map (·.add (1*3))) (rsx.length-1) (cBx-1)):LV)).flatMap lvc⟩] (by simp only[List.length_set])
  obtain ⟨h85,hs,hc86⟩:=hs.pubr 0 (A:=some ⟨bR19,0,none⟩) (c:=c12) (l:=ts.set (pick (at_) ((ts).length):Nat) (((ts.getD (pick (at_) ((ts).length):Nat) lvd).1,(ts.getD (pick (at_) ((ts).length):Nat) lvd).2.1,.slice (if cBx=1 then ABx else ABx.map (·.add (1*3))) (rsx.length-1) (cBx-1)):LV)) (f:=lvc) (ty:=168) (sz:=3) lvd (fun _=>rfl)
  refine lL hs [.o 89 (.agg #[.slice (some ⟨bR19,0,none⟩) ((ts).length) c12]) 1 0 1] (lP 0 0 ([.slice (some ⟨bR19,0,none⟩) ((ts).length) c12]) hs (fun w88 hs=>?_))
  exact lN (CG.ret (hs.ret [(0,0,1)] (.agg #[.slice (some ⟨bR19,0,none⟩) ((ts).length) c12]) (⟨_,_,_,ls.set (pick (at_) ts.length) (⟨(ls.getD (pick (at_) ts.length) lay0).k,(ls.getD (pick (at_) ts.length) lay0).W,(ls.getD (pick (at_) ts.length) lay0).B.drop 1⟩:Lay),by rw[List.length_set],hc86,(hs.f.1),rnet_set (hs.f.2.2.2.2.2.2.1) (pick (at_) ts.length) oM ⟨((hs.f.2.2.2.2.2.2.1).at_ (pick (at_) ts.length) oM).1,((hs.f.2.2.2.2.2.2.1).at_ (pick (at_) ts.length) oM).2.1,⟨_,_,rsx.drop 1,by rw[List.length_drop],by rw[List.length_drop];omega,(hs.f.2.2.1).drop 1 cBx hcBx,rts_drop (hs.f.2.1)⟩⟩,by rw[List.length_set];omega,sz_set (fun i=>(hZ i).sz) ⟨(hZ (pick (at_) ts.length)).sz.rl,(hZ (pick (at_) ts.length)).sz.rls,by rw[List.length_drop];have:=(hZ (pick (at_) ts.length)).sz.bl;omega,(hZ (pick (at_) ts.length)).sz.w,fun i=>by rw[getD_drop_];exact (hZ (pick (at_) ts.length)).sz.b _⟩⟩)))
 have phb25:=eq_of_beq hb25
 refine lB 26 hb25 ?_
 refine lL hs [.m 25 26] (lN (cIT (CG.listed (lL hs [.m 27 9,.m 28 3] (lC 29 hs (hPick (by_) 6 oM oM _ _ hs.g) ?_)))))
 rintro _ w89 h90 hs rfl
 have lp3:=pick_lt (by_) 6 oM
 refine lI 30 ((pick (by_) 6:Nat)-1) ?_
 refine lL hs [.v 31 (.pointer (some ⟨bR19,0+(pick (at_) ((ts).length):Nat)*3,none⟩)),.v 32 (.pointer (some ⟨bR19,0+(pick (at_) ((ts).length):Nat)*3,none⟩))] (lRs (ty:=168) (c:=c12) (b:=bR19) 0 (pick (at_) ((ts).length):Nat) 0 ([.int .i64 ((pick (by_) 6:Nat)-1)]) ts lvc 3 lvd (((pick (by_) 6:Nat)-1,(ts.getD (pick (at_) ((ts).length):Nat) lvd).2.1,(ts.getD (pick (at_) ((ts).length):Nat) lvd).2.2):LV) hs oM (fun w91 hs=>?_))
 replace hs:=hs.to [⟨b4,49,[.slice none 0 0]⟩,⟨b1,49,[.slice (some ⟨bR19,0,none⟩) ((ts).length) c12]⟩] [⟨168,3,some ⟨bR19,0,none⟩,c12,(ts).length,(ts.set (pick (at_) ((ts).length):Nat) (((pick (by_) 6:Nat)-1,(ts.getD (pick (at_) ((ts).length):Nat) lvd).2.1,(ts.getD (pick (at_) ((ts).length):Nat) lvd).2.2):LV)).flatMap lvc⟩]
 refine lNS ?_
 replace hs:=hs.rown [⟨168,3,some ⟨bR19,0,none⟩,c12,(ts.set (pick (at_) ((ts).length):Nat) (((pick (by_) 6:Nat)-1,(ts.getD (pick (at_) ((ts).length):Nat) lvd).2.1,(ts.getD (pick (at_) ((ts).length):Nat) lvd).2.2):LV)).length,(ts.set (pick (at_) ((ts).length):Nat) (((pick (by_) 6:Nat)-1,(ts.getD (pick (at_) ((ts).length):Nat) lvd).2.1,(ts.getD (pick (at_) ((ts).length):Nat) lvd).2.2):LV)).flatMap lvc⟩] (by simp only[List.length_set])
 obtain ⟨h92,hs,hc93⟩:=hs.pubr 0 (A:=some ⟨bR19,0,none⟩) (c:=c12) (l:=ts.set (pick (at_) ((ts).length):Nat) (((pick (by_) 6:Nat)-1,(ts.getD (pick (at_) ((ts).length):Nat) lvd).2.1,(ts.getD (pick (at_) ((ts).length):Nat) lvd).2.2):LV)) (f:=lvc) (ty:=168) (sz:=3) lvd (fun _=>rfl)
 refine lL hs [.o 89 (.agg #[.slice (some ⟨bR19,0,none⟩) ((ts).length) c12]) 1 0 1] (lP 0 0 ([.slice (some ⟨bR19,0,none⟩) ((ts).length) c12]) hs (fun w95 hs=>?_))
 exact lN (CG.ret (hs.ret [(0,0,1)] (.agg #[.slice (some ⟨bR19,0,none⟩) ((ts).length) c12]) (⟨_,_,_,ls.set (pick (at_) ts.length) (⟨(pick (by_) 6:Nat)-1,(ls.getD (pick (at_) ts.length) lay0).W,(ls.getD (pick (at_) ts.length) lay0).B⟩:Lay),by rw[List.length_set],hc93,(hs.f.1),rnet_set (hs.f.2.2.1) (pick (at_) ts.length) oM ⟨rfl,((hs.f.2.2.1).at_ (pick (at_) ts.length) oM).2.1,((hs.f.2.2.1).at_ (pick (at_) ts.length) oM).2.2⟩,by rw[List.length_set];omega,sz_set (fun i=>(hZ i).sz) ⟨(hZ (pick (at_) ts.length)).sz.rl,(hZ (pick (at_) ts.length)).sz.rls,(hZ (pick (at_) ts.length)).sz.bl,(hZ (pick (at_) ts.length)).sz.w,(hZ (pick (at_) ts.length)).sz.b⟩⟩)))
theorem lRow30 (A:Option Addr)(c:Nat)(zs:List Int)(hl:zs.length≤9223372036854775807)(hz:I64s zs)(n:Nat)(hn:n≤1000)(odd:Int)(w:World)(h:Hp)(g:G w h)(hA:SlO 1 i64c 0 h A zs) :
    Calls Tryz.prog 25 #[.slice A zs.length c,.int .i64 (n:Nat),.int .i64 odd] w (Ret w h fun v h1=>∃ A c ts m,v=.slice A (ts:List RT).length c∧ts.length≤c∧SlO 3 rqc rqd h1 A ts∧RTs h1 ts (rowq zs m)∧m≤n+1):=by
 have hs:=SS.start g
 replace hs:=(hs.a_SlO hA)
 refine go Tryz.func25 [(0,.slice A zs.length c),(1,.int .i64 (n:Nat)),(2,.int .i64 odd)] rfl ?_
 refine cSL (lL hs [.v 6 (.slice none 0 0)] (lN (CG.join (fun Γ w_=>∃ (m:Nat) (h_:Hp),Γ=[(0,.slice A zs.length c),(6,.slice none 0 0),(1,.int .i64 (m:Nat))]∧SS w h w_ h_ [] [] [fun h_=>SlO 1 i64c 0 h_ A zs]∧(m≤n+1)) ?_ ?_)))
 ·
  refine cSL (lL hs [.m 7 2] (lC 8 hs (hPick (odd) 9 oM oM _ _ hs.g) ?_))
  rintro _ w2 h3 hs rfl
  have lp1:=pick_lt (odd) 9 oM
  cases hb4:(((pick (odd) 9:Nat):Int) == (8:Int))
  ·
   have phb4:=neOfBeq hb4
   refine lB 9 hb4 ?_
   refine lN (cIF (CG.skip ?_))
   intro a_ ka
   have q5:n≤n+1:=by omega
   exact ⟨_,⟨n,h3,rfl,hs.to _ _,q5⟩,ka.to [(0,.slice A zs.length c),(6,.slice none 0 0),(1,.int .i64 (n:Nat))] kR⟩
  have phb4:=eq_of_beq hb4
  refine lB 9 hb4 ?_
  refine lN (cIT (CG.listed (lL hs [.m 10 1] (lIn 11 ((n:Nat)+1) (n+1) ?_))))
  refine lL hs [.m 1 11] (lD ?_)
  intro a_ ka
  have q6:(n+1)≤n+1:=by omega
  exact ⟨_,⟨(n+1),h3,rfl,hs.to _ _,q6⟩,ka.to [(0,.slice A zs.length c),(6,.slice none 0 0),(1,.int .i64 ((n+1):Nat))] kR⟩
 rintro _ w7 ⟨m,h8,rfl,hs,hm⟩
 refine cSL (lL hs [.m 12 0,.m 13 1] (lC 14 hs (hRow A c zs m oM hl hz _ _ hs.g (hs.f.1)) ?_))
 rintro _ w9 h10 hs ⟨Ar,cr,tr,rfl,hcr,hAr,hTr⟩
 replace hs:=((hs.a_SlO hAr).add (K:=fun h_=>RTs h_ tr (rowq zs m)) hTr)
 exact lL hs [.m 6 14] (lN (CG.ret (hs.ret [] (.slice Ar tr.length cr) (⟨_,_,tr,m,rfl,hcr,(hs.f.2.1),(hs.f.1),hm⟩))))
theorem lq_get {k:Nat}{l:List Rat}(h:∀ q∈l,LQ k q)(hk:1≤k)(j:Nat):LQ k (l.getD j 0):=by
  rw[List.getD_eq_getElem?_getD]
  cases hh:l[j]? with
  | none=>exact lq0 hk
  | some q=>exact h q (List.mem_of_getElem? hh)
def knownN:List Lay:=[⟨2,[[((1:Int):Rat),((-1:Int):Rat)]],[((0:Int):Rat)]⟩]
theorem knownChk:chkq knownN=0:=by
  have hF:Fine knownN 0:=⟨⟨by decide,by decide,fun i hi=>(by obtain rfl:i=0:=Nat.lt_one_iff.1 hi;rfl)⟩,by decide,rfl,fun _=>by decide,fun h=>absurd h kD⟩
  have hK:Kd knownN 0:=⟨by decide,by decide⟩
  unfold chkq
  rw[if_pos ⟨by decide,by decide⟩]
  have e:chkFrom knownN 0 (0+1)=0:=by
    unfold chkFrom
    rw[if_pos hF,if_pos hK];rfl
  exact e
theorem knownSz (i:Nat):LaySz (knownN.getD i lay0):=by
  rcases Nat.eq_zero_or_pos i with h|h
  · subst h
    refine ⟨by decide,fun i=>?_,by decide,fun i j=>?_,lq_get (by intro q hq;have:q=((0:Int):Rat):=List.mem_singleton.1 hq;rw[this];exact LQ.lit kD) oM⟩
    · cases i with
      | zero=>decide
      | succ i=>exact Nat.zero_le _
    · cases i with
      | zero=>exact lq_get (by intro q hq;rcases List.mem_cons.1 hq with rfl|hq;exact LQ.lit kD;rw[List.mem_singleton.1 hq];exact LQ.lit kD) oM j
      | succ i=>exact lq0 oM
  · obtain ⟨k,rfl⟩:∃ k,i=k+1:=⟨i-1,by omega⟩
    exact lay0_sz
theorem knownE (a:Int):ansE knownN [(a:Rat),((2:Int):Rat)]=0:=ansE0 knownChk rfl
theorem knownL1:ansL knownN [((1:Int):Rat),((2:Int):Rat)]=[0]:=by rw[ansL0 (xs:=[((1:Int):Rat),((2:Int):Rat)]) knownChk rfl];decide +kernel
theorem knownL5:ansL knownN [((5:Int):Rat),((2:Int):Rat)]=[3]:=by rw[ansL0 (xs:=[((5:Int):Rat),((2:Int):Rat)]) knownChk rfl];decide +kernel
theorem lKnown30  (w:World)(h:Hp)(g:G w h)(tb:Tab h) :
    Calls Tryz.prog 30 #[] w (Ret w h fun v _=>v=.bool true):=by
 have hs:=SS.start g
 replace hs:=(hs.add (K:=fun h_=>Tab h_) tb)
 have hk1:(ansL knownN ([((1:Int):Rat),((2:Int):Rat)]:List Rat)).length=1:=by rw[knownL1];rfl
 have hk5:(ansL knownN ([((5:Int):Rat),((2:Int):Rat)]:List Rat)).length=1:=by rw[knownL5];rfl
 refine go Tryz.func30 [] rfl ?_
 refine cSL (lL hs [.v 0 (.bool false)] (lNS (lC 6 hs (fOf 1 oM oM _ _ hs.g) ?_)))
 rintro _ w1 h2 hs rfl
 refine lC 7 hs (fOf (-1) oM oM _ _ hs.g) ?_
 rintro _ w3 h4 hs rfl
 refine lR 8 74 2 ([.bool (ineg ((1:Int):Rat).num),.int .u64 (lo (iabs ((1:Int):Rat).num)),.string (hi (iabs ((1:Int):Rat).num)),.int .u64 (lo (qd ((1:Int):Rat))),.string (hi (qd ((1:Int):Rat))),.bool (ineg ((-1:Int):Rat).num),.int .u64 (lo (iabs ((-1:Int):Rat).num)),.string (hi (iabs ((-1:Int):Rat).num)),.int .u64 (lo (qd ((-1:Int):Rat))),.string (hi (qd ((-1:Int):Rat)))]) hs (fun b5 w6 h7 hs=>?_)
 replace hs:=hs.a_SlO (SlO.of_flat (sz:=5) (f:=qc) (d:=0) (b:=b5) (o:=0) (l:=([((1:Int):Rat),((-1:Int):Rat)]:List Rat)) (fun _=>rfl) (hs.f.1))
 refine lR 9 35 1 ([.slice (some ⟨b5,0,none⟩) 2 2]) hs (fun b10 w11 h12 hs=>?_)
 replace hs:=hs.a_SlO (SlO.of_flat (sz:=1) (f:=vc) (d:=undef) (b:=b10) (o:=0) (l:=([.slice (some ⟨b5,0,none⟩) 2 2]:List Value)) (fun _=>rfl) (hs.f.1))
 refine lC 10 hs (fOf 0 oM oM _ _ hs.g) ?_
 rintro _ w15 h16 hs rfl
 refine lR 11 74 1 (qc ((0:Int):Rat)) hs (fun b17 w18 h19 hs=>?_)
 replace hs:=hs.a_SlO (SlO.of_flat (sz:=5) (f:=qc) (d:=0) (b:=b17) (o:=0) (l:=([((0:Int):Rat)]:List Rat)) (fun _=>rfl) (hs.f.1))
 refine lL hs [.v 12 (.agg #[.int .i64 2,.slice (some ⟨b10,0,none⟩) 1 1,.slice (some ⟨b17,0,none⟩) 1 1])] (lR 13 114 1 ([.int .i64 2,.slice (some ⟨b10,0,none⟩) 1 1,.slice (some ⟨b17,0,none⟩) 1 1]) hs (fun b22 w23 h24 hs=>?_))
 replace hs:=hs.a_SlO (SlO.of_flat (sz:=3) (f:=lvc) (d:=lvd) (b:=b22) (o:=0) (l:=([(2,.slice (some ⟨b10,0,none⟩) 1 1,.slice (some ⟨b17,0,none⟩) 1 1)]:List LV)) (fun _=>rfl) (hs.f.1))
 replace hs:=hs.add (K:=fun h_=>NetL h_ ([(2,.slice (some ⟨b10,0,none⟩) 1 1,.slice (some ⟨b17,0,none⟩) 1 1)]:List LV) knownN) (NetL.snoc NetL.nil ⟨rfl,⟨_,_,([.slice (some ⟨b5,0,none⟩) 2 2]:List Value),rfl,Nat.le_refl _,(hs.f.2.2.2.2.1),QVs.snoc QVs.nil ⟨_,_,rfl,Nat.le_refl _,(hs.f.2.2.2.2.2.2.1)⟩⟩,⟨_,_,rfl,Nat.le_refl _,(hs.f.2.2.1)⟩⟩)
 refine lL hs [.v 14 (.agg #[.slice (some ⟨b22,0,none⟩) 1 1])] (lA 1 57 ([.slice none 0 0]) hs (fun b27 w28 h29 hs=>?_))
 refine lP 0 0 ([.slice (some ⟨b22,0,none⟩) 1 1]) hs (fun w30 hs=>?_)
 refine lN (CG.seq (cR 8 [] mixed hs al_nil ?_))
 refine eO 0 16 [(0,0,1)] (.agg #[.slice (some ⟨b22,0,none⟩) 1 1]) hs ?_
 refine eC 1 17 hs (fun _ _ hs=>fOf 1 oM oM _ _ hs.g) ?_
 rintro _ _ _ w31 h32 hs rfl
 refine eC 2 18 hs (fun _ _ hs=>fOf 2 oM oM _ _ hs.g) ?_
 rintro _ _ _ w33 h34 hs rfl
 refine eR 3 19 74 2 ([.bool (ineg ((1:Int):Rat).num),.int .u64 (lo (iabs ((1:Int):Rat).num)),.string (hi (iabs ((1:Int):Rat).num)),.int .u64 (lo (qd ((1:Int):Rat))),.string (hi (qd ((1:Int):Rat))),.bool (ineg ((2:Int):Rat).num),.int .u64 (lo (iabs ((2:Int):Rat).num)),.string (hi (iabs ((2:Int):Rat).num)),.int .u64 (lo (qd ((2:Int):Rat))),.string (hi (qd ((2:Int):Rat)))]) hs (fun b35 w36 h37 hs=>?_)
 replace hs:=hs.a_SlO (SlO.of_flat (sz:=5) (f:=qc) (d:=0) (b:=b35) (o:=0) (l:=([((1:Int):Rat),((2:Int):Rat)]:List Rat)) (fun _=>rfl) (hs.f.1))
 refine eC 4 20 hs (fun _ _ hs=>nAnswer (some ⟨b22,0,none⟩) 1 ([(2,.slice (some ⟨b10,0,none⟩) 1 1,.slice (some ⟨b17,0,none⟩) 1 1)]:List LV) knownN kD (fun i _=>(knownSz i).len) (some ⟨b35,0,none⟩) 2 ([((1:Int):Rat),((2:Int):Rat)]:List Rat) (Nat.le_refl _) (fun _ h2=>netB (chk_net3 knownChk) knownSz h2 (lq_get (by intro q hq;simp only[List.mem_cons,List.not_mem_nil,or_false] at hq;rcases hq with rfl|rfl<;>exact LQ.lit kD) oM)) _ _ hs.g (hs.f.2.2.2.1) (hs.f.2.2.1) (hs.f.1) (hs.f.2.2.2.2.2.2.2.2.2.2.2.1)) ?_
 rintro _ _ _ w40 h41 hs ⟨Aa1,ca1,rfl,hca1,hAa1⟩
 replace hs:=(hs.a_SlO hAa1)
 refine eV 5 15 (.tuple #[.slice Aa1 ((ansL knownN ([((1:Int):Rat),((2:Int):Rat)]:List Rat)).length) ca1,.int .i64 (ansE knownN ([((1:Int):Rat),((2:Int):Rat)]:List Rat))]) ?_
 refine eV 6 21 (.slice Aa1 ((ansL knownN ([((1:Int):Rat),((2:Int):Rat)]:List Rat)).length) ca1) ?_
 refine eV 7 22 (.int .i64 (ansE knownN ([((1:Int):Rat),((2:Int):Rat)]:List Rat))) ?_
 refine eD0 hs (fun w42 h43 hs=>?_)
 refine tV 8 2 (.slice Aa1 ((ansL knownN ([((1:Int):Rat),((2:Int):Rat)]:List Rat)).length) ca1) ?_
 refine tV 9 3 (.int .i64 (ansE knownN ([((1:Int):Rat),((2:Int):Rat)]:List Rat))) ?_
 refine tN (CG.seq (cR 8 [] mixed hs al_nil ?_))
 refine eO 0 24 [(0,0,1)] (.agg #[.slice (some ⟨b22,0,none⟩) 1 1]) hs ?_
 refine eC 1 25 hs (fun _ _ hs=>fOf 5 oM oM _ _ hs.g) ?_
 rintro _ _ _ w44 h45 hs rfl
 refine eC 2 26 hs (fun _ _ hs=>fOf 2 oM oM _ _ hs.g) ?_
 rintro _ _ _ w46 h47 hs rfl
 refine eR 3 27 74 2 ([.bool (ineg ((5:Int):Rat).num),.int .u64 (lo (iabs ((5:Int):Rat).num)),.string (hi (iabs ((5:Int):Rat).num)),.int .u64 (lo (qd ((5:Int):Rat))),.string (hi (qd ((5:Int):Rat))),.bool (ineg ((2:Int):Rat).num),.int .u64 (lo (iabs ((2:Int):Rat).num)),.string (hi (iabs ((2:Int):Rat).num)),.int .u64 (lo (qd ((2:Int):Rat))),.string (hi (qd ((2:Int):Rat)))]) hs (fun b48 w49 h50 hs=>?_)
 replace hs:=hs.a_SlO (SlO.of_flat (sz:=5) (f:=qc) (d:=0) (b:=b48) (o:=0) (l:=([((5:Int):Rat),((2:Int):Rat)]:List Rat)) (fun _=>rfl) (hs.f.1))
 refine eC 4 28 hs (fun _ _ hs=>nAnswer (some ⟨b22,0,none⟩) 1 ([(2,.slice (some ⟨b10,0,none⟩) 1 1,.slice (some ⟨b17,0,none⟩) 1 1)]:List LV) knownN kD (fun i _=>(knownSz i).len) (some ⟨b48,0,none⟩) 2 ([((5:Int):Rat),((2:Int):Rat)]:List Rat) (Nat.le_refl _) (fun _ h2=>netB (chk_net3 knownChk) knownSz h2 (lq_get (by intro q hq;simp only[List.mem_cons,List.not_mem_nil,or_false] at hq;rcases hq with rfl|rfl<;>exact LQ.lit kD) oM)) _ _ hs.g (hs.f.2.2.2.2.2.2.1) (hs.f.2.2.2.2.2.1) (hs.f.1) (hs.f.2.2.2.2.2.2.2.2.2.2.2.2.2.2.1)) ?_
 rintro _ _ _ w53 h54 hs ⟨Aa5,ca5,rfl,hca5,hAa5⟩
 replace hs:=(hs.a_SlO hAa5)
 refine eV 5 23 (.tuple #[.slice Aa5 ((ansL knownN ([((5:Int):Rat),((2:Int):Rat)]:List Rat)).length) ca5,.int .i64 (ansE knownN ([((5:Int):Rat),((2:Int):Rat)]:List Rat))]) ?_
 refine eV 6 29 (.slice Aa5 ((ansL knownN ([((5:Int):Rat),((2:Int):Rat)]:List Rat)).length) ca5) ?_
 refine eV 7 30 (.int .i64 (ansE knownN ([((5:Int):Rat),((2:Int):Rat)]:List Rat))) ?_
 refine eD0 hs (fun w55 h56 hs=>?_)
 refine tV 8 4 (.slice Aa5 ((ansL knownN ([((5:Int):Rat),((2:Int):Rat)]:List Rat)).length) ca5) ?_
 refine tV 9 5 (.int .i64 (ansE knownN ([((5:Int):Rat),((2:Int):Rat)]:List Rat))) ?_
 refine tNS ?_
 refine lL hs [.m 31 3] ?_
 have hb57:((ansE knownN ([((1:Int):Rat),((2:Int):Rat)]:List Rat):Int) == (0:Int))=true:=by rw[knownE];rfl
 have phb57:=eq_of_beq hb57
 refine lB 32 hb57 ?_
 refine lL hs [.m 33 32,.m 34 2,.v 35 (.int .i64 ((ansL knownN ([((1:Int):Rat),((2:Int):Rat)]:List Rat)).length:Nat))] ?_
 have hb58:((((ansL knownN ([((1:Int):Rat),((2:Int):Rat)]:List Rat)).length:Nat):Int) == (1:Int))=true:=by rw[hk1];rfl
 have phb58:=eq_of_beq hb58
 refine lB 36 hb58 ?_
 refine lL hs [.v 37 (.bool true),.m 38 37,.m 39 2] (lX 40 Aa1 ((ansL knownN ([((1:Int):Rat),((2:Int):Rat)]:List Rat)).length) ca1 5 0 0 ((hs.f.2.2.2.1).ok oM) ?_)
 refine lH 41 (qv ((ansL knownN ([((1:Int):Rat),((2:Int):Rat)]:List Rat)).getD 0 0)) hs ((hs.f.2.2.2.1).el 0 oM) ?_
 refine lC 42 hs (hIs ((ansL knownN ([((1:Int):Rat),((2:Int):Rat)]:List Rat)).getD 0 0) 0 1 (by rw[knownL1];exact ⟨by decide +kernel,by decide +kernel⟩) kD kD kD kD kD _ _ hs.g) ?_
 rintro _ w59 h60 hs rfl
 have hb61:(sameQ ((ansL knownN ([((1:Int):Rat),((2:Int):Rat)]:List Rat)).getD 0 0) (mkR 0 1))=true:=by rw[knownL1];decide +kernel
 rw[hb61]
 refine lL hs [.v 43 (.bool true),.m 44 43,.m 45 5] ?_
 have hb62:((ansE knownN ([((5:Int):Rat),((2:Int):Rat)]:List Rat):Int) == (0:Int))=true:=by rw[knownE];rfl
 have phb62:=eq_of_beq hb62
 refine lB 46 hb62 ?_
 refine lL hs [.v 47 (.bool true),.m 48 47,.m 49 4] (lX 50 Aa5 ((ansL knownN ([((5:Int):Rat),((2:Int):Rat)]:List Rat)).length) ca5 5 0 0 ((hs.f.1).ok oM) ?_)
 refine lH 51 (qv ((ansL knownN ([((5:Int):Rat),((2:Int):Rat)]:List Rat)).getD 0 0)) hs ((hs.f.1).el 0 oM) ?_
 refine lC 52 hs (hIs ((ansL knownN ([((5:Int):Rat),((2:Int):Rat)]:List Rat)).getD 0 0) 3 1 (by rw[knownL5];exact ⟨by decide +kernel,by decide +kernel⟩) kD kD kD kD kD _ _ hs.g) ?_
 rintro _ w63 h64 hs rfl
 have hb65:(sameQ ((ansL knownN ([((5:Int):Rat),((2:Int):Rat)]:List Rat)).getD 0 0) (mkR 3 1))=true:=by rw[knownL5];decide +kernel
 rw[hb65]
 refine lL hs [.v 53 (.bool true),.m 0 53] (lN (cTo [(0,.bool true)] ?_))
 exact CG.ret (hs.ret [] (.bool true) rfl)
theorem mk_s4 {ls:List Lay}{i m o kd:Int}(hl:ls.length+1=(netSizes i m o).length)(h:∀ k,k<ls.length→LayMk (ls.getD k lay0) (pick (kindAt kd k) 3+1:Nat) ((netSizes i m o).getD (k+1) 0) ((netSizes i m o).getD k 0)) :
    0<ls.length∧ls.length≤2∧(∀ k,LayS4 (ls.getD k lay0))∧∀ k,k<ls.length→0<(ls.getD k lay0).W.length∧0<(ls.getD k lay0).B.length:=by
  have hs:=sizes_len i m o
  refine ⟨by omega,by omega,fun k=>?_,fun k hk=>?_⟩
  · rcases Nat.lt_or_ge k ls.length with hk|hk
    · have L:=h k hk
      have s1:=sizes_le i m o k
      have s2:=sizes_le i m o (k+1)
      refine ⟨by rw[L.rows];exact s2,fun a=>?_,by rw[L.bl];exact s2,fun a b=>?_,lq_get (fun q hq=>?_) oM⟩
      · rw[List.getD_eq_getElem?_getD]
        cases hh:(ls.getD k lay0).W[a]? with
        | none=>exact Nat.zero_le _
        | some r=>have:=(L.row r (List.mem_of_getElem? hh)).1;show r.length≤4;omega
      · have hr:∀ r,(ls.getD k lay0).W[a]?=some r→LQ 1 (r.getD b 0):=fun r hh=>lq_get (fun q hq=>by obtain ⟨z,rfl⟩:=(L.row r (List.mem_of_getElem? hh)).2 q hq;exact LQ.small z) oM b
        rw[List.getD_eq_getElem?_getD (l:=(ls.getD k lay0).W)]
        cases hh:(ls.getD k lay0).W[a]? with
        | none=>exact lq0 oM
        | some r=>exact hr r hh
      · obtain ⟨z,rfl⟩:=L.bs q hq;exact LQ.small z
    · rw[List.getD_eq_getElem?_getD,List.getElem?_eq_none hk]
      exact ⟨by decide,fun i=>by simp[lay0],by decide,fun i j=>by simp[lay0];exact lq0 oM,fun i=>by simp[lay0];exact lq0 oM⟩
  · have L:=h k hk
    have:=sizes_pos i m o (k+1) oM
    exact ⟨by rw[L.rows];exact this,by rw[L.bl];exact this⟩
theorem clsq1 {ls:List Lay}{xs:List Rat}(h:¬(chkq ls=0∧xs.length=dOf ls 0)):clsq ls xs=0:=by unfold clsq;rw[if_neg h]
theorem clsq0 {ls:List Lay}{xs:List Rat}(h1:chkq ls=0)(h2:xs.length=dOf ls 0):clsq ls xs=((topF (outq ls xs ls.length) (outq ls xs ls.length).length:Nat):Int):=by unfold clsq;rw[if_pos ⟨h1,h2⟩,ansL0 h1 h2]
theorem outq_pos {ls:List Lay}{d:Nat→Nat}(o:Net3 ls d){xs:List Rat}(hx:xs.length=d 0):0<(outq ls xs ls.length).length∧(outq ls xs ls.length).length≤20:=by
  have hl:=o.len
  have L:=o.lay (ls.length-1) oM
  have e:=outq_len o hx ls.length (Nat.le_refl _)
  have e2:ls.length-1+1=ls.length:=by omega
  rw[e2] at L
  have:=L.1.rpos
  have:=L.2.2.1
  omega
theorem lNetAnswers (A0:Option Addr)(c0:Nat)(zl:List Int)(A1:Option Addr)(c1:Nat)(zv:List Int)(i_ m_ o_ kd way at_ by_ odd:Int)(hl0:zl.length≤9223372036854775807)(hz0:I64s zl)(hl1:zv.length≤9223372036854775807)(hz1:I64s zv)(hkd : -9223372036854775808≤kd∧kd≤9223372036854775807)(w:World)(h:Hp)(g:G w h)(hA0:SlO 1 i64c 0 h A0 zl)(hA1:SlO 1 i64c 0 h A1 zv)(tb:Tab h) :
    Calls Tryz.prog 4 #[.slice A0 zl.length c0,.slice A1 zv.length c1,.int .i64 i_,.int .i64 m_,.int .i64 o_,.int .i64 kd,.int .i64 way,.int .i64 at_,.int .i64 by_,.int .i64 odd] w (Ret w h fun v _=>v=.bool true):=by
 have hs:=SS.start g
 replace hs:=(((hs.a_SlO hA0).a_SlO hA1).add (K:=fun h_=>Tab h_) tb)
 refine go Tryz.func4 [(0,.slice A0 zl.length c0),(1,.slice A1 zv.length c1),(2,.int .i64 i_),(3,.int .i64 m_),(4,.int .i64 o_),(5,.int .i64 kd),(6,.int .i64 way),(7,.int .i64 at_),(8,.int .i64 by_),(9,.int .i64 odd)] rfl ?_
 refine cSL (lL hs [.v 20 (.bool false)] (lNS (lL hs [.m 28 0,.m 29 2,.m 30 3,.m 31 4,.m 32 5] (lC 33 hs (mNet A0 c0 zl hl0 hz0 i_ m_ o_ kd hkd _ _ hs.g (hs.f.2.2.1)) ?_))))
 rintro _ w1 h2 hs ⟨An,cn,ts,ls,rfl,hcn,hAn,hNn,hln,hMk⟩
 replace hs:=((hs.a_SlO hAn).add (K:=fun h_=>RNetL h_ ts ls) hNn)
 obtain ⟨hne,hl2,hZ4,hpp⟩:=mk_s4 hln hMk
 refine lL hs [.m 34 6,.m 35 7,.m 36 8] (lC 37 hs (mSpoiltN An cn ts ls hne hl2 hZ4 hpp way at_ by_ _ _ hs.g (hs.f.2.1) (hs.f.1)) ?_)
 rintro _ w3 h4 hs ⟨As,cs,ts2,ls2,rfl,hcs,hAs,hNs,hl4,hZ2⟩
 replace hs:=((hs.a_SlO hAs).add (K:=fun h_=>RNetL h_ ts2 ls2) hNs)
 refine lA 21 49 ([.slice none 0 0]) hs (fun b5 w6 h7 hs=>?_)
 refine lP 0 0 ([.slice As ts2.length cs]) hs (fun w8 hs=>?_)
 refine lNS (lL hs [.m 38 1,.m 39 2] (lC 40 hs (hPick (i_) 3 oM oM _ _ hs.g) ?_))
 rintro _ w10 h11 hs rfl
 have lp9:=pick_lt (i_) 3 oM
 refine lIn 41 ((pick (i_) 3:Nat)+1) ((pick (i_) 3)+1) ?_
 refine lL hs [.m 42 9] (lC 43 hs (lRow30 A1 c1 zv hl1 hz1 ((pick (i_) 3)+1:Nat) oM odd _ _ hs.g (hs.f.2.2.2.2.2.1)) ?_)
 rintro _ w12 h13 hs ⟨Ar,cr,tr,m,rfl,hcr,hAr,hTr,hm⟩
 replace hs:=((hs.a_SlO hAr).add (K:=fun h_=>RTs h_ tr (rowq zv m)) hTr)
 have hlr:=((hs.f.1)).len
 have hlm:=rowq_len zv m
 refine lL hs [.m 22 43] (lNS (lL hs [.o 45 (.agg #[.slice As ts2.length cs]) 0 0 1] (lC 46 hs (mInNet As cs ts2 ls2 oM (fun i _=>(hZ2 i).fit) _ _ hs.g (hs.f.2.2.2.1) (hs.f.2.2.1) (hs.f.2.2.2.2.2.2.1)) ?_)))
 rintro _ w14 h15 hs ⟨Ai1,ci1,ti1,rfl,hci1,hAi1,hNi1⟩
 replace hs:=((hs.a_SlO hAi1).add (K:=fun h_=>NetL h_ ti1 ls2) hNi1)
 refine lL hs [.m 47 22] (lC 48 hs (hInRow Ar cr tr (rowq zv m) oM (fun i _=>(rowq_lq zv m i).mono oM) _ _ hs.g (hs.f.2.2.2.1) (hs.f.2.2.1) (hs.f.2.2.2.2.2.2.2.2.1)) ?_)
 rintro _ w16 h17 hs ⟨Ax1,cx1,rfl,hcx1,hAx1⟩
 replace hs:=(hs.a_SlO hAx1)
 refine lC 49 hs (nAnswer Ai1 ci1 ti1 ls2 oM (fun i _=>(hZ2 i).len) Ax1 cx1 (rowq zv m) hcx1 (fun h1 h2=>netB (chk_net3 h1) hZ2 h2 (rowq_lq zv m)) _ _ hs.g (hs.f.2.2.1) (hs.f.2.1) (hs.f.1) (hs.f.2.2.2.2.2.2.2.2.2.1)) ?_
 rintro _ w18 h19 hs ⟨Aa,ca,rfl,hca,hAa⟩
 replace hs:=(hs.a_SlO hAa)
 refine lL hs [.m 44 49,.v 50 (.slice Aa ((ansL ls2 (rowq zv m)).length) ca),.v 51 (.int .i64 (ansE ls2 (rowq zv m))),.m 23 50,.m 24 51] (lNS (lL hs [.o 53 (.agg #[.slice As ts2.length cs]) 0 0 1] (lC 54 hs (mInNet As cs ts2 ls2 oM (fun i _=>(hZ2 i).fit) _ _ hs.g (hs.f.2.2.2.2.2.2.2.1) (hs.f.2.2.2.2.2.2.1) (hs.f.2.2.2.2.2.2.2.2.2.2.1)) ?_)))
 rintro _ w20 h21 hs ⟨Ai2,ci2,ti2,rfl,hci2,hAi2,hNi2⟩
 replace hs:=((hs.a_SlO hAi2).add (K:=fun h_=>NetL h_ ti2 ls2) hNi2)
 refine lL hs [.m 55 22] (lC 56 hs (hInRow Ar cr tr (rowq zv m) oM (fun i _=>(rowq_lq zv m i).mono oM) _ _ hs.g (hs.f.2.2.2.2.2.2.2.1) (hs.f.2.2.2.2.2.2.1) (hs.f.2.2.2.2.2.2.2.2.2.2.2.2.1)) ?_)
 rintro _ w22 h23 hs ⟨Ax2,cx2,rfl,hcx2,hAx2⟩
 replace hs:=(hs.a_SlO hAx2)
 refine lC 57 hs (nClass Ai2 ci2 ti2 ls2 oM (fun i _=>(hZ2 i).len) Ax2 cx2 (rowq zv m) hcx2 (fun h1 h2=>netB (chk_net3 h1) hZ2 h2 (rowq_lq zv m)) _ _ hs.g (hs.f.2.2.1) (hs.f.2.1) (hs.f.1) (hs.f.2.2.2.2.2.2.2.2.2.2.2.2.2.1)) ?_
 rintro _ w24 h25 hs rfl
 refine lL hs [.m 52 57,.v 58 (.int .i64 (clsq ls2 (rowq zv m))),.v 59 (.int .i64 (ansE ls2 (rowq zv m))),.m 25 58,.m 26 59] (lN (cTo [(20,.bool false),(21,.pointer (some ⟨b5,0,none⟩)),(22,.slice Ar tr.length cr),(23,.slice Aa ((ansL ls2 (rowq zv m)).length) ca),(24,.int .i64 (ansE ls2 (rowq zv m))),(25,.int .i64 (clsq ls2 (rowq zv m))),(26,.int .i64 (ansE ls2 (rowq zv m)))] ?_))
 refine CG.seq (CG.block (cSL (lL hs [.o 61 (.agg #[.slice As ts2.length cs]) 0 0 1] (lC 62 hs (rCheckG As cs ts2 ls2 oM (fun i _=>(hZ2 i).len) _ _ hs.g (hs.f.2.2.2.2.2.2.2.2.2.2.1) (hs.f.2.2.2.2.2.2.2.2.2.1)) ?_))))
 rintro _ w26 h27 hs rfl
 cases hb28:((chkq ls2:Int) != (0:Int))
 ·
  have phb28:=eqOfBne hb28
  refine lB 63 hb28 ?_
  refine lL hs [.m 60 63] (lN (cIF (cSL (lL hs [.m 83 22,.v 84 (.int .i64 (tr.length:Nat)),.o 85 (.agg #[.slice As ts2.length cs]) 0 0 1] (lC 86 hs (rNetSizes As cs ts2 ls2 (chk_net3 aM) _ _ hs.g (hs.f.2.2.2.2.2.2.2.2.2.2.1) (hs.f.2.2.2.2.2.2.2.2.2.1)) ?_)))))
  rintro _ w29 h30 hs ⟨Az,cz,rfl,hcz,hAz⟩
  replace hs:=(hs.a_SlO hAz)
  have hsl:0<(sizesq ls2).length:=Nat.succ_pos _
  have hs0:(sizesq ls2).getD 0 0=dOf ls2 0:=rfl
  refine lX 87 Az ((sizesq ls2).length) cz 1 0 0 ((hs.f.1).ok oM) ?_
  refine lH 88 (.int .i64 ((sizesq ls2).getD 0 0:Nat)) hs ((hs.f.1).el 0 oM) ?_
  cases hb31:(((tr.length:Nat):Int) != (((sizesq ls2).getD 0 0:Nat):Int))
  ·
   have phb31:=eqOfBne hb31
   refine lB 89 hb31 ?_
   refine lL hs [.m 82 89] (lN (cIF (CG.skipN (cSL (lL hs [.o 108 (.agg #[.slice As ts2.length cs]) 0 0 1,.m 109 22] ?_)))))
   have hck:chkq ls2=0:=by assumption
   have hxd:(rowq zv m).length=dOf ls2 0:=by omega
   have hqy:=(netB (chk_net3 hck) hZ2 hxd (rowq_lq zv m)).x ls2.length (Nat.le_refl _)
   obtain ⟨hyl1,hyl2⟩:=outq_pos (chk_net3 hck) hxd
   refine lC 110 hs (rNetAnswer As cs ts2 ls2 (dOf ls2) (chk_net3 aM) Ar cr (rowq zv m) tr oM hcr (netB (chk_net3 aM) hZ2 oM (rowq_lq zv m)) _ _ hs.g (hs.f.2.2.2.2.2.2.2.2.2.2.2.1) (hs.f.2.2.2.2.2.2.2.2.2.2.1) (hs.f.2.2.2.2.2.2.2.2.2.1) (hs.f.2.2.2.2.2.2.2.2.1)) ?_
   rintro _ w32 h33 hs ⟨Ay,cy,ty,rfl,hcy,hAy,hTy⟩
   replace hs:=((hs.a_SlO hAy).add (K:=fun h_=>RTs h_ ty (outq ls2 (rowq zv m) ls2.length)) hTy)
   refine lL hs [.m 27 110] (lNS (lC 111 hs (lKnown30 _ _ hs.g (hs.f.2.2.2.2.2.2.2.2.2.2.2.2.2.2.2.2.1)) ?_))
   rintro _ w34 h35 hs rfl
   refine lL hs [.m 112 111,.m 113 24] ?_
   have hb36:((ansE ls2 (rowq zv m):Int) == (0:Int))=true:=by rw[ansE0 hck hxd];rfl
   have phb36:=eq_of_beq hb36
   refine lB 114 hb36 ?_
   refine lL hs [.v 115 (.bool true),.m 116 115,.m 117 26] ?_
   have hb37:((ansE ls2 (rowq zv m):Int) == (0:Int))=true:=by rw[ansE0 hck hxd];rfl
   have phb37:=eq_of_beq hb37
   refine lB 118 hb37 ?_
   refine lL hs [.v 119 (.bool true),.m 120 119,.m 121 23,.m 122 27] (lC 123 hs (hSameRow Aa ca (ansL ls2 (rowq zv m)) (outq ls2 (rowq zv m) ls2.length) Ay cy ty (by rw[ansL0 hck hxd];omega) oM (fun i _=>by rw[ansL0 hck hxd];exact (hqy i).mono oM) (fun i _=>(hqy i).mono oM) _ _ hs.g (hs.f.2.2.2.2.2.2.1) (hs.f.2.1) (hs.f.1)) ?_)
   rintro _ w38 h39 hs rfl
   have hb40:(decide (ansL ls2 (rowq zv m)=outq ls2 (rowq zv m) ls2.length))=true:=decide_eq_true (ansL0 hck hxd)
   rw[hb40]
   have phb40:=oT hb40
   refine lL hs [.v 124 (.bool true),.m 125 124,.m 126 25,.m 127 27] (lC 128 hs (rTop Ay cy (outq ls2 (rowq zv m) ls2.length) ty oM oM (fun j=>(hqy j).mono oM) _ _ hs.g (hs.f.2.1) (hs.f.1)) ?_)
   rintro _ w41 h42 hs rfl
   have hb43:((clsq ls2 (rowq zv m):Int) == ((topF (outq ls2 (rowq zv m) ls2.length) (outq ls2 (rowq zv m) ls2.length).length:Nat):Int))=true:=by rw[clsq0 hck hxd];simp
   have phb43:=eq_of_beq hb43
   refine lB 129 hb43 ?_
   refine lL hs [.v 130 (.bool true),.m 20 130] (lN (cTo [(20,.bool true)] ?_))
   exact CG.ret (hs.ret [] (.bool true) rfl)
  have phb31:=neOfBne hb31
  refine lB 89 hb31 ?_
  refine lL hs [.m 82 89] (lN (cIT (cSL (lC 90 hs (lKnown30 _ _ hs.g (hs.f.2.2.2.2.2.2.2.2.2.2.2.2.2.2.1)) ?_))))
  rintro _ w44 h45 hs rfl
  refine lL hs [.m 91 90,.m 92 24] ?_
  have hb46:((ansE ls2 (rowq zv m):Int) == (5:Int))=true:=by rw[ansE5 aM oM];rfl
  have phb46:=eq_of_beq hb46
  refine lB 93 hb46 ?_
  refine lL hs [.v 94 (.bool true),.m 95 94,.m 96 26] ?_
  have hb47:((ansE ls2 (rowq zv m):Int) == (5:Int))=true:=by rw[ansE5 aM oM];rfl
  have phb47:=eq_of_beq hb47
  refine lB 97 hb47 ?_
  refine lL hs [.v 98 (.bool true),.m 99 98,.m 100 23,.v 101 (.int .i64 ((ansL ls2 (rowq zv m)).length:Nat))] ?_
  have hb48:((((ansL ls2 (rowq zv m)).length:Nat):Int) == (0:Int))=true:=by rw[ansL1 (fun e=>absurd e.2 oM)];rfl
  have phb48:=eq_of_beq hb48
  refine lB 102 hb48 ?_
  refine lL hs [.v 103 (.bool true),.m 104 103,.m 105 25] ?_
  have hb49:((clsq ls2 (rowq zv m):Int) == (0:Int))=true:=by rw[clsq1 (fun e=>absurd e.2 oM)];rfl
  have phb49:=eq_of_beq hb49
  refine lB 106 hb49 ?_
  exact lL hs [.v 107 (.bool true),.m 20 107] (lN (CG.ret (hs.ret [] (.bool true) rfl)))
 have phb28:=neOfBne hb28
 refine lB 63 hb28 ?_
 refine lL hs [.m 60 63] (lN (cIT (cSL (lC 64 hs (lKnown30 _ _ hs.g (hs.f.2.2.2.2.2.2.2.2.2.2.2.2.2.1)) ?_))))
 rintro _ w50 h51 hs rfl
 refine lL hs [.m 65 64,.m 66 24] ?_
 have hb52:((ansE ls2 (rowq zv m):Int) == (1:Int))=true:=by rw[ansE1 aM];rfl
 have phb52:=eq_of_beq hb52
 refine lB 67 hb52 ?_
 refine lL hs [.v 68 (.bool true),.m 69 68,.m 70 26] ?_
 have hb53:((ansE ls2 (rowq zv m):Int) == (1:Int))=true:=by rw[ansE1 aM];rfl
 have phb53:=eq_of_beq hb53
 refine lB 71 hb53 ?_
 refine lL hs [.v 72 (.bool true),.m 73 72,.m 74 23,.v 75 (.int .i64 ((ansL ls2 (rowq zv m)).length:Nat))] ?_
 have hb54:((((ansL ls2 (rowq zv m)).length:Nat):Int) == (0:Int))=true:=by rw[ansL1 (fun e=>absurd e.1 aM)];rfl
 have phb54:=eq_of_beq hb54
 refine lB 76 hb54 ?_
 refine lL hs [.v 77 (.bool true),.m 78 77,.m 79 25] ?_
 have hb55:((clsq ls2 (rowq zv m):Int) == (0:Int))=true:=by rw[clsq1 (fun e=>absurd e.1 aM)];rfl
 have phb55:=eq_of_beq hb55
 refine lB 80 hb55 ?_
 exact lL hs [.v 81 (.bool true),.m 20 81] (lN (CG.ret (hs.ret [] (.bool true) rfl)))
theorem getD_mem {α:Type}{l:List α}{i:Nat}{d:α}(h:i<l.length):l.getD i d∈l:=by
  rw[List.getD_eq_getElem?_getD,List.getElem?_eq_getElem h];exact List.getElem_mem h
theorem getD_over {α:Type}{l:List α}{i:Nat}{d:α}(h:l.length≤i):l.getD i d=d:=by
  rw[List.getD_eq_getElem?_getD,List.getElem?_eq_none h];rfl
end Go.Proofs.YtphakaomkmhbaaaGreatDoor
