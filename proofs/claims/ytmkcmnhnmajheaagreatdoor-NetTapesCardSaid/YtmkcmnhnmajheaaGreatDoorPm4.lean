/- Laws and contracts that the card of this claim stands on, part 5. No condition of ours. -/
import Derived.Test.YtmkcmnhnmajheaaGreatDoorPm0
import Derived.Test.YtmkcmnhnmajheaaGreatDoorPm1
import Derived.Test.YtmkcmnhnmajheaaGreatDoorPm2
import Derived.Test.YtmkcmnhnmajheaaGreatDoorPm3
set_option maxRecDepth 100000
set_option maxHeartbeats 4000000
namespace Go.Proofs.YtmkcmnhnmajheaaGreatDoor
open Go.RowKit
open Go.RowKit Go.Shelf
structure Mat (W:List (List Rat)) (r c:Nat):Prop where
  rows:W.length=r
  rpos:0<r
  cpos:0<c
  row:∀ i,i<r→(W.getD i []).length=c
structure Net3 (ls:List Lay) (d:Nat→Nat):Prop where
  len:1≤ls.length∧ls.length≤4
  first:d 0≤20
  lay:∀ i,i<ls.length→Mat (ls.getD i lay0).W (d (i+1)) (d i)∧(ls.getD i lay0).B.length=d (i+1)∧d (i+1)≤12∧((ls.getD i lay0).k=1∨(ls.getD i lay0).k=2∨(ls.getD i lay0).k=3)
theorem Net3.small {ls:List Lay}{d:Nat→Nat}(o:Net3 ls d)(i:Nat)(h:i<ls.length):d i≤20:=by
  cases i with
  | zero=>exact o.first
  | succ i=>have:=(o.lay i oM).2.2.1;omega
theorem one_abs_pos (u:Rat):0<((1:Int):Rat)+qabs u:=by
  have h:(0:Rat)≤qabs u:=by rw[←Rat.num_nonneg,qabs_num];omega
  have h1:(0:Rat)<((1:Int):Rat):=by decide
  grind
theorem one_abs_ne (u:Rat):(((1:Int):Rat)+qabs u).num≠0:=by
  have:=one_abs_pos u;intro e;have e2:((1:Int):Rat)+qabs u=0:=by rw[←Rat.num_eq_zero];exact e
  rw[e2] at this;exact absurd this kD
def act (k:Int)(u:Rat):Rat:=if k=2 then maxR u 0 else if k=3 then u/(((1:Int):Rat)+qabs u) else u
theorem LQ.act {m:Nat}{u:Rat}(k:Int)(h:LQ m u)(hm:0<m):LQ (2*m+2) (act k u):=by
  unfold Go.Proofs.YtmkcmnhnmajheaaGreatDoor.act
  split
  · exact (LQ.maxR h ((LQ.lit (z:=0) kD).mono oM)).mono oM
  · split
    · exact (h.div ((LQ.lit (z:=1) kD).add h.abs)).mono oM
    · exact h.mono oM
def layq (L:Lay)(x:List Rat):List Rat:=(List.range L.W.length).map fun i=>act L.k (dotq (L.W.getD i []) x x.length+L.B.getD i 0)
def outq (ls:List Lay)(xs:List Rat):Nat→List Rat
  | 0=>xs
  | k+1=>layq (ls.getD k lay0) (outq ls xs k)
abbrev gD (ls:List Lay)(xs:List Rat)(k r:Nat):Rat:=dotq ((ls.getD k lay0).W.getD r []) (outq ls xs k) (outq ls xs k).length
abbrev gS (ls:List Lay)(xs:List Rat)(k r:Nat):Rat:=gD ls xs k r+((ls.getD k lay0).B).getD r 0
theorem outq_len {ls:List Lay}{d:Nat→Nat}(o:Net3 ls d){xs:List Rat}(hx:xs.length=d 0)(k:Nat)(hk:k≤ls.length):(outq ls xs k).length=d k:=by
  cases k with
  | zero=>exact hx
  | succ k=>show (layq _ _).length=_;unfold layq;rw[List.length_map,List.length_range];exact (o.lay k oM).1.rows
structure NetB (ls:List Lay) (xs:List Rat):Prop where
  w:∀ k i j,LQ 1000000 (((ls.getD k lay0).W.getD i []).getD j 0)
  b:∀ k i,LQ 1000000 ((ls.getD k lay0).B.getD i 0)
  x:∀ k,k≤ls.length→∀ j,LQ 1000000 ((outq ls xs k).getD j 0)
theorem getD_set_self {l:List Rat}{i:Nat}{x:Rat}(h:i<l.length):(l.set i x).getD i 0=x:=by
  rw[List.getD_eq_getElem?_getD,List.getElem?_set_self h];rfl
theorem fstep {pl:List Rat}{f:Nat→Rat}{i:Nat}{x:Rat}(hp:∀ j,j<i→pl.getD j 0=f j)(hi:i<pl.length)(hx:x=f i):∀ j,j<i+1→(pl.set i x).getD j 0=f j:=by
  intro j hj
  by_cases e:j=i
  · subst e;rw[getD_set_self hi,hx]
  · rw[List.getD_eq_getElem?_getD,List.getElem?_set_ne (Ne.symm e),←List.getD_eq_getElem?_getD];exact hp j oM
theorem dot_b1 {n:Nat}(h:n≤20):n*(1000000+1000000+1)+1000000+1000000+2≤100000000:=by rw[Nat.mul_comm n];omega
theorem dot_b2 {n:Nat}(h:n≤20):n*(1000000+1000000+1)+1≤41000000:=by rw[Nat.mul_comm n];omega
theorem map_of {pl:List Rat}{f:Nat→Rat}{i n:Nat}(hp:∀ j,j<i→pl.getD j 0=f j)(hi:i=n)(hl:pl.length=n):pl=(List.range n).map f:=by
  subst hi;refine List.ext_getElem (by simp[hl]) (fun j h1 h2=>?_);have:=hp j oM;rw[List.getD_eq_getElem?_getD,List.getElem?_eq_getElem h1] at this
  simp only[List.getElem_map,List.getElem_range]
  exact this
def sumq (L:Lay)(x:List Rat):List Rat:=(List.range L.W.length).map fun i=>dotq (L.W.getD i []) x x.length+L.B.getD i 0
def insq (ls:List Lay)(xs:List Rat)(n:Nat):List (List Rat):=(List.range n).map (outq ls xs)
def sumsq (ls:List Lay)(xs:List Rat)(n:Nat):List (List Rat):=(List.range n).map fun k=>sumq (ls.getD k lay0) (outq ls xs k)
theorem insq_succ (ls:List Lay)(xs:List Rat)(n:Nat):insq ls xs (n+1)=insq ls xs n++[outq ls xs n]:=by unfold insq;rw[List.range_succ,List.map_append];rfl
theorem sumsq_succ (ls:List Lay)(xs:List Rat)(n:Nat):sumsq ls xs (n+1)=sumsq ls xs n++[sumq (ls.getD n lay0) (outq ls xs n)]:=by unfold sumsq;rw[List.range_succ,List.map_append];rfl
theorem fDotN (A:Option Addr)(ca:Nat)(a:List Rat)(D:Option Addr)(cd:Nat)(b:List Rat)(n m1 m2:Nat)(h1:a.length=m1)(h2:b.length=m2)(e1:m1=n)(e2:m2=n)(K L:Nat)(hn:n≤1000000)(hb:n*(K+L+1)+K+L+2≤100000000)(ha:∀ i,LQ K (a.getD i 0))(hbb:∀ i,LQ L (b.getD i 0))(w:World)(h:Hp)(g:G w h)(hA:Sq A a h)(hD:Sq D b h)(tb:Tab h):CV 22 #[.slice A m1 ca,.slice D m2 cd] w h (.tuple #[qv (dotq a b n),.bool true]):=by
  subst h1 h2 e1;exact fDot A ca a D cd b K L e2.symm hn hb (fun i _=>ha i) (fun i _=>hbb i) w h g hA hD tb
theorem nAct1 (u:Rat)(w:World)(h:Hp)(g:G w h):CV 177 #[iV 1,qv u] w h (qv u):=by
 have hs:=sS g;exact go Tryz.func177 [(0,iV 1),(1,qv u)] rfl (cSL (lA 3 55 (qc u) hs (fun b1 w2 h3 hs=>lA 4 55 ([qF,uV 0,eS,uV 0,eS]) hs (fun b4 w5 h6 hs=>lN (cQ (cSL (lL hs [.m 7 0] (lN (kZ (cSL (lL hs [.v 9 qF,.m 8 9] (lN (cIF (cSL (lL hs [.v 14 qF,.m 13 14] (lN (cIF (cK (cSL (lL hs [.o 25 (qv u) 1 0 5] (lP 0 0 (qc u) hs (fun w7 hs=>lN (kX (hs.ret [(0,0,5)] (qv u) rfl))))))))))))))))))))))))
theorem nAct2 (u:Rat)(hu:LQ 45000000 u)(w:World)(h:Hp)(g:G w h):CV 177 #[iV 2,qv u] w h (qv (maxR u 0)):=by
 have hs:=sS g;refine go Tryz.func177 [(0,iV 2),(1,qv u)] rfl (cSL (lA 3 55 (qc u) hs (fun b1 w2 h3 hs=>lA 4 55 ([qF,uV 0,eS,uV 0,eS]) hs (fun b4 w5 h6 hs=>lN (cQ (cSL (lL hs [.m 7 0] (lN (kZ (cSL (lL hs [.v 9 qT,.m 8 9] (lN (cIT (cSL (lL hs [.o 10 (qv u) 1 0 5,.v 11 (qv 0)] (lC 12 hs (fMax u 0 (LQ.mono hu oM) (LQ.mono (LQ.lit (z:=0) kD) oM) _ _ hs.g) ?_))))))))))))))));rintro _ w7 h8 hs rfl;exact lP 0 0 (qc (maxR u 0)) hs (fun w9 hs=>lN (kX (hs.ret [(0,0,5)] (qv (maxR u 0)) rfl)))
theorem nAct3 (u:Rat)(hu:LQ 45000000 u)(w:World)(h:Hp)(g:G w h)(tb:Tab h):CV 177 #[iV 3,qv u] w h (qv (u/(((1:Int):Rat)+qabs u))):=by
 have hs:=((sS g).aB tb);refine go Tryz.func177 [(0,iV 3),(1,qv u)] rfl (cSL (lA 3 55 (qc u) hs (fun b1 w2 h3 hs=>lA 4 55 ([qF,uV 0,eS,uV 0,eS]) hs (fun b4 w5 h6 hs=>lN (cQ (cSL (lL hs [.m 7 0] (lN (kZ (cSL (lL hs [.v 9 qF,.m 8 9] (lN (cIF (cSL (lL hs [.v 14 qT,.m 13 14] (lN (cIT (cQ ?_))))))))))))))))));have hsr:=hs;refine cR 10 [⟨9,5,.cells (List.toArray [qF,uV 0,eS,uV 0,eS]) 55 (0,0)⟩] mixed hs (al_cons (alOk kR (fun _ _=>by kernel_rfl)) al_nil) (eO 0 16 [(1,0,5)] (qv u) hs (eO 2 18 [(1,0,5)] (qv u) hs (eC 1 17 hs (fun _ _ hs=>fOf 1 oM oM _ _ hs.g) ?_)));rintro _ _ _ w7 h8 hs rfl;have hq9:LQ (45000000) (qabs u):=LQ.abs hu;refine eC 3 19 hs (fun _ _ hs=>fAbs u (LQ.mono hu oM) _ _ hs.g) ?_;rintro _ _ _ _ _ hs rfl;have za:=LQ.add (LQ.lit (z:=1) kD) hq9;refine eC 4 20 hs (fun _ _ hs=>fAdd ((1:Int):Rat) (qabs u) (LQ.mono (LQ.lit (z:=1) kD) oM) (LQ.mono hq9 oM) _ _ hs.g hs.f.1) ?_;rintro _ _ _ _ _ hs rfl;have hq15:=LQ.div hu za;refine eC 5 21 hs (fun _ _ hs=>fDivN u (((1:Int):Rat)+(qabs u)) (LQ.mono hu oM) (LQ.mono za oM) (one_abs_ne u) _ _ hs.g hs.f.1) ?_;rintro _ _ _ _ _ hs rfl;exact eV 6 15 (.tuple #[qv (u/(((1:Int):Rat)+(qabs u))),qT]) (eV 7 22 (qv (u/(((1:Int):Rat)+(qabs u)))) (eV 8 23 qT (eD1p [] hsr hs 55 [qF,uV 0,eS,uV 0,eS] (fun _ _ b20 hs=>tP 10 0 0 (qc (u/(((1:Int):Rat)+(qabs u)))) hs (fun _ hs=>tV 11 6 qT (tNS (lL hs [.o 24 (qv (u/(((1:Int):Rat)+(qabs u)))) 0 0 5] (lP 1 0 (qc (u/(((1:Int):Rat)+(qabs u)))) hs (fun _ hs=>lN (kX (hs.ret [(1,0,5)] (qv (u/(((1:Int):Rat)+(qabs u)))) rfl)))))))))))
theorem nAct (k:Int)(hk:k=1∨k=2∨k=3)(u:Rat)(hu:LQ 45000000 u)(w:World)(h:Hp)(g:G w h)(tb:Tab h):CV 177 #[iV k,qv u] w h (qv (act k u)):=by
  rcases hk with rfl|rfl|rfl
  · exact nAct1 u w h g
  · exact nAct2 u hu w h g
  · exact nAct3 u hu w h g tb
theorem nSuitsT (A:Option Addr)(cap:Nat)(ts:List LV)(ls:List Lay)(d:Nat→Nat)(hO:Net3 ls d)(X:Option Addr)(c0:Nat)(xs:List Rat)(hx:xs.length=d 0)(w:World)(h:Hp)(g:G w h)(hA:Sl A ts h)(hN:NetL h ts ls)(hX:Sq X xs h):CV 136 #[.agg #[.slice A ts.length cap],.slice X xs.length c0] w h (.bool true):=by
 have hs:=((((sS g).aS hA).aN hN).aS hX);have hl:=(hs.f.2.1).len;obtain ⟨o1,o2⟩:=hO.len;have o3:=hO.first;refine go Tryz.func136 [(0,.agg #[qS A ts.length cap]),(1,qS X xs.length c0)] rfl (cSL (lA 2 74 ([qS A ts.length cap]) hs (fun b1 w2 h3 hs=>lL hs [.v 4 qF] (lNS (lL hs [.m 5 1,.v 6 (nV xs.length),.v 7 (pB b1),.o 8 (qS A ts.length cap) 0 0 1] (lX 9 A ts.length cap 3 0 0 ((hs.f.r.1).ok oM) ?_))))));refine lL hs [.v 10 (.pointer (some ⟨(aB A),aO A+0*3+1,none⟩))] ?_;obtain ⟨ekx,⟨AWx,cWx,usx,eWx,hcWx,hAWx,hUx⟩,⟨ABx,cBx,eBx,hcBx,hABx⟩⟩:=(hs.f.2.1).at_ 0 oM;obtain ⟨mtx,lbx,r12x,kdx⟩:=hO.lay 0 oM;have lux:=hUx.len;have mrx:=mtx.rows;have mpx:=mtx.rpos;have mcx:=mtx.cpos;have m0x:=mtx.row 0 oM;replace hs:=(((hs.aS hAWx).aQ hUx).aS hABx);refine lHe 11 ((ts.getD 0 lvd).2.1) hs (((hs.f.q.2.1).el 0 oM).part 1 1) eWx (lX 12 AWx usx.length cWx 1 0 0 ((hs.f.r.1).ok oM) ?_);obtain ⟨Arp,crp,erp,hcrp,hRrp⟩:=(hs.f.2.1).at_ 0 oM;replace hs:=hs.aS hRrp;refine lHe 13 (usx.getD 0 undef) hs ((hs.f.r.2.1).el 0 oM) erp (lL hs [.v 14 (nV ((((ls.getD 0 lay0).W).getD 0 []).length))] ?_);have hb4:((xs.length:Int) == (((((ls.getD 0 lay0).W).getD 0 []).length:Nat):Int))=true:=beqT oM;have phb4:=eq_of_beq hb4;exact lB 15 hb4 (lL hs [.m 4 15] (lN (kX (hs.ret [] qT rfl))))
theorem nSuitsF (A:Option Addr)(cap:Nat)(ts:List LV)(ls:List Lay)(d:Nat→Nat)(hO:Net3 ls d)(X:Option Addr)(c0:Nat)(xs:List Rat)(hx:xs.length≠d 0)(w:World)(h:Hp)(g:G w h)(hA:Sl A ts h)(hN:NetL h ts ls)(hX:Sq X xs h):CV 136 #[.agg #[.slice A ts.length cap],.slice X xs.length c0] w h (.bool false):=by
 have hs:=((((sS g).aS hA).aN hN).aS hX);have hl:=(hs.f.2.1).len;obtain ⟨o1,o2⟩:=hO.len;have o3:=hO.first;refine go Tryz.func136 [(0,.agg #[qS A ts.length cap]),(1,qS X xs.length c0)] rfl (cSL (lA 2 74 ([qS A ts.length cap]) hs (fun b1 w2 h3 hs=>lL hs [.v 4 qF] (lNS (lL hs [.m 5 1,.v 6 (nV xs.length),.v 7 (pB b1),.o 8 (qS A ts.length cap) 0 0 1] (lX 9 A ts.length cap 3 0 0 ((hs.f.r.1).ok oM) ?_))))));refine lL hs [.v 10 (.pointer (some ⟨(aB A),aO A+0*3+1,none⟩))] ?_;obtain ⟨ekx,⟨AWx,cWx,usx,eWx,hcWx,hAWx,hUx⟩,⟨ABx,cBx,eBx,hcBx,hABx⟩⟩:=(hs.f.2.1).at_ 0 oM;obtain ⟨mtx,lbx,r12x,kdx⟩:=hO.lay 0 oM;have lux:=hUx.len;have mrx:=mtx.rows;have mpx:=mtx.rpos;have mcx:=mtx.cpos;have m0x:=mtx.row 0 oM;replace hs:=(((hs.aS hAWx).aQ hUx).aS hABx);refine lHe 11 ((ts.getD 0 lvd).2.1) hs (((hs.f.q.2.1).el 0 oM).part 1 1) eWx (lX 12 AWx usx.length cWx 1 0 0 ((hs.f.r.1).ok oM) ?_);obtain ⟨Arp,crp,erp,hcrp,hRrp⟩:=(hs.f.2.1).at_ 0 oM;replace hs:=hs.aS hRrp;refine lHe 13 (usx.getD 0 undef) hs ((hs.f.r.2.1).el 0 oM) erp (lL hs [.v 14 (nV ((((ls.getD 0 lay0).W).getD 0 []).length))] ?_);have hb4:((xs.length:Int) == (((((ls.getD 0 lay0).W).getD 0 []).length:Nat):Int))=false:=beqF oM;have phb4:=neOfBeq hb4;exact lB 15 hb4 (lL hs [.m 4 15] (lN (kX (hs.ret [] qF rfl))))
theorem nForward (A:Option Addr)(cap:Nat)(ts:List LV)(ls:List Lay)(d:Nat→Nat)(hO:Net3 ls d)(X:Option Addr)(c0:Nat)(xs:List Rat)(hx:xs.length=d 0)(hc0:xs.length≤c0)(hB:NetB ls xs)(w:World)(h:Hp)(g:G w h)(hA:Sl A ts h)(hN:NetL h ts ls)(hX:Sq X xs h)(tb:Tab h):CR 137 #[.agg #[.slice A ts.length cap],.slice X xs.length c0] w h (fun v h1=>∃ A1 c1 u1 A2 c2 u2 Ax cx,v=.agg #[.slice A1 (u1:List Value).length c1,.slice A2 (u2:List Value).length c2,.slice Ax (outq ls xs ls.length).length cx]∧u1.length≤c1∧u2.length≤c2∧(outq ls xs ls.length).length≤cx∧Sv A1 u1 h1∧Sv A2 u2 h1∧QVs h1 u1 (insq ls xs ls.length)∧QVs h1 u2 (sumsq ls xs ls.length)∧Sq Ax (outq ls xs ls.length) h1):=by
 have hs:=(((((sS g).aS hA).aN hN).aS hX).aB tb);have hl:=(hs.f.r.1).len;obtain ⟨o1,o2⟩:=hO.len;have o3:=hO.first;refine go Tryz.func137 [(0,.agg #[qS A ts.length cap]),(1,qS X xs.length c0)] rfl (cSL (lA 2 74 ([qS A ts.length cap]) hs (fun b1 w2 h3 hs=>lA 4 197 ([sZ,sZ,sZ]) hs (fun b4 w5 h6 hs=>lNS (lL hs [.m 14 1,.v 15 (.agg #[sZ,sZ,qS X xs.length c0])] (lA 5 197 ([sZ,sZ,sZ]) hs (fun b7 w8 h9 hs=>lP 0 0 ([sZ,sZ,qS X xs.length c0]) hs (fun _ hs=>lN (cQ (cSL (lL hs [.v 16 (pB b1),.o 17 (qS A ts.length cap) 2 0 1,.v 18 (nV ts.length),.v 19 (iV 0)] (lN (kZ ?_)))))))))))));replace hs:=hs.nil 30 1;replace hs:=hs.nil 30 1;refine cTo [(4,pB b4),(5,pB b7),(17,qS A ts.length cap),(18,nV ts.length),(19,iV 0)] ?_;replace hs:=hs.aS hs.f.2.1;replace hs:=hs.aQ (QVs.nil);replace hs:=hs.aQ (QVs.nil);refine CG.loop (fun μ_ Γ w_=>∃ (k:Nat) (s1A:Option Addr) (s1c:Nat) (s2A:Option Addr) (s2c:Nat) (l1:List Value) (l2:List Value) (Ax:Option Addr) (cx:Nat) (h_:Hp),μ_=ls.length-k∧Γ=[(4,pB b4),(5,pB b7),(17,qS A ts.length cap),(18,nV ts.length),(19,nV k)]∧SS w h w_ h_ [⟨b7,197,[qS s1A ((l1).length) s1c,qS s2A ((l2).length) s2c,qS Ax ((outq ls xs k).length) cx]⟩,⟨b4,197,[sZ,sZ,sZ]⟩,⟨b1,74,[qS A ts.length cap]⟩] [⟨30,1,s1A,s1c,(l1).length,(l1).flatMap vc⟩,⟨30,1,s2A,s2c,(l2).length,(l2).flatMap vc⟩] [Qu l1 (insq ls xs k),Qu l2 (sumsq ls xs k),Sq Ax (outq ls xs k),fun h_=>Tab h_,Sq X xs,Nn ts ls,Sl A ts]∧k≤ls.length∧l1.length=k∧l2.length=k∧(outq ls xs k).length≤cx) _ ⟨0,none,0,none,0,[],[],X,c0,h9,rfl,rfl,hs.to _ _,Nat.zero_le _,rfl,rfl,hc0⟩ ?_;rintro _ _ _ ⟨k,s1A,s1c,s2A,s2c,l1,l2,Ax,cx,_,hm13,rfl,hs,hk,hl1,hl2,hcx⟩;have hlx:=outq_len hO hx k oM;have hsm:=fun h0=>hO.small k h0
 refine cSL ?_;cases zf:(decide ((k:Int)<(ts.length:Int)))
 ·
  have zk:=oF zf;refine lB 20 zf (lN (cQ (cIF (CG.exit ?_))))
  show CG _ _ _ _ _ _ _ _
  refine cSL ?_;obtain ⟨_,hs,zn⟩:=hs.pubr 0 (A:=s1A) (c:=s1c) (l:=l1) (f:=vc) (ty:=30) (sz:=1) undef (fun _=>rfl);obtain ⟨_,hs,zo⟩:=hs.pubr 0 (A:=s2A) (c:=s2c) (l:=l2) (f:=vc) (ty:=30) (sz:=1) undef (fun _=>rfl);refine lL hs [.o 83 (.agg #[qS s1A ((l1).length) s1c,qS s2A ((l2).length) s2c,qS Ax ((outq ls xs k).length) cx]) 0 0 3] (lP 1 0 ([qS s1A ((l1).length) s1c,qS s2A ((l2).length) s2c,qS Ax ((outq ls xs k).length) cx]) hs (fun _ hs=>lN (kX ?_)));have hkn:k=ls.length:=by omega
  exact hs.ret [(1,0,3)] (.agg #[qS s1A ((l1).length) s1c,qS s2A ((l2).length) s2c,qS Ax ((outq ls xs k).length) cx]) (by rw[←hkn];exact ⟨_,_,l1,_,_,l2,_,_,rfl,zn,zo,hcx,hs.f.2.1,hs.f.1,hs.f.r.1,hs.f.r.2.1,hs.f.q.1⟩)
 have zk:=oT zf;refine lB 20 zf (lN (cQ (cIT (cK (cQ (kZ (cSL (lX 21 A ts.length cap 3 (k:Nat) k ((hs.f.q.r.1).ok oM) ?_))))))));obtain ⟨ekx,⟨AWx,cWx,usx,eWx,hcWx,hAWx,hUx⟩,⟨ABx,cBx,eBx,hcBx,hABx⟩⟩:=(hs.f.q.2.1).at_ k oM;obtain ⟨mtx,lbx,r12x,kdx⟩:=hO.lay k oM;have lux:=hUx.len;have mrx:=mtx.rows;have mpx:=mtx.rpos;have mcx:=mtx.cpos;have m0x:=mtx.row 0 oM;replace hs:=(((hs.aS hAWx).aQ hUx).aS hABx);refine lHe 22 (.agg #[iV ((ts.getD k lvd).1),(ts.getD k lvd).2.1,(ts.getD k lvd).2.2]) hs ((hs.f.q.q.2.1).el k oM) (by rw[ekx,eWx,eBx]) (lA 7 144 ([iV 0,sZ,sZ]) hs (fun zb _ _ hs=>lP 0 0 ([iV ((ls.getD k lay0).k),qS AWx usx.length cWx,qS ABx ((ls.getD k lay0).B.length) cBx]) hs (fun _ hs=>lNS (lL hs [.v 23 (qP zb 1),.o 24 (qS AWx usx.length cWx) 0 1 1,.v 25 (nV usx.length)] (lK 26 55 usx.length 5 56 (.agg #[qF,uV 0,eS,uV 0,eS]) qc 0 hs (fun za _ _ hs=>?_))))));have hl29:(List.replicate usx.length 0).length=usx.length:=by simp
 refine lL hs [.m 8 26] (lNS (lL hs [.v 27 (qP zb 1),.o 28 (qS AWx usx.length cWx) 1 1 1,.v 29 (nV usx.length)] (lK 30 55 usx.length 5 56 (.agg #[qF,uV 0,eS,uV 0,eS]) qc 0 hs (fun zc _ zr hs=>?_))));have hl33:(List.replicate usx.length 0).length=usx.length:=by simp
 refine lL hs [.m 9 30] (lN (cQ (cSL (lL hs [.v 31 (qP zb 1),.o 32 (qS AWx usx.length cWx) 2 1 1,.v 33 (nV usx.length),.v 34 (iV 0)] (lN (kZ ?_))))));refine cTo _ (CG.loop (fun μ_ Γ w_=>∃ (i:Nat) (ql:List Rat) (pl:List Rat) (h_:Hp),μ_=usx.length-i∧Γ=[(4,pB b4),(5,pB b7),(17,qS A ts.length cap),(18,nV ts.length),(19,nV k),(7,pB zb),(8,qS (sB za) usx.length usx.length),(9,qS (sB zc) usx.length usx.length),(32,qS AWx usx.length cWx),(33,nV usx.length),(34,nV i)]∧SS w h w_ h_ [⟨zc,55,(pl).flatMap qc⟩,⟨za,55,(ql).flatMap qc⟩,⟨zb,144,[iV ((ls.getD k lay0).k),qS AWx usx.length cWx,qS ABx ((ls.getD k lay0).B.length) cBx]⟩,⟨b7,197,[qS s1A ((l1).length) s1c,qS s2A ((l2).length) s2c,qS Ax ((outq ls xs k).length) cx]⟩,⟨b4,197,[sZ,sZ,sZ]⟩,⟨b1,74,[qS A ts.length cap]⟩] [⟨30,1,s1A,s1c,(l1).length,(l1).flatMap vc⟩,⟨30,1,s2A,s2c,(l2).length,(l2).flatMap vc⟩] [Sq ABx (ls.getD k lay0).B,Qu usx (ls.getD k lay0).W,Sv AWx usx,Qu l1 (insq ls xs k),Qu l2 (sumsq ls xs k),Sq Ax (outq ls xs k),fun h_=>Tab h_,Sq X xs,Nn ts ls,Sl A ts]∧i≤usx.length∧ql.length=usx.length∧pl.length=usx.length∧(∀ j,j<i→ql.getD j 0=dotq ((ls.getD k lay0).W.getD j []) (outq ls xs k) (outq ls xs k).length+(ls.getD k lay0).B.getD j 0)∧(∀ j,j<i→pl.getD j 0=act (ls.getD k lay0).k (dotq ((ls.getD k lay0).W.getD j []) (outq ls xs k) (outq ls xs k).length+(ls.getD k lay0).B.getD j 0))) _ ⟨0,List.replicate usx.length 0,List.replicate usx.length 0,zr,rfl,rfl,hs.to _ _,Nat.zero_le _,by simp,by simp,fun j hj=>absurd hj (Nat.not_lt_zero j),fun j hj=>absurd hj (Nat.not_lt_zero j)⟩ ?_);rintro _ _ _ ⟨i,ql,pl,_,hm36,rfl,hs,hi,hlq,hlp,hq,hp⟩;refine cSL ?_;cases zg:(decide ((i:Int)<(usx.length:Int)))
 ·
  have zl:=oF zg;refine lB 35 zg (lN (cQ (cIF (CG.exit ?_))))
  show CG _ _ _ _ _ _ _ _
  refine cSL (lL hs [.v 67 (pB b7),.o 68 (qS s1A ((l1).length) s1c) 3 0 1,.v 69 (qP b7 2),.o 70 (qS Ax ((outq ls xs k).length) cx) 3 2 1] (lR 71 30 1 ([qS Ax ((outq ls xs k).length) cx]) hs (fun zs _ _ hs=>lY 72 0 30 1 s1c s1A l1 vc (qS Ax ((outq ls xs k).length) cx:Value) 24 zs (sZ) hs hs.f.1 (fun zd ze _ _ hs=>lL hs [.v 73 (pB b7)] (lP 3 0 ([qS zd ((l1++[(qS Ax ((outq ls xs k).length) cx:Value)]).length) ze]) hs (fun _ hs=>lNS ?_))))));have hql:ql=sumq (ls.getD k lay0) (outq ls xs k):=map_of hq (show i=(ls.getD k lay0).W.length by omega) (show ql.length=(ls.getD k lay0).W.length by omega);have hlsq:(sumq (ls.getD k lay0) (outq ls xs k)).length=usx.length:=by rw[←hql];exact hlq
  rw[hql] at hs
  obtain ⟨_,hs,sg49,lo50,bc51⟩:=hs.pub 1;replace hs:=(hs.to [⟨zc,55,(pl).flatMap qc⟩,⟨zb,144,[iV ((ls.getD k lay0).k),qS AWx usx.length cWx,qS ABx ((ls.getD k lay0).B.length) cBx]⟩,⟨b7,197,[qS zd ((l1++[(qS Ax ((outq ls xs k).length) cx:Value)]).length) ze,qS s2A ((l2).length) s2c,qS Ax ((outq ls xs k).length) cx]⟩,⟨b4,197,[sZ,sZ,sZ]⟩,⟨b1,74,[qS A ts.length cap]⟩] [⟨30,1,zd,ze,(l1++[(qS Ax ((outq ls xs k).length) cx:Value)]).length,(l1++[(qS Ax ((outq ls xs k).length) cx:Value)]).flatMap vc⟩,⟨30,1,s2A,s2c,(l2).length,(l2).flatMap vc⟩]).aS (SlO.of_flat (sz:=5) (f:=qc) (d:=0) (b:=za) (o:=0) (l:=sumq (ls.getD k lay0) (outq ls xs k)) (fun _=>rfl) sg49);refine lL hs [.v 74 (qP b7 1),.o 75 (qS s2A ((l2).length) s2c) 2 1 1,.m 76 8] (lR 77 30 1 ([qS (sB za) usx.length usx.length]) hs (fun zt _ _ hs=>lY 78 1 30 1 s2c s2A l2 vc (qS (sB za) usx.length usx.length:Value) 24 zt (sZ) hs hs.f.1 (fun zi zj _ _ hs=>lL hs [.v 79 (qP b7 1)] (lP 2 1 ([qS zi ((l2++[(qS (sB za) usx.length usx.length:Value)]).length) zj]) hs (fun _ hs=>lN (kQ ?_))))));have hpl:pl=outq ls xs (k+1):=map_of hp (show i=(ls.getD k lay0).W.length by omega) (show pl.length=(ls.getD k lay0).W.length by omega);have hll:usx.length=(outq ls xs (k+1)).length:=by rw[←hpl];omega
  rw[hpl] at hs
  obtain ⟨zu,hs,sg64,lo65,bc66⟩:=hs.pub 0;replace hs:=(hs.to [⟨zb,144,[iV ((ls.getD k lay0).k),qS AWx usx.length cWx,qS ABx ((ls.getD k lay0).B.length) cBx]⟩,⟨b7,197,[qS zd ((l1++[(qS Ax ((outq ls xs k).length) cx:Value)]).length) ze,qS zi ((l2++[(qS (sB za) usx.length usx.length:Value)]).length) zj,qS Ax ((outq ls xs k).length) cx]⟩,⟨b4,197,[sZ,sZ,sZ]⟩,⟨b1,74,[qS A ts.length cap]⟩] [⟨30,1,zd,ze,(l1++[(qS Ax ((outq ls xs k).length) cx:Value)]).length,(l1++[(qS Ax ((outq ls xs k).length) cx:Value)]).flatMap vc⟩,⟨30,1,zi,zj,(l2++[(qS (sB za) usx.length usx.length:Value)]).length,(l2++[(qS (sB za) usx.length usx.length:Value)]).flatMap vc⟩]).aS (SlO.of_flat (sz:=5) (f:=qc) (d:=0) (b:=zc) (o:=0) (l:=outq ls xs (k+1)) (fun _=>rfl) sg64);refine lV 80 (qS (sB zc) ((outq ls xs (k+1)).length) usx.length) ?_ (hr:=rval kR (by rw[←hll]));refine lL hs [.v 81 (qP b7 2)] (lP 1 2 ([qS (sB zc) ((outq ls xs (k+1)).length) usx.length]) hs (fun _ hs=>lN (kQ (lIn 82 ((k:Nat)+1) (k+1) ?_))));refine lL hs [.m 19 82] (lD ?_);intro a_ ka;replace hs:=(((hs.tl.tl.tl.tl.tl.tl.tl.tl.tl.tl.aS hs.f.1).add (K:=Qu (l2++[(qS (sB za) usx.length usx.length:Value)]) (sumsq ls xs (k+1))) (by rw[sumsq_succ];exact (hs.f.q.q.1).snoc ⟨_,usx.length,by rw[hlsq],Nat.le_of_eq hlsq,hs.f.r.1⟩)).add (K:=Qu (l1++[(qS Ax ((outq ls xs k).length) cx:Value)]) (insq ls xs (k+1))) (by rw[insq_succ];exact (hs.f.q.r.2.1).snoc ⟨_,_,rfl,hcx,hs.f.q.q.2.1⟩));replace hs:=hs.drop 1 0;refine ⟨_,_,?_,⟨k+1,zd,ze,zi,zj,l1++[(qS Ax ((outq ls xs k).length) cx:Value)],l2++[(qS (sB za) usx.length usx.length:Value)],sB zc,usx.length,zu,rfl,rfl,hs.to _ _,oM,(by simp;omega),(by simp;omega),oM⟩,ka.to _ kR⟩
  omega
 have zl:=oT zg;refine lB 35 zg (lN (cQ (cIT (cK (cQ (kZ (cSL (lL hs [.m 36 34] (lX 37 AWx usx.length cWx 1 (i:Nat) i ((hs.f.r.1).ok oM) ?_)))))))));obtain ⟨Arp,crp,erp,hcrp,hRrp⟩:=(hs.f.2.1).at_ i oM;replace hs:=hs.aS hRrp;refine lHe 38 (usx.getD i undef) hs ((hs.f.r.2.1).el i oM) erp (lL hs [.m 10 36,.m 11 38] (lNS (lL hs [.m 40 11,.v 41 (qP b7 2),.o 42 (qS Ax ((outq ls xs k).length) cx) 3 2 1] (lC 43 hs (fDotN Arp crp ((ls.getD k lay0).W.getD i []) Ax cx (outq ls xs k) (outq ls xs k).length _ _ rfl rfl (by rw[mtx.row i oM,hlx]) rfl 1000000 1000000 oM (dot_b1 (show (outq ls xs k).length≤20 by omega)) (hB.w k i) (hB.x k oM) _ _ hs.g hs.f.1 hs.f.q.r.1 hs.f.q.r.2.1) ?_))));rintro _ _ _ hs rfl;have hdt:LQ 41000000 (gD ls xs k i):=(LQ.dot (n:=(outq ls xs k).length) (fun j _=>hB.w k i j) (fun j _=>hB.x k oM j) _ (nR _)).mono (dot_b2 (show (outq ls xs k).length≤20 by omega));refine lL hs [.m 39 43,.v 44 (qv (gD ls xs k i)),.v 45 qT] (lA 12 55 ([qF,uV 0,eS,uV 0,eS]) hs (fun zm _ _ hs=>lP 0 0 (qc (gD ls xs k i)) hs (fun _ hs=>lL hs [.m 13 45] (lN (cQ (cR 9 [] mixed hs al_nil ?_))))));refine eV 0 46 (qS (sB za) usx.length usx.length) (eV 1 47 (nV i) (eO 2 48 [(0,0,5)] (qv (gD ls xs k i)) hs (eV 3 49 (qP zb 2) (eO 4 50 [(3,2,1)] (qS ABx ((ls.getD k lay0).B.length) cBx) hs (eV 5 51 (nV i) (eX 6 52 ABx ((ls.getD k lay0).B.length) cBx 5 (i:Nat) i ((hs.f.2.1).ok oM) (eH 7 53 (qv (((ls.getD k lay0).B).getD i 0)) hs ((hs.f.2.1).el i oM) ?_)))))));have hq82:=LQ.add hdt (hB.b k i);refine eC 8 54 hs (fun _ _ hs=>fAdd (gD ls xs k i) (((ls.getD k lay0).B).getD i 0) (LQ.mono hdt oM) (LQ.mono (hB.b k i) oM) _ _ hs.g hs.f.q.r.2.1) ?_;rintro _ _ _ _ _ hs rfl;refine eD0 hs (fun _ _ hs=>tX 9 55 (sB za) usx.length usx.length 5 (i:Nat) i rfl (tW 10 2 ql qc 5 i (gS ls xs k i) hs oM (fun _ hs=>?_)));have zp:((ql).set i (gS ls xs k i)).length=usx.length:=by rw[List.length_set];exact hlq
 replace hs:=hs.to [⟨zm,55,qc (gD ls xs k i)⟩,⟨zc,55,(pl).flatMap qc⟩,⟨za,55,((ql).set i (gS ls xs k i)).flatMap qc⟩,⟨zb,144,[iV ((ls.getD k lay0).k),qS AWx usx.length cWx,qS ABx ((ls.getD k lay0).B.length) cBx]⟩,⟨b7,197,[qS s1A ((l1).length) s1c,qS s2A ((l2).length) s2c,qS Ax ((outq ls xs k).length) cx]⟩,⟨b4,197,[sZ,sZ,sZ]⟩,⟨b1,74,[qS A ts.length cap]⟩] [⟨30,1,s1A,s1c,(l1).length,(l1).flatMap vc⟩,⟨30,1,s2A,s2c,(l2).length,(l2).flatMap vc⟩];refine tN (cR 9 [] mixed hs al_nil ?_);refine eV 0 56 (qS (sB zc) usx.length usx.length) (eV 1 57 (nV i) (eV 2 58 (pB zb) (eO 3 59 [(3,0,1)] (iV ((ls.getD k lay0).k)) hs (eV 4 60 (qS (sB za) usx.length usx.length) (eV 5 61 (nV i) (eX 6 62 (sB za) usx.length usx.length 5 (i:Nat) i rfl (eQ 7 63 2 ((ql).set i (gS ls xs k i)) qc 5 0 i (qv (((ql).set i (gS ls xs k i)).getD i 0)) hs oM (eC 8 64 hs (fun _ _ hs=>nAct _ kdx (((ql).set i (gS ls xs k i)).getD i 0) (by rw[getD_set_self oM];exact LQ.mono (LQ.add hdt (hB.b k i)) oM) _ _ hs.g hs.f.q.r.2.1) ?_))))))));rintro _ _ _ _ _ hs rfl;refine eD0 hs (fun _ zv hs=>tX 9 65 (sB zc) usx.length usx.length 5 (i:Nat) i rfl (tW 10 1 pl qc 5 i (act (ls.getD k lay0).k (((ql).set i (gS ls xs k i)).getD i 0)) hs oM (fun _ hs=>?_)));have zq:((pl).set i (act (ls.getD k lay0).k (((ql).set i (gS ls xs k i)).getD i 0))).length=usx.length:=by rw[List.length_set];exact hlp
 replace hs:=hs.to [⟨zm,55,qc (gD ls xs k i)⟩,⟨zc,55,((pl).set i (act (ls.getD k lay0).k (((ql).set i (gS ls xs k i)).getD i 0))).flatMap qc⟩,⟨za,55,((ql).set i (gS ls xs k i)).flatMap qc⟩,⟨zb,144,[iV ((ls.getD k lay0).k),qS AWx usx.length cWx,qS ABx ((ls.getD k lay0).B.length) cBx]⟩,⟨b7,197,[qS s1A ((l1).length) s1c,qS s2A ((l2).length) s2c,qS Ax ((outq ls xs k).length) cx]⟩,⟨b4,197,[sZ,sZ,sZ]⟩,⟨b1,74,[qS A ts.length cap]⟩] [⟨30,1,s1A,s1c,(l1).length,(l1).flatMap vc⟩,⟨30,1,s2A,s2c,(l2).length,(l2).flatMap vc⟩];refine tN (cTo [(4,pB b4),(5,pB b7),(17,qS A ts.length cap),(18,nV ts.length),(19,nV k),(7,pB zb),(8,qS (sB za) usx.length usx.length),(9,qS (sB zc) usx.length usx.length),(32,qS AWx usx.length cWx),(33,nV usx.length),(34,nV i)] ?_);refine kQ (lIn 66 ((i:Nat)+1) (i+1) ?_);refine lL hs [.m 34 66] (lD ?_);intro a_ ka;replace hs:=hs.tl;replace hs:=hs.drop 1 0;refine ⟨_,_,?_,⟨i+1,(ql).set i (gS ls xs k i),(pl).set i (act (ls.getD k lay0).k (((ql).set i (gS ls xs k i)).getD i 0)),zv,rfl,rfl,hs.to _ _,oM,zp,zq,(fstep hq oM rfl),(fstep hp oM (congrArg _ (getD_set_self oM)))⟩,ka.to _ kR⟩
 omega
theorem RQ.eq {h:Hp}{v:Value}{p q:Rat}(x:RQ h v p)(e:p=q):RQ h v q:=by subst e;exact x
theorem lq0':LQ 1 0:=LQ.lit (z:=0) kD
theorem chkFrom_ok {ls:List Lay}:∀ (n k:Nat),chkFrom ls k n=0→∀ i,k≤i→i<k+n→Fine ls i∧Kd ls i
  | 0,k,_,i,h1,h2=>absurd h2 oM
  | n + 1,k,h,i,h1,h2=>by
    unfold chkFrom at h
    split at h
    · rename_i hf
      split at h
      · rename_i hd
        by_cases e:i=k
        · subst e;exact ⟨hf,hd⟩
        · exact chkFrom_ok n (k+1) h i oM oM
      · exact absurd h kD
    · exact absurd h kD
def dOf (ls:List Lay)(i:Nat):Nat:=if i=0 then ((ls.getD 0 lay0).W.getD 0 []).length else (ls.getD (i-1) lay0).W.length
theorem chk_net3 {ls:List Lay}(h:chkq ls=0):Net3 ls (dOf ls):=by
  unfold chkq at h
  split at h
  · rename_i hl
    have H:=chkFrom_ok ls.length 0 h;refine ⟨hl,?_,fun i hi=>?_⟩
    · obtain ⟨⟨_,_,_,f4,_⟩,_⟩:=H 0 oM oM
      show (if 0=0 then _ else _)≤20
      rw[if_pos rfl];exact f4 rfl
    · obtain ⟨⟨f1,f2,f3,f4,f5⟩,k1,k2⟩:=H i oM oM
      obtain ⟨r1,r2,r3⟩:=f1;have e1:dOf ls (i+1)=(ls.getD i lay0).W.length:=by show (if i+1=0 then _ else _)=_;rw[if_neg oM];rfl
      have e2:((ls.getD i lay0).W.getD 0 []).length=dOf ls i:=by
        by_cases h0:i=0
        · subst h0;show _=(if 0=0 then _ else _);rw[if_pos rfl]
        · rw[f5 oM];show _=(if i=0 then _ else _);rw[if_neg h0]
      rw[e1];refine ⟨⟨rfl,r1,by rw[←e2];exact r2,fun j hj=>by rw[←e2];exact r3 j hj⟩,f3,f2,by omega⟩
  · exact absurd h kD
structure LaySz (L:Lay):Prop where
  rl:L.W.length≤8
  rls:∀ i,(L.W.getD i []).length≤8
  bl:L.B.length≤8
  w:∀ i j,LQ 1 ((L.W.getD i []).getD j 0)
  b:∀ i,LQ 1 (L.B.getD i 0)
  b4:L.B.length≤4
  w4:(L.W.getD 0 []).length≤4
theorem LaySz.fit {L:Lay}(h:LaySz L):LayFit L:=⟨by have:=h.rl;omega,fun i _=>by have:=h.rls i;omega,fun i _ j _=>(h.w i j).mono oM,by have:=h.bl;omega,fun i _=>(h.b i).mono oM⟩
theorem LaySz.len {L:Lay}(h:LaySz L):LayLen L:=⟨by have:=h.rl;omega,fun i _=>by have:=h.rls i;omega,by have:=h.bl;omega⟩
theorem lq0 {k:Nat}(h:1≤k):LQ k 0:=(LQ.lit (z:=0) kD).mono h
def grow:Nat→Nat
  | 0=>1
  | k+1=>16*grow k+40
theorem layq_lq {L:Lay}{x:List Rat}{m:Nat}(h:LaySz L)(hx:∀ j,LQ m (x.getD j 0))(hl:x.length≤8)(hm:1≤m)(j:Nat):LQ (16*m+40) ((layq L x).getD j 0):=by
  unfold layq
  by_cases hj:j<L.W.length
  · rw[List.getD_eq_getElem?_getD,List.getElem?_eq_getElem (by simpa using hj),List.getElem_map,List.getElem_range]
    show LQ _ (act _ _)
    have h1:=LQ.dot (n:=x.length) (fun i _=>h.w j i) (fun i _=>hx i) x.length (Nat.le_refl _)
    have h2:=(h1.add (h.b j)).mono (l:=8*m+19) (by
      have:x.length*(1+m+1)≤8*(1+m+1):=Nat.mul_le_mul_right _ hl
      omega)
    exact (LQ.act _ h2 oM).mono oM
  · rw[List.getD_eq_getElem?_getD,List.getElem?_eq_none (by simpa using hj)]
    exact lq0 oM
theorem outq_lq {ls:List Lay}{d:Nat→Nat}(o:Net3 ls d)(hL:∀ k,LaySz (ls.getD k lay0)){xs:List Rat}(hx:xs.length=d 0)(hq:∀ j,LQ 1 (xs.getD j 0)):∀ k,k≤ls.length→∀ j,LQ (grow k) ((outq ls xs k).getD j 0)
  | 0,_,j=>hq j
  | k + 1,hk,j=>by
    show LQ (16*grow k+40) ((layq _ _).getD j 0)
    refine layq_lq (hL k) (outq_lq o hL hx hq k oM) ?_ ?_ j
    · rw[outq_len o hx k oM]
      have h0:=(o.lay k oM).1.row 0 (o.lay k oM).1.rpos;have:=(hL k).rls 0
      omega
    · cases k with
      | zero=>exact Nat.le_refl _
      | succ k=>show 1≤16*grow k+40;omega
theorem grow_le (k:Nat)(h:k≤4):grow k≤1000000:=by
  have:k=0∨k=1∨k=2∨k=3∨k=4:=by omega
  rcases this with rfl|rfl|rfl|rfl|rfl<;>decide
theorem lay0_sz:LaySz lay0:=⟨by decide,fun i=>by simp[lay0],by decide,fun i j=>by simp[lay0];exact lq0 oM,fun i=>by simp[lay0];exact lq0 oM,by decide,by decide⟩
theorem netB {ls:List Lay}{d:Nat→Nat}(o:Net3 ls d)(hL:∀ k,LaySz (ls.getD k lay0)){xs:List Rat}(hx:xs.length=d 0)(hq:∀ j,LQ 1 (xs.getD j 0)):NetB ls xs :=
  ⟨fun k i j=>((hL k).w i j).mono oM,fun k i=>((hL k).b i).mono oM,fun k hk j=>(outq_lq o hL hx hq k hk j).mono (grow_le k (by have:=o.len.2;omega))⟩
noncomputable def ansE (ls:List Lay)(xs:List Rat):Int:=if chkq ls=0 then (if xs.length=dOf ls 0 then 0 else 5) else 1
noncomputable def ansL (ls:List Lay)(xs:List Rat):List Rat:=if chkq ls=0∧xs.length=dOf ls 0 then outq ls xs ls.length else []
theorem cmpR_self (a:Rat):cmpR a a=0:=by unfold cmpR cmpI;rw[if_neg oM,if_neg oM]
theorem ansE0 {ls:List Lay}{xs:List Rat}(h1:chkq ls=0)(h2:xs.length=dOf ls 0):ansE ls xs=0:=by unfold ansE;rw[if_pos h1,if_pos h2]
theorem ansE1 {ls:List Lay}{xs:List Rat}(h1:chkq ls≠0):ansE ls xs=1:=by unfold ansE;rw[if_neg h1]
theorem ansE5 {ls:List Lay}{xs:List Rat}(h1:chkq ls=0)(h2:xs.length≠dOf ls 0):ansE ls xs=5:=by unfold ansE;rw[if_pos h1,if_neg h2]
theorem ansL0 {ls:List Lay}{xs:List Rat}(h1:chkq ls=0)(h2:xs.length=dOf ls 0):ansL ls xs=outq ls xs ls.length:=by unfold ansL;rw[if_pos ⟨h1,h2⟩]
theorem ansL1 {ls:List Lay}{xs:List Rat}(h:¬(chkq ls=0∧xs.length=dOf ls 0)):ansL ls xs=[]:=by unfold ansL;rw[if_neg h]
theorem bneF' {a b:Int}(h:a=b):((a:Int) != (b:Int))=false:=by simpa using h
theorem nAnswer1 (A:Option Addr)(cap:Nat)(ts:List LV)(ls:List Lay)(hn:ls.length≤1000000)(hF:∀ i,i<ls.length→LayLen (ls.getD i lay0))(X:Option Addr)(c0:Nat)(xs:List Rat)(hc0:xs.length≤c0)(hB:chkq ls=0→xs.length=dOf ls 0→NetB ls xs)(h1:chkq ls≠0)(w:World)(h:Hp)(g:G w h)(hA:Sl A ts h)(hN:NetL h ts ls)(hX:Sq X xs h)(tb:Tab h):CR 81 #[.agg #[.slice A ts.length cap],.slice X xs.length c0] w h (fun v h1=>∃ A c,v=.tuple #[.slice A (ansL ls xs).length c,iV (ansE ls xs)]∧(ansL ls xs).length≤c∧Sq A (ansL ls xs) h1):=by
 have hs:=(((((sS g).aS hA).aN hN).aS hX).aB tb);refine go Tryz.func81 [(0,.agg #[qS A ts.length cap]),(1,qS X xs.length c0)] rfl (cSL (lA 2 74 ([qS A ts.length cap]) hs (fun b1 w2 h3 hs=>lL hs [.v 4 (sZ),.v 5 (iV 0)] (lN (cQ (cSL (lL hs [.o 6 (.agg #[qS A ts.length cap]) 0 0 1] (lC 7 hs (nCheckG A cap ts ls hn hF _ _ hs.g hs.f.r.2.1 hs.f.r.1) ?_))))))));rintro _ w4 h5 hs rfl;have hb6:((chkq ls:Int) != (0:Int))=true:=bneT h1;have phb6:=neOfBne hb6;exact lB 8 hb6 (lN (cIT (cSL (lL hs [.v 4 (sZ),.v 5 (iV 1)] (lN (kX (hs.ret [] (.tuple #[sZ,iV 1]) (⟨none,0,by rw[ansE1 h1,ansL1 (fun e=>h1 e.1)];rfl,by rw[ansL1 (fun e=>h1 e.1)];exact nR _,by rw[ansL1 (fun e=>h1 e.1)];exact SlO.nil⟩))))))))
theorem nAnswer5 (A:Option Addr)(cap:Nat)(ts:List LV)(ls:List Lay)(hn:ls.length≤1000000)(hF:∀ i,i<ls.length→LayLen (ls.getD i lay0))(X:Option Addr)(c0:Nat)(xs:List Rat)(hc0:xs.length≤c0)(hB:chkq ls=0→xs.length=dOf ls 0→NetB ls xs)(h1:chkq ls=0)(h2:xs.length≠dOf ls 0)(w:World)(h:Hp)(g:G w h)(hA:Sl A ts h)(hN:NetL h ts ls)(hX:Sq X xs h)(tb:Tab h):CR 81 #[.agg #[.slice A ts.length cap],.slice X xs.length c0] w h (fun v h1=>∃ A c,v=.tuple #[.slice A (ansL ls xs).length c,iV (ansE ls xs)]∧(ansL ls xs).length≤c∧Sq A (ansL ls xs) h1):=by
 have hs:=(((((sS g).aS hA).aN hN).aS hX).aB tb);refine go Tryz.func81 [(0,.agg #[qS A ts.length cap]),(1,qS X xs.length c0)] rfl (cSL (lA 2 74 ([qS A ts.length cap]) hs (fun b1 w2 h3 hs=>lL hs [.v 4 (sZ),.v 5 (iV 0)] (lN (cQ (cSL (lL hs [.o 6 (.agg #[qS A ts.length cap]) 0 0 1] (lC 7 hs (nCheckG A cap ts ls hn hF _ _ hs.g hs.f.r.2.1 hs.f.r.1) ?_))))))));rintro _ w4 h5 hs rfl;have hb6:((chkq ls:Int) != (0:Int))=false:=bneF' h1;have phb6:=eqOfBne hb6;refine lB 8 hb6 (lN (cIF (cK (cQ (cSL (lL hs [.o 9 (.agg #[qS A ts.length cap]) 0 0 1,.m 10 1] (lC 11 hs (nSuitsF A cap ts ls (dOf ls) (chk_net3 h1) X c0 xs h2 _ _ hs.g hs.f.r.2.1 hs.f.r.1 hs.f.2.1) ?_)))))));rintro _ w7 h8 hs rfl;exact lL hs [.v 12 qT] (lN (cIT (cSL (lL hs [.v 4 (sZ),.v 5 (iV 5)] (lN (kX (hs.ret [] (.tuple #[sZ,iV 5]) (⟨none,0,by rw[ansE5 h1 h2,ansL1 (fun e=>h2 e.2)];rfl,by rw[ansL1 (fun e=>h2 e.2)];exact nR _,by rw[ansL1 (fun e=>h2 e.2)];exact SlO.nil⟩))))))))
theorem nAnswer0 (A:Option Addr)(cap:Nat)(ts:List LV)(ls:List Lay)(hn:ls.length≤1000000)(hF:∀ i,i<ls.length→LayLen (ls.getD i lay0))(X:Option Addr)(c0:Nat)(xs:List Rat)(hc0:xs.length≤c0)(hB:chkq ls=0→xs.length=dOf ls 0→NetB ls xs)(h1:chkq ls=0)(h2:xs.length=dOf ls 0)(w:World)(h:Hp)(g:G w h)(hA:Sl A ts h)(hN:NetL h ts ls)(hX:Sq X xs h)(tb:Tab h):CR 81 #[.agg #[.slice A ts.length cap],.slice X xs.length c0] w h (fun v h1=>∃ A c,v=.tuple #[.slice A (ansL ls xs).length c,iV (ansE ls xs)]∧(ansL ls xs).length≤c∧Sq A (ansL ls xs) h1):=by
 have hs:=(((((sS g).aS hA).aN hN).aS hX).aB tb);refine go Tryz.func81 [(0,.agg #[qS A ts.length cap]),(1,qS X xs.length c0)] rfl (cSL (lA 2 74 ([qS A ts.length cap]) hs (fun b1 w2 h3 hs=>lL hs [.v 4 (sZ),.v 5 (iV 0)] (lN (cQ (cSL (lL hs [.o 6 (.agg #[qS A ts.length cap]) 0 0 1] (lC 7 hs (nCheckG A cap ts ls hn hF _ _ hs.g hs.f.r.2.1 hs.f.r.1) ?_))))))));rintro _ w4 h5 hs rfl;have hb6:((chkq ls:Int) != (0:Int))=false:=bneF' h1;have phb6:=eqOfBne hb6;refine lB 8 hb6 (lN (cIF (cK (cQ (cSL (lL hs [.o 9 (.agg #[qS A ts.length cap]) 0 0 1,.m 10 1] (lC 11 hs (nSuitsT A cap ts ls (dOf ls) (chk_net3 h1) X c0 xs h2 _ _ hs.g hs.f.r.2.1 hs.f.r.1 hs.f.2.1) ?_)))))));rintro _ w7 h8 hs rfl;refine lL hs [.v 12 qF] (lN (cIF (cK (cSL (lL hs [.o 13 (.agg #[qS A ts.length cap]) 0 0 1,.m 14 1] (lC 15 hs (nForward A cap ts ls (dOf ls) (chk_net3 h1) X c0 xs h2 hc0 (hB h1 h2) _ _ hs.g hs.f.r.2.1 hs.f.r.1 hs.f.2.1 hs.f.1) ?_))))));rintro _ w9 _ hs ⟨A1,c1,u1,A2,c2,u2,Ax,cx,rfl,-,-,hcx,-,-,-,-,hXk⟩;replace hs:=hs.aS hXk;exact lL hs [.v 16 (qS Ax ((outq ls xs ls.length).length) cx),.m 4 16,.v 5 (iV 0)] (lN (kX (hs.ret [] (.tuple #[qS Ax ((outq ls xs ls.length).length) cx,iV 0]) (⟨_,_,by rw[ansE0 h1 h2,ansL0 h1 h2],by rw[ansL0 h1 h2];exact hcx,by rw[ansL0 h1 h2];exact hs.f.1⟩))))
theorem nAnswer (A:Option Addr)(cap:Nat)(ts:List LV)(ls:List Lay)(hn:ls.length≤1000000)(hF:∀ i,i<ls.length→LayLen (ls.getD i lay0))(X:Option Addr)(c0:Nat)(xs:List Rat)(hc0:xs.length≤c0)(hB:chkq ls=0→xs.length=dOf ls 0→NetB ls xs)(w:World)(h:Hp)(g:G w h)(hA:Sl A ts h)(hN:NetL h ts ls)(hX:Sq X xs h)(tb:Tab h):Calls Tryz.prog 81 #[.agg #[.slice A ts.length cap],.slice X xs.length c0] w (Ret w h (fun v h1=>∃ A c,v=.tuple #[.slice A (ansL ls xs).length c,iV (ansE ls xs)]∧(ansL ls xs).length≤c∧Sq A (ansL ls xs) h1)):=by
  by_cases h1:chkq ls=0
  · by_cases h2:xs.length=dOf ls 0
    · exact nAnswer0 A cap ts ls hn hF X c0 xs hc0 hB h1 h2 w h g hA hN hX tb
    · exact nAnswer5 A cap ts ls hn hF X c0 xs hc0 hB h1 h2 w h g hA hN hX tb
  · exact nAnswer1 A cap ts ls hn hF X c0 xs hc0 hB h1 w h g hA hN hX tb
def sizesq (ls:List Lay):List Nat:=dOf ls 0::ls.map (·.W.length)
theorem rNetSizes (A:Option Addr)(cap:Nat)(ts:List LV)(ls:List Lay)(hO:Net3 ls (dOf ls))(w:World)(h:Hp)(g:G w h)(hA:Sl A ts h)(hN:RNetL h ts ls):CR 79 #[.agg #[.slice A ts.length cap]] w h (fun v h1=>∃ A c,v=.slice A (sizesq ls).length c∧(sizesq ls).length≤c∧Sn A (sizesq ls) h1):=by
 have hs:=(((sS g).aS hA).aM hN);have hl:=(hs.f.1).len;obtain ⟨o1,o2⟩:=hO.len;have o3:=hO.first;refine go Tryz.func79 [(0,.agg #[qS A ts.length cap])] rfl (cSL (lA 1 63 ([qS A ts.length cap]) hs (fun b1 w2 h3 hs=>lL hs [.v 2 (sZ)] (lNS (lL hs [.v 5 (pB b1),.o 6 (qS A ts.length cap) 0 0 1] (lX 7 A ts.length cap 3 0 0 ((hs.f.2.1).ok oM) ?_))))));refine lL hs [.v 8 (.pointer (some ⟨(aB A),aO A+0*3+1,none⟩))] ?_;obtain ⟨mtx,lbx,r12x,kdx⟩:=hO.lay 0 oM;obtain ⟨ekx,⟨AWx,cWx,usx,eWx,hcWx,hAWx,hTWx⟩,⟨ABx,cBx,rsx,eBx,hcBx,hABx,hTBx⟩⟩:=(hs.f.1).at_ 0 oM;replace hs:=((((hs.aS hAWx).aV hTWx).aS hABx).aT hTBx);refine lHe 9 ((ts.getD 0 lvd).2.1) hs (((hs.f.q.2.1).el 0 oM).part 1 1) eWx ?_;have mrx:=mtx.rows;have mpx:=mtx.rpos;have mcx:=mtx.cpos;have lux:=(hs.f.r.1).len;have m0x:=mtx.row 0 oM;refine lX 10 AWx usx.length cWx 1 0 0 ((hs.f.r.2.1).ok oM) ?_;obtain ⟨Arp,crp,trp,erp,hcrp,hRrp,hTrp⟩:=(hs.f.r.1).at_ 0 oM;have hlrp:=hTrp.len;replace hs:=((hs.aS hRrp).aT hTrp);refine lHe 11 (usx.getD 0 undef) hs ((hs.f.q.2.1).el 0 oM) erp (lL hs [.v 12 (nV trp.length)] (lRw 13 3 1 natc ([trp.length]:List Nat) hs (fun b4 w5 h6 hs=>lL hs [.m 3 13] (lN (cQ (cSL (lL hs [.v 4 (iV 0)] (lN (kZ ?_)))))))));refine cTo _ (CG.loop (fun μ_ Γ w_=>∃ (k:Nat) (sA:Option Addr) (sc:Nat) (zl:List Nat) (h_:Hp),μ_=ls.length-k∧Γ=[(1,pB b1),(2,sZ),(4,nV k),(3,qS sA ((zl).length) sc)]∧SS w h w_ h_ [⟨b1,63,[qS A ts.length cap]⟩] [⟨3,1,sA,sc,(zl).length,(zl).flatMap natc⟩] [Rt trp (((ls.getD 0 lay0).W).getD 0 []),Sr Arp trp,Rt rsx (ls.getD 0 lay0).B,Sr ABx rsx,Ru usx (ls.getD 0 lay0).W,Sv AWx usx,Rn ts ls,Sl A ts]∧k≤ls.length∧(zl=dOf ls 0::(ls.take k).map (·.W.length))) _ ⟨0,sB b4,(([trp.length]:List Nat)).length,([trp.length]:List Nat),h6,rfl,rfl,hs.to _ _,Nat.zero_le _,(by rw[hlrp];rfl)⟩ ?_);rintro _ _ w9 ⟨k,sA,sc,zl,_,hm11,rfl,hs,hk,hzl⟩;have hzz:zl.length=k+1:=by rw[hzl];simp;omega
 refine cQ (cSL (lL hs [.m 14 4,.v 15 (pB b1),.o 16 (qS A ts.length cap) 0 0 1,.v 17 (nV ts.length)] ?_));cases za:(decide ((k:Int)<(ts.length:Int)))
 ·
  have zb:=oF za;refine lB 18 za (lN (cIF (CG.exit ?_)))
  show CG _ _ _ _ _ _ _ _
  refine cSL (lL hs [.m 31 3,.m 2 31] (lN (kX ?_)));have hkn:k=ls.length:=by omega
  have hzs:zl=sizesq ls:=by rw[hzl,hkn,List.take_length];rfl
  obtain ⟨_,hs,zc⟩:=hs.pubr 0 (A:=sA) (c:=sc) (l:=zl) (f:=natc) (ty:=3) (sz:=1) 0 (fun _=>rfl);exact hs.ret [] (qS sA ((zl).length) sc) (by rw[←hzs];exact ⟨_,_,rfl,zc,hs.f.1⟩)
 have zb:=oT za;refine lB 18 za (lN (cIT (cK (cQ (kZ (kQ (lL hs [.m 21 3,.v 22 (pB b1),.o 23 (qS A ts.length cap) 0 0 1,.m 24 4] (lX 25 A ts.length cap 3 (k:Nat) k ((hs.f.q.r.2.1).ok oM) ?_))))))));refine lL hs [.v 26 (.pointer (some ⟨(aB A),aO A+k*3+1,none⟩))] ?_;obtain ⟨mty,lby,r12y,kdy⟩:=hO.lay k oM;obtain ⟨eky,⟨AWy,cWy,usy,eWy,hcWy,hAWy,hTWy⟩,⟨ABy,cBy,rsy,eBy,hcBy,hABy,hTBy⟩⟩:=(hs.f.q.r.1).at_ k oM;replace hs:=((((hs.aS hAWy).aV hTWy).aS hABy).aT hTBy);refine lHe 27 ((ts.getD k lvd).2.1) hs (((hs.f.q.q.r.2.1).el k oM).part 1 1) eWy ?_;have mry:=mty.rows;have mpy:=mty.rpos;have mcy:=mty.cpos;have luy:=(hs.f.r.1).len;have m0y:=mty.row 0 oM;refine lL hs [.v 28 (nV usy.length)] (lR 29 3 1 ([nV usy.length]) hs (fun zd _ _ hs=>lY 30 0 3 1 sc sA zl natc usy.length 8 zd (iV 0) hs hs.f.1 (fun ze zf _ zg hs=>lL hs [.m 3 30] (lN (kQ (lL hs [.m 19 4] (lIn 20 ((k:Nat)+1) (k+1) ?_)))))));refine lL hs [.m 4 20] (lD ?_);intro a_ ka;replace hs:=hs.tl.tl.tl.tl.tl;refine ⟨_,_,?_,⟨k+1,ze,zf,zl++[usy.length],zg,rfl,rfl,hs.to _ _,oM,(by rw[take_snoc' lay0 oM,List.map_append,hzl,luy];rfl)⟩,ka.to _ kR⟩
 omega
theorem Seg.runF {α:Type}{K:Nat}{P:Program}{w w':World}{h:Hp}{b o:Nat}{cs:List Value}{s:Sem α}{r:α}(sg:Seg h b o cs)(g:G w h)(hK:w.heap.size≤K)(x:Mo [K] w w')(he:evalL P s cs=some (r,mka b o cs.length)):s.run P w'=.ok r w' :=
  evalL_run _ _ _ _ he (fun i a v ha hv=>by
    rw[mka_get _ _ _ _ _ ha];have e:=sg i v hv;have hc:=hcell_w g e
    have hl:b<w.heap.size:=by
      rcases Nat.lt_or_ge b w.heap.size with hl|hl
      · exact hl
      · unfold World.cell? at hc;rw[Array.getElem?_eq_none hl] at hc;cases hc
    have hb:=x.blk b hl (fun hm=>by have:=List.mem_singleton.1 hm;omega)
    unfold World.cell? at hc ⊢
    rw[hb];exact hc)
section fut
variable {P:Program} {n:Nat} {N R:Po} {X:Nat→Po} {ops:Array Oper} {k0 K:Nat} {L:Array Bool} {Γ:Env} {w:World} {h:Hp} {w0:World} {h0:Hp} {B:List Bx} {Rs:List Rw} {F:List (Hp→Prop)}
theorem fHe (i t:Nat)(v:Value){u:Value}{b o:Nat}{cs:List Value}(s:SS w0 h0 w h B Rs F)(hK:w.heap.size≤K)(sg:Seg h b o cs)(e:v=u)(H:AG ⟨[K],none⟩ P n N R X ops k0 (L.setIfInBounds i true) ((t,u)::Γ) w)(hc:cEl n ops k0 [] L Γ i t=true:=by kernel_rfl)(he:evalL P (execOp (ev Γ) (opAt ops i)) cs=some (.value v,mka b o cs.length):=by kernel_rfl):AG ⟨[K],none⟩ P n N R X ops k0 L Γ w :=
  aL i t u (fun _ hx=>e▸Seg.runF sg s.g hK hx he) H hc
theorem fRq (i t j:Nat)(v:Value)(ds:List Value){ty:TypeId}{sz c m b o:Nat}{cs:List Value}(s:SS w0 h0 w h B Rs F)(hK:w.heap.size≤K)(hds:(cs.drop o).take ds.length=ds)(H:AG ⟨[K],none⟩ P n N R X ops k0 (L.setIfInBounds i true) ((t,v)::Γ) w)(hr':Rs.getD j default=⟨ty,sz,some ⟨b,0,none⟩,c,m,cs⟩:=by kernel_rfl)(hj:decide (j<Rs.length)=true:=by kernel_rfl)(hc:cEl n ops k0 [] L Γ i t=true:=by kernel_rfl)(he:evalL P (execOp (ev Γ) (opAt ops i)) ds=some (.value v,mka b o ds.length):=by kernel_rfl):AG ⟨[K],none⟩ P n N R X ops k0 L Γ w:=by
  obtain ⟨vs,ho,hv,_⟩:=s.rowO j hr' (oT hj);have hn:b ∉ [K]:=fun hm=>by have:=List.mem_singleton.1 hm;have:=ho.lt;omega
  exact aL i t v (fun w' hx=>evalL_run _ _ _ _ he (fun q a v ha hv'=>by rw[mka_get _ _ _ _ _ ha,(ho.mo hx hn).cell];exact take_get hv (take_drop_get hds q v hv'))) H hc
theorem fEv {M:Ms}(i t:Nat)(v:Value)(w':World)(hm:Mo M.l w w')(H:AG M P n N R X ops k0 (L.setIfInBounds i true) ((t,v)::Γ) w')(hr:(execOp (ev Γ) (opAt ops i)).run P w=.ok (.value v) w')(hc:(chkK ops k0 L i && knownOp Γ (opAt ops i) && ((opAt ops i).dst == some t) && decide (t<n))=true)(hw:wantE ops Γ (opAt ops i)=some true):AG M P n N R X ops k0 L Γ w:=by
  simp only[Bool.and_eq_true,decide_eq_true_eq,beq_iff_eq] at hc
  obtain ⟨⟨⟨h1,h2⟩,h3⟩,h4⟩:=hc
  unfold chkK at h1
  simp only[Bool.and_eq_true,decide_eq_true_eq,beq_iff_eq] at h1
  have hg:=opAt_get (ops:=ops) h1.1.1.1;intro a ka;refine A.intro (fun h0=>by rw[h1.2] at h0;cases h0) (fun j hj=>?_);rw[h1.2,List.mem_singleton] at hj
  subst hj;refine OpR.wpOp (R:=fun u w1=>u=v∧w1=w') hg ⟨ka.want hw,.inl ⟨v,w',?_,rfl,rfl⟩⟩ (fun u w1 hq=>⟨Rl.mo h1.1.1.2 (hq.2▸hm),?_⟩)
  · rw[ka.exec (Region.noSelect_spec h1.1.2 j _ · · hg) h2];exact hr
  · rw[h3,hq.1,hq.2];exact H _ (ka.put h4 v)
theorem fR {M:Ms}(i t:Nat)(ty:TypeId)(m:Nat)(cs:List Value)(s:SS w0 h0 w h B Rs F)(H:∀ b w' h',w'.heap.size=w.heap.size+1→SS w0 h0 w' h' B Rs ((fun h=>Seg h b 0 cs)::F)→AG M P n N R X ops k0 (L.setIfInBounds i true) ((t,.slice (some ⟨b,0,none⟩) m m)::Γ) w')(hc:(chkK ops k0 L i && knownOp Γ (opAt ops i) && ((opAt ops i).dst == some t) && decide (t<n))=true:=by kernel_rfl)(hw:wantE ops Γ (opAt ops i)=some true:=by kernel_rfl)
    (hr:(execOp (ev Γ) (opAt ops i)).run P w=.ok (.value (.slice (some ⟨w.heap.size,0,none⟩) m m)) (w.alloc (.cells cs.toArray ty (0,0))):=by kernel_rfl):AG M P n N R X ops k0 L Γ w :=
  fEv i t _ _ ((Up.allocAny s.g _ _ (.inl rfl)).ext.mo M.l) (H _ _ _ (by rw[heap_alloc,Array.size_push]) ((s.step (Up.allocAny s.g _ _ (.inl rfl))).a_Seg (by rw[s.g.size];exact Seg.new cs ty))) hr hc hw
theorem fYz {M:Ms}{α:Type}(i t:Nat)(ty:TypeId)(sz:Nat)(f:α→List Value)(d:α)(b0:Nat)(A2:Option Addr)(m:List α)(c2 bt:Nat)(z:Value)(s:SS w0 h0 w h B Rs F)(so:SlO sz f d h A2 m)(hm0:0<m.length)(h1:∀ x∈m,(f x).all (·.oneCell')=true)
    (H:∀ A' c' w' h',(∀ b,(Value.slice A' m.length c').ownBlock=some b→b=w.heap.size)→SS w0 h0 w' h' B (⟨ty,sz,A',c',m.length,m.flatMap f⟩::Rs) F→AG M P n N R X ops k0 (L.setIfInBounds i true) ((t,.slice A' m.length c')::Γ) w')
    (hc:(chkK ops k0 L i && knownOp Γ (opAt ops i) && ((opAt ops i).dst == some t) && decide (t<n))=true:=by kernel_rfl)(hw:wantE ops Γ (opAt ops i)=some true:=by kernel_rfl)(he:apE P (ev Γ) (opAt ops i)=some (.slice (some ⟨b0,0,none⟩) 0 0,.slice A2 m.length c2,ty,z,sz,bt):=by kernel_rfl)(hf:∀ x,(f x).length=sz:=by intro _;rfl)(hzs:z.cells.size=sz:=by kernel_rfl)(hpos:0<sz:=by decide)(hm:m.length≤1099511627776:=by omega)(hb:m.length*bt≤140737488355328:=by omega):AG M P n N R X ops k0 L Γ w:=by
  rw[so.ok hm0] at he
  obtain ⟨x',y,ty',ho,hx,hy,hu,hi⟩:=apE_op he
  obtain ⟨v',w',hrun,ow,gr,hloc⟩:=app_runE (P:=P) ho hx hy hu hi hzs hpos s.st (len_flat hf m) (seg_newsO s.g (so.flat hf)) (fun u hu=>by
    obtain ⟨x,hx',hx⟩:=List.mem_flatMap.1 hu;exact (List.all_eq_true.1 (h1 x hx')) u hx) hm0 hm hb
  obtain ⟨h',A',c',rfl,e2,s'⟩:=(s.nil ty sz).grown (j:=0) (by simp) (w':=w') (v':=v') (m2:=m.length) (news:=m.flatMap f) ow gr hloc;have hrun':(execOp (ev Γ) (opAt ops i)).run P w=.ok (.value (.slice A' m.length c')) w':=by rw[hrun];simp
  refine fEv i t _ w' ⟨gr.os,gr.tape,gr.output,gr.size,fun c hc _=>gr.block c hc (by simp[Value.ownBlock])⟩ (H A' c' w' h' ?_ (by simpa using s')) hrun' hc hw;intro b hb'
  rcases hloc with e|e
  · have e3:some b=(Value.slice none 0 0).ownBlock:=hb'.symm.trans (by simpa [Value.ownBlock] using e)
    simp[Value.ownBlock] at e3
  · have e3:some b=some w.heap.size:=hb'.symm.trans (by simpa [Value.ownBlock] using e)
    injection e3
theorem fY {M:Ms}{α:Type}(i t j:Nat)(ty:TypeId)(sz c:Nat)(A:Option Addr)(l:List α)(f:α→List Value)(x:α)(bt b:Nat)(z:Value)(s:SS w0 h0 w h B Rs F)(sg:Seg h b 0 (f x))(hMv:∀ b,(Value.slice A l.length c).ownBlock=some b→b∈M.l)
    (H:∀ A' c' w' h',SS w0 h0 w' h' B (Rs.set j ⟨ty,sz,A',c',(l++[x]).length,(l++[x]).flatMap f⟩) F→AG M P n N R X ops k0 (L.setIfInBounds i true) ((t,.slice A' (l++[x]).length c')::Γ) w')
    (hc:(chkK ops k0 L i && knownOp Γ (opAt ops i) && ((opAt ops i).dst == some t) && decide (t<n))=true:=by kernel_rfl)(hw:wantE ops Γ (opAt ops i)=some true:=by kernel_rfl)(he:apE P (ev Γ) (opAt ops i)=some (.slice A l.length c,.slice (some ⟨b,0,none⟩) 1 1,ty,z,sz,bt):=by kernel_rfl)(hzs:z.cells.size=sz:=by kernel_rfl)(hpos:0<sz:=by decide)
    (hr':Rs.getD j default=⟨ty,sz,A,c,l.length,l.flatMap f⟩:=by kernel_rfl)(hj:decide (j<Rs.length)=true:=by kernel_rfl)(h1:(f x).all (·.oneCell')=true:=by kernel_rfl)(hl:(f x).length=1*sz:=by kernel_rfl)(hm:l.length+1≤1099511627776:=by omega)(hb:(l.length+1)*bt≤140737488355328:=by omega):AG M P n N R X ops k0 L Γ w:=by
  have hj':=oT hj;obtain ⟨x',y,ty',ho,hx,hy,hu,hi⟩:=apE_op he;have r:=s.ro _ (List.getElem_mem hj');have er:=rw_get hr' hj';rw[er] at r
  obtain ⟨v',w',hrun,ow,gr,hloc⟩:=app_run (P:=P) ho hx hy hu hi hzs hpos s.st r hl (seg_news s.g sg) (fun u hu=>(List.all_eq_true.1 h1) u hu) hm hb;have hg:=s.grown (j:=j) hj' (w':=w') (v':=v') (m2:=1) (news:=f x) (by rw[er];exact ow) (by rw[er];exact gr) (by rw[er];exact hloc);rw[er] at hg
  obtain ⟨h',A',c',rfl,e2,s'⟩:=hg;have e1:l.length+1=(l++[x]).length:=by simp
  simp only[] at s'
  rw[snoc_row,e1] at s'
  rw[e1] at hrun
  exact fEv i t _ w' ⟨gr.os,gr.tape,gr.output,gr.size,fun c hc hn=>gr.block c hc (fun e=>hn (hMv c e.symm))⟩ (H A' c' w' h' s') hrun hc hw
end fut
theorem getD_drop_ {α:Type}{l:List α}{n i:Nat}{d:α}:(l.drop n).getD i d=l.getD (n+i) d:=by simp[List.getD_eq_getElem?_getD]
theorem rts_drop {h:Hp}{ts:List RT}{qs:List Rat}(r:RTs h ts qs):RTs h (ts.drop 1) (qs.drop 1):=⟨by rw[List.length_drop,List.length_drop,r.len],fun i hi=>by rw[List.length_drop] at hi;rw[getD_drop_,getD_drop_];exact r.at_ _ oM⟩
theorem rvs_drop {h:Hp}{us:List Value}{W:List (List Rat)}(r:RVs h us W):RVs h (us.drop 1) (W.drop 1):=⟨by rw[List.length_drop,List.length_drop,r.len],fun i hi=>by rw[List.length_drop] at hi;rw[getD_drop_,getD_drop_];exact r.at_ _ oM⟩
theorem rnet_drop {h:Hp}{ts:List LV}{ls:List Lay}(r:RNetL h ts ls):RNetL h (ts.drop 1) (ls.drop 1):=⟨by rw[List.length_drop,List.length_drop,r.len],fun i hi=>by rw[List.length_drop] at hi;rw[getD_drop_,getD_drop_];exact r.at_ _ oM⟩
theorem getD_app_ {α:Type}{a b:List α}{i:Nat}{d:α}:(a++b).getD i d=if i<a.length then a.getD i d else b.getD (i-a.length) d:=by
  simp only[List.getD_eq_getElem?_getD,List.getElem?_append];split<;>rfl
theorem rnet_app {h:Hp}{ts ts2:List LV}{ls ls2:List Lay}(r:RNetL h ts ls)(r2:RNetL h ts2 ls2):RNetL h (ts++ts2) (ls++ls2):=⟨by rw[List.length_append,List.length_append,r.len,r2.len],fun i hi=>by
  rw[List.length_append] at hi
  rw[getD_app_,getD_app_,r.len]
  split
  · exact r.at_ i aM
  · exact r2.at_ _ oM⟩
theorem getD_set_ {α:Type}{l:List α}{n i:Nat}{d x:α}(h:n<l.length):(l.set n x).getD i d=if i=n then x else l.getD i d:=by
  split
  · rename_i e;subst e;simp[h]
  · rename_i e;rw[List.getD_eq_getElem?_getD,List.getElem?_set_ne (Ne.symm e),←List.getD_eq_getElem?_getD]
theorem rnet_set {h:Hp}{ts:List LV}{ls:List Lay}(r:RNetL h ts ls)(k:Nat)(hk:k<ls.length){t:LV}{L:Lay}(hx:t.1=L.k∧(∃ A c,∃ us:List Value,t.2.1=.slice A us.length c∧us.length≤c∧SlO 1 vc undef h A us∧RVs h us L.W) ∧
    (∃ A c,∃ rs:List RT,t.2.2=.slice A rs.length c∧rs.length≤c∧SlO 3 rqc rqd h A rs∧RTs h rs L.B)):RNetL h (ts.set k t) (ls.set k L):=⟨by rw[List.length_set,List.length_set,r.len],fun i hi=>by
  rw[List.length_set] at hi
  rw[getD_set_ (by rw[r.len];exact hk),getD_set_ hk]
  split
  · exact hx
  · exact r.at_ i hi⟩
theorem ln_one {h:Hp}{ts:List LV}{ls:List Lay}(r:RNetL h ts ls):∀ t∈ts,(lvc t).all (·.oneCell')=true:=fun t ht=>by
  obtain ⟨i,hi,e⟩:=List.mem_iff_getElem.1 ht;obtain ⟨_,⟨A,c,us,e1,_⟩,⟨B,d,rs,e2,_⟩⟩:=r.at_ i (by rw[←r.len];exact hi);have e3:ts.getD i lvd=t:=by simp[hi,e]
  rw[e3] at e1 e2
  unfold lvc;rw[e1,e2];rfl
theorem rv_one {h:Hp}{us:List Value}{W:List (List Rat)}(r:RVs h us W):∀ v∈us,(vc v).all (·.oneCell')=true:=fun v hv=>by
  obtain ⟨i,hi,e⟩:=List.mem_iff_getElem.1 hv;obtain ⟨A,c,ts,e1,_⟩:=r.at_ i (by rw[←r.len];exact hi);have e3:us.getD i undef=v:=by simp[hi,e]
  rw[e3] at e1
  unfold vc;rw[e1];rfl
structure LayS4 (L:Lay):Prop where
  rl:L.W.length≤4
  rls:∀ i,(L.W.getD i []).length≤4
  bl:L.B.length≤4
  w:∀ i j,LQ 1 ((L.W.getD i []).getD j 0)
  b:∀ i,LQ 1 (L.B.getD i 0)
theorem LayS4.sz {L:Lay}(h:LayS4 L):LaySz L:=⟨by have:=h.rl;omega,fun i=>by have:=h.rls i;omega,by have:=h.bl;omega,h.w,h.b,h.bl,h.rls 0⟩
theorem sz_set {ls:List Lay}(h:∀ i,LaySz (ls.getD i lay0)){k:Nat}{L:Lay}(hL:LaySz L):∀ i,LaySz ((ls.set k L).getD i lay0):=fun i=>by
  rcases Nat.lt_or_ge k ls.length with hk|hk
  · rw[getD_set_ hk];split
    · exact hL
    · exact h i
  · rw[List.set_eq_of_length_le hk];exact h i
theorem sz_app {a b:List Lay}(h:∀ i,LaySz (a.getD i lay0))(h2:∀ i,LaySz (b.getD i lay0)):∀ i,LaySz ((a++b).getD i lay0):=fun i=>by
  rw[getD_app_];split
  · exact h i
  · exact h2 _
theorem lay_wide {L:Lay}(z:LayS4 L){r:List Rat}(hl:r.length≤8)(hq:∀ i,LQ 1 (r.getD i 0))(hw:0<L.W.length):LaySz ⟨L.k,L.W++[r],L.B⟩:=by
  refine ⟨by show (L.W++[r]).length≤8;rw[List.length_append,List.length_singleton];have:=z.rl;omega,fun i=>?_,z.sz.bl,fun i j=>?_,z.b,z.bl,by show ((L.W++[r]).getD 0 []).length≤4;rw[getD_snoc,if_pos hw];exact z.rls 0⟩
  · show ((L.W++[r]).getD i []).length≤8
    rw[getD_snoc];split
    · exact z.sz.rls i
    · split
      · exact hl
      · exact Nat.zero_le _
  · show LQ 1 (((L.W++[r]).getD i []).getD j 0)
    rw[getD_snoc];split
    · exact z.w i j
    · split
      · exact hq j
      · exact lq0'
theorem lq_rep {n:Nat}(i:Nat):LQ 1 ((List.replicate n ((1:Int):Rat)).getD i 0):=by
  rw[List.getD_eq_getElem?_getD,List.getElem?_replicate];split
  · exact LQ.lit (z:=1) kD
  · exact lq0'
theorem mUnit (n:Nat)(hn:n≤1000000)(w:World)(h:Hp)(g:G w h):CR 69 #[nV n] w h (fun v h1=>∃ A c ts,v=.slice A (ts:List RT).length c∧ts.length≤c∧Sr A ts h1∧RTs h1 ts (List.replicate n ((1:Int):Rat))):=by
 have hs:=sS g;refine go Tryz.func69 [(0,nV n)] rfl (cSL (lL hs [.v 2 (sZ)] (lNS (lL hs [.v 3 (sZ)] (lN (cQ (cSL (lL hs [.v 4 (iV 0)] (lN (kZ ?_))))))))));replace hs:=hs.nil 97 3;refine cTo [(0,nV n),(2,sZ),(4,iV 0),(3,sZ)] ?_;replace hs:=hs.aT (RTs.nil);refine CG.loop (fun μ_ Γ w_=>∃ (k:Nat) (sA:Option Addr) (sc:Nat) (tl:List RT) (h_:Hp),μ_=n-k∧Γ=[(0,nV n),(2,sZ),(4,nV k),(3,qS sA ((tl).length) sc)]∧SS w h w_ h_ [] [⟨97,3,sA,sc,(tl).length,(tl).flatMap rqc⟩] [Rt tl (List.replicate k ((1:Int):Rat))]∧k≤n) _ ⟨0,none,0,[],h,rfl,rfl,hs.to _ _,Nat.zero_le _⟩ ?_;rintro _ _ w1 ⟨k,sA,sc,tl,h2,hm3,rfl,hs,hk⟩;have hlT:=(hs.f.1).len;rw[List.length_replicate] at hlT
 refine cQ (cSL (lL hs [.m 5 4,.m 6 0] ?_));cases hb4:(decide ((k:Int)<(n:Int)))
 ·
  have phb4:=oF hb4;refine lB 7 hb4 (lN (cIF (CG.exit ?_)))
  show CG _ _ _ _ _ _ _ _
  refine cSL (lL hs [.m 14 3,.m 2 14] (lN (kX ?_)));have hkn:k=n:=by omega
  obtain ⟨h5,hs,hc6⟩:=hs.pubr 0 (A:=sA) (c:=sc) (l:=tl) (f:=rqc) (ty:=97) (sz:=3) rqd (fun _=>rfl);exact hs.ret [] (qS sA ((tl).length) sc) (by rw[←hkn];exact ⟨_,_,tl,rfl,hc6,hs.f.1,hs.f.2.1⟩)
 have phb4:=oT hb4;refine lB 7 hb4 (lN (cIT (cK (cQ (kZ (kQ (lL hs [.m 10 3] (lC 11 hs (rOf 1 oM oM _ _ hs.g) ?_))))))));rintro _ _ _ hs ⟨A8,c9,za,zb,rfl,zc,zd,ze,zf⟩;replace hs:=hs.aP ze zf;refine lR 12 97 1 (rqx ((1:Int):Rat) A8 c9 za zb) hs (fun zg _ _ hs=>lY 13 0 97 3 sc sA tl rqc ((ineg ((1:Int):Rat).num,qS A8 ((lim (iabs ((1:Int):Rat).num)).length) c9,qS za ((lim ((1:Int):Rat).den).length) zb):RT) 56 zg (.agg #[qF,sZ,sZ]) hs hs.f.1 (fun zi zj _ zk hs=>lL hs [.m 3 13] (lN (kQ (lL hs [.m 8 4] (lIn 9 ((k:Nat)+1) (k+1) ?_))))));refine lL hs [.m 4 9] (lD ?_);intro a_ ka;replace hs:=(hs.tl.tl.tl.tl.add (K:=Rt (tl++[((ineg ((1:Int):Rat).num,qS A8 ((lim (iabs ((1:Int):Rat).num)).length) c9,qS za ((lim ((1:Int):Rat).den).length) zb):RT)]) (List.replicate (k+1) ((1:Int):Rat))) (by rw[List.replicate_succ'];exact RTs.snoc hs.f.r.2.1 (rqOk zc zd hs.f.r.1 hs.f.2.1)));refine ⟨_,_,?_,⟨k+1,zi,zj,tl++[((ineg ((1:Int):Rat).num,qS A8 ((lim (iabs ((1:Int):Rat).num)).length) c9,qS za ((lim ((1:Int):Rat).den).length) zb):RT)],zk,rfl,rfl,hs.to _ _,oM⟩,ka.to _ kR⟩
 omega
theorem mSpoiltN (A:Option Addr)(cap:Nat)(ts:List LV)(ls:List Lay)(hne:0<ls.length)(hl2:ls.length≤2)(hZ:∀ i,LayS4 (ls.getD i lay0))(hp:∀ i,i<ls.length→0<(ls.getD i lay0).W.length∧0<(ls.getD i lay0).B.length)(way at_ by_:Int)(w:World)(h:Hp)(g:G w h)(hA:Sl A ts h)(hN:RNetL h ts ls):CR 25 #[.agg #[.slice A ts.length cap],iV way,iV at_,iV by_] w h (fun v h1=>∃ A c,∃ ts2:List LV,∃ ls2:List Lay,v=.agg #[.slice A ts2.length c]∧ts2.length≤c∧Sl A ts2 h1∧RNetL h1 ts2 ls2∧ls2.length≤4∧∀ i,LaySz (ls2.getD i lay0)):=by
 have hs:=(((sS g).aS hA).aM hN);have hlt:=(hs.f.1).len;refine go Tryz.func25 [(0,.agg #[qS A ts.length cap]),(1,iV way),(2,iV at_),(3,iV by_)] rfl (cSL (lA 4 63 ([qS A ts.length cap]) hs (fun b1 w2 h3 hs=>lA 8 63 ([sZ]) hs (fun b4 w5 h6 hs=>lNS (lR 10 134 0 ([]) hs (fun b7 w8 h9 hs=>lL hs [.v 11 (pB b1),.o 12 (qS A ts.length cap) 1 0 1] (lYz 13 134 3 lvc lvd b7 A ts cap 56 (.agg #[iV 0,sZ,sZ]) hs hs.f.r.1 oM (ln_one hs.f.2.1) (fun zn zb _ _ hs=>lL hs [.v 14 (pB b1)] (lP 1 0 ([qS zn ((ts).length) zb]) hs (fun _ hs=>lN (cQ (cR 8 [] mixed hs al_nil ?_))))))))))));refine eV 0 15 (pB b1) (eO 1 16 [(1,0,1)] (qS zn ((ts).length) zb) hs (eV 2 17 (iV at_) (eV 3 18 (pB b1) (eO 4 19 [(1,0,1)] (qS zn ((ts).length) zb) hs (eV 5 20 (nV ((ts).length)) (eC 6 21 hs (fun _ _ hs=>hPick (at_) ((ts).length) oM oM _ _ hs.g) ?_))))));rintro _ _ _ _ _ hs rfl;have lp0:=pick_lt (at_) ((ts).length) oM;obtain ⟨za,zp⟩:=hs.rowA 0 (A:=zn) (c:=zb) (m:=(ts).length) (ty:=134) (sz:=3) (cs:=(ts).flatMap lvc) oM;subst zp;refine eX 7 22 (sB za) ((ts).length) zb 3 (pick (at_) ((ts).length):Nat) (pick (at_) ((ts).length):Nat) rfl (eD0 hs (fun _ _ hs=>tV 8 9 (qP za (0+(pick (at_) ((ts).length):Nat)*3)) (tN (cQ (cSL (lL hs [.m 23 1] (lC 24 hs (hPick (way) 10 oM oM _ _ hs.g) ?_)))))));rintro _ zo _ hs rfl;have lp1:=pick_lt (way) 10 oM;refine lN (kZ (cSL ?_));cases ze:(((pick (way) 10:Nat):Int) == (0:Int))
 ·
  have zq:=neOfBeq ze;refine lB 26 ze (lL hs [.m 25 26] (lN (cIF (cSL ?_))));cases zf:(((pick (way) 10:Nat):Int) == (1:Int))
  ·
   have zr:=neOfBeq zf;refine lB 34 zf (lL hs [.m 33 34] (lN (cIF (cSL ?_))));cases zg:(((pick (way) 10:Nat):Int) == (2:Int))
   ·
    have zs:=neOfBeq zg;refine lB 44 zg (lL hs [.m 43 44] (lN (cIF (cSL ?_))));cases zi:(((pick (way) 10:Nat):Int) == (3:Int))
    ·
     have zt:=neOfBeq zi;refine lB 54 zi (lL hs [.m 53 54] (lN (cIF (cSL ?_))));cases zj:(((pick (way) 10:Nat):Int) == (4:Int))
     ·
      have zu:=neOfBeq zj;refine lB 76 zj (lL hs [.m 75 76] (lN (cIF (cSL ?_))));cases zk:(((pick (way) 10:Nat):Int) == (5:Int))
      ·
       have zv:=neOfBeq zk;refine lB 82 zk (lL hs [.m 81 82] (lN (cIF (cK (cSL ?_)))));obtain ⟨_,hs,zw⟩:=hs.pubr 0 (A:=sB za) (c:=zb) (l:=ts) (f:=lvc) (ty:=134) (sz:=3) lvd (fun _=>rfl);exact lL hs [.o 89 (.agg #[qS (sB za) ((ts).length) zb]) 1 0 1] (lP 0 0 ([qS (sB za) ((ts).length) zb]) hs (fun _ hs=>lN (kX (hs.ret [(0,0,1)] (.agg #[qS (sB za) ((ts).length) zb]) (⟨_,_,ts,ls,rfl,zw,hs.f.1,hs.f.r.1,by omega,fun i=>(hZ i).sz⟩)))))
      have zv:=eq_of_beq zk;refine lB 82 zk (lL hs [.m 81 82] (lN (cIT (kQ (lL hs [.v 83 (pB b1),.o 84 (qS (sB za) ((ts).length) zb) 1 0 1,.v 85 (pB b1),.o 86 (qS (sB za) ((ts).length) zb) 1 0 1] (lYse 87 0 134 3 zb za ts lvc 56 (.agg #[iV 0,sZ,sZ]) hs oM (ln_one hs.f.2.1) (fun zl zm _ _ hs=>lL hs [.v 88 (pB b1)] (lP 1 0 ([qS zl ((ts++ts).length) zm]) hs (fun _ hs=>lNS ?_)))))))));obtain ⟨_,hs,zx⟩:=hs.pubr 0 (A:=zl) (c:=zm) (l:=ts++ts) (f:=lvc) (ty:=134) (sz:=3) lvd (fun _=>rfl);refine lL hs [.o 89 (.agg #[qS zl ((ts++ts).length) zm]) 1 0 1] (lP 0 0 ([qS zl ((ts++ts).length) zm]) hs (fun _ hs=>lN (cTo [(8,pB b4)] ?_)));exact kX (hs.ret [(0,0,1)] (.agg #[qS zl ((ts++ts).length) zm]) (⟨_,_,ts++ts,ls++ls,rfl,zx,hs.f.1,rnet_app hs.f.r.1 hs.f.r.1,by rw[List.length_append];omega,sz_app (fun i=>(hZ i).sz) (fun i=>(hZ i).sz)⟩))
     have zu:=eq_of_beq zj;refine lB 76 zj (lL hs [.m 75 76] (lN (cIT (kQ (lL hs [.v 77 (pB b1),.o 78 (qS (sB za) ((ts).length) zb) 1 0 1] ?_)))));obtain ⟨_,hs,zA⟩:=hs.pubr 0 (A:=sB za) (c:=zb) (l:=ts) (f:=lvc) (ty:=134) (sz:=3) lvd (fun _=>rfl);exact lF 79 (sB za) ((ts).length) zb 3 1 1 (lL hs [.v 80 (pB b1)] (lP 1 0 ([qS (if zb=1 then sB za else (some ⟨za,0,none⟩:Option Addr).map (·.add (1*3))) ((ts).length-1) (zb-1)]) hs (fun _ hs=>lNS (lL hs [.o 89 (.agg #[qS (if zb=1 then sB za else (some ⟨za,0,none⟩:Option Addr).map (·.add (1*3))) ((ts).length-1) (zb-1)]) 1 0 1] (lP 0 0 ([qS (if zb=1 then sB za else (some ⟨za,0,none⟩:Option Addr).map (·.add (1*3))) ((ts).length-1) (zb-1)]) hs (fun _ hs=>lN (kX (hs.ret [(0,0,1)] (.agg #[qS (if zb=1 then sB za else (some ⟨za,0,none⟩:Option Addr).map (·.add (1*3))) ((ts).length-1) (zb-1)]) (⟨_,_,ts.drop 1,ls.drop 1,by rw[List.length_drop],by rw[List.length_drop];omega,((hs.f.1).drop 1 zb zA),rnet_drop hs.f.r.1,by rw[List.length_drop];omega,fun i=>by rw[getD_drop_];exact (hZ _).sz⟩)))))))))
    have zt:=eq_of_beq zi;refine lB 54 zi (lL hs [.m 53 54] (lN (cIT ?_)));obtain ⟨K_,hK_⟩:∃ K_,K_=zo.heap.size+1:=⟨_,rfl⟩;have hKs:zo.heap.size≤K_:=by omega
    have hdr_:zo.drew.heap.size=zo.heap.size:=rfl;refine cRa ⟨[K_],none⟩ 18 mixed ?_;replace hs:=hs.drew;refine aV 0 55 (qP za (0+(pick (at_) ((ts).length):Nat)*3)) (aV 2 57 (qP za (0+(pick (at_) ((ts).length):Nat)*3)) (aV 3 58 (qP za (0+(pick (at_) ((ts).length):Nat)*3)) (aV 4 59 (qP za (0+(pick (at_) ((ts).length):Nat)*3+1)) ?_)));obtain ⟨ekx,⟨AWx,cWx,usx,eWx,hcWx,hAWx,hTWx⟩,⟨ABx,cBx,rsx,eBx,hcBx,hABx,hTBx⟩⟩:=(hs.f.2.1).at_ (pick (at_) ((ts).length):Nat) oM;have lux:=hTWx.len;have lbx:=hTBx.len;have hpx:=hp (pick (at_) ((ts).length):Nat) oM;have hz1:=(hZ (pick (at_) ((ts).length):Nat)).rl;have hz2:=(hZ (pick (at_) ((ts).length):Nat)).rls 0;have hz3:=(hZ (pick (at_) ((ts).length):Nat)).bl;replace hs:=((((hs.aS hAWx).aV hTWx).aS hABx).aT hTBx);refine fRq (ty:=134) (sz:=3) (c:=zb) (m:=(ts).length) (b:=za) (cs:=(ts).flatMap lvc) 5 60 0 (qS AWx usx.length cWx) ([qS AWx usx.length cWx]) hs hKs ((row_part (f:=lvc) (sz:=3) (fun _=>rfl) lvd ts (pick (at_) ((ts).length):Nat) oM 1 1 kD).trans (by show [(ts.getD (pick (at_) ((ts).length):Nat) lvd).2.1]=_;rw[eWx])) (aV 7 62 (qP za (0+(pick (at_) ((ts).length):Nat)*3)) (aV 8 63 (qP za (0+(pick (at_) ((ts).length):Nat)*3)) (aV 9 64 (qP za (0+(pick (at_) ((ts).length):Nat)*3+1)) (fRq (ty:=134) (sz:=3) (c:=zb) (m:=(ts).length) (b:=za) (cs:=(ts).flatMap lvc) 10 65 0 (qS AWx usx.length cWx) ([qS AWx usx.length cWx]) hs hKs ((row_part (f:=lvc) (sz:=3) (fun _=>rfl) lvd ts (pick (at_) ((ts).length):Nat) oM 1 1 kD).trans (by show [(ts.getD (pick (at_) ((ts).length):Nat) lvd).2.1]=_;rw[eWx])) (aX 11 66 AWx usx.length cWx 1 0 0 ((hs.f.r.2.1).ok oM) ?_)))));obtain ⟨Arq,crq,trq,erq,hcrq,hRrq,hTrq⟩:=(hs.f.r.1).at_ 0 oM;have hlrq:=hTrq.len;replace hs:=((hs.aS hRrq).aT hTrq);refine fHe 12 67 (usx.getD 0 undef) hs hKs ((hs.f.q.2.1).el 0 oM) erq (aV 13 68 (nV trq.length) (aV 14 69 (nV (trq.length+1)) ?_ (hv:=fun _=>rS (((trq.length:Nat)+1)) kR ((wr64 oM oM).trans oM))));refine fR 1 56 28 0 ([]) hs (fun zH _ _ hzb50 hs=>fYz 6 61 28 1 vc undef zH AWx usx cWx 24 (sZ) hs hs.f.q.r.1 oM (rv_one hs.f.q.2.1) (fun zI zJ _ _ hbn hs=>aCu 15 70 (mUnit ((trq.length+1)) oM _ _ hs.g) ?_));rintro _ _ _ u61 ⟨Au,cu,tu,rfl,hcu,hAu,hTu⟩;replace hs:=hs.step u61;replace hs:=((hs.aS hAu).aT hTu);refine fR 16 71 28 1 ([qS Au tu.length cu]) hs (fun zK _ _ hzb62 hs=>fY 17 72 0 28 1 zJ zI usx vc (qS Au tu.length cu:Value) 24 zK (sZ) hs hs.f.1 (fun b hb=>List.mem_singleton.2 (by have:=hbn b hb;omega)) (fun zc zd _ _ hs=>tV 18 73 (qP za (0+(pick (at_) ((ts).length):Nat)*3)) (tV 19 74 (qP za (0+(pick (at_) ((ts).length):Nat)*3+1)) ?_)));obtain ⟨_,hs,zB⟩:=hs.pubr 0 (A:=zc) (c:=zd) (l:=usx++[(qS Au tu.length cu:Value)]) (f:=vc) (ty:=28) (sz:=1) undef (fun _=>rfl);refine tRs 20 (ty:=134) (c:=zb) (b:=za) 0 (pick (at_) ((ts).length):Nat) 1 ([qS zc ((usx++[(qS Au tu.length cu:Value)]).length) zd]) ts lvc 3 lvd (((ts.getD (pick (at_) ((ts).length):Nat) lvd).1,qS zc ((usx++[(qS Au tu.length cu:Value)]).length) zd,(ts.getD (pick (at_) ((ts).length):Nat) lvd).2.2):LV) hs oM (fun _ hs=>?_);replace hs:=hs.to [⟨b4,63,[sZ]⟩,⟨b1,63,[qS (sB za) ((ts).length) zb]⟩] [⟨134,3,sB za,zb,(ts).length,(ts.set (pick (at_) ((ts).length):Nat) (((ts.getD (pick (at_) ((ts).length):Nat) lvd).1,qS zc ((usx++[(qS Au tu.length cu:Value)]).length) zd,(ts.getD (pick (at_) ((ts).length):Nat) lvd).2.2):LV)).flatMap lvc⟩];refine tN (cTo [(4,pB b1),(8,pB b4)] ?_);refine cSL ?_;replace hs:=hs.rown [⟨134,3,sB za,zb,(ts.set (pick (at_) ((ts).length):Nat) (((ts.getD (pick (at_) ((ts).length):Nat) lvd).1,qS zc ((usx++[(qS Au tu.length cu:Value)]).length) zd,(ts.getD (pick (at_) ((ts).length):Nat) lvd).2.2):LV)).length,(ts.set (pick (at_) ((ts).length):Nat) (((ts.getD (pick (at_) ((ts).length):Nat) lvd).1,qS zc ((usx++[(qS Au tu.length cu:Value)]).length) zd,(ts.getD (pick (at_) ((ts).length):Nat) lvd).2.2):LV)).flatMap lvc⟩] (by simp only[List.length_set]);obtain ⟨_,hs,zD⟩:=hs.pubr 0 (A:=sB za) (c:=zb) (l:=ts.set (pick (at_) ((ts).length):Nat) (((ts.getD (pick (at_) ((ts).length):Nat) lvd).1,qS zc ((usx++[(qS Au tu.length cu:Value)]).length) zd,(ts.getD (pick (at_) ((ts).length):Nat) lvd).2.2):LV)) (f:=lvc) (ty:=134) (sz:=3) lvd (fun _=>rfl);refine lL hs [.o 89 (.agg #[qS (sB za) ((ts).length) zb]) 1 0 1] (lP 0 0 ([qS (sB za) ((ts).length) zb]) hs (fun _ hs=>lN (kX ?_)));obtain ⟨rowu,hru⟩:∃ r:List Rat,List.replicate (trq.length+1) ((1:Int):Rat)=r:=⟨_,rfl⟩;have hrl:rowu.length≤8:=by rw[←hru,List.length_replicate];have:=(hZ (pick (at_) ts.length)).rls 0;omega
    have hrq:∀ i,LQ 1 (rowu.getD i 0):=fun i=>by rw[←hru];exact lq_rep i
    exact hs.ret [(0,0,1)] (.agg #[qS (sB za) ((ts).length) zb]) (⟨_,_,_,ls.set (pick (at_) ts.length) (⟨(ls.getD (pick (at_) ts.length) lay0).k,(ls.getD (pick (at_) ts.length) lay0).W++[rowu],(ls.getD (pick (at_) ts.length) lay0).B⟩:Lay),by rw[List.length_set],zD,hs.f.1,rnet_set hs.f.q.q.q.2.1 (pick (at_) ts.length) oM ⟨((hs.f.q.q.q.2.1).at_ (pick (at_) ts.length) oM).1,⟨_,_,usx++[_],rfl,zB,hs.f.2.1,RVs.snoc hs.f.q.q.r.1 ⟨_,_,tu,rfl,hcu,hs.f.q.1,hru▸(hs.f.r.2.1)⟩⟩,((hs.f.q.q.q.2.1).at_ (pick (at_) ts.length) oM).2.2⟩,by rw[List.length_set];omega,sz_set (fun i=>(hZ i).sz) (lay_wide (hZ (pick (at_) ts.length)) hrl hrq hpx.1)⟩)
   have zs:=eq_of_beq zg;refine lB 44 zg (lL hs [.m 43 44] (lN (cIT (kQ (lL hs [.m 45 9,.m 46 9,.v 47 (qP za (0+(pick (at_) ((ts).length):Nat)*3)),.v 48 (qP za (0+(pick (at_) ((ts).length):Nat)*3+1))] ?_)))));obtain ⟨ekx,⟨AWx,cWx,usx,eWx,hcWx,hAWx,hTWx⟩,⟨ABx,cBx,rsx,eBx,hcBx,hABx,hTBx⟩⟩:=(hs.f.2.1).at_ (pick (at_) ((ts).length):Nat) oM;have lux:=hTWx.len;have lbx:=hTBx.len;have hpx:=hp (pick (at_) ((ts).length):Nat) oM;have hz1:=(hZ (pick (at_) ((ts).length):Nat)).rl;have hz2:=(hZ (pick (at_) ((ts).length):Nat)).rls 0;have hz3:=(hZ (pick (at_) ((ts).length):Nat)).bl;replace hs:=((((hs.aS hAWx).aV hTWx).aS hABx).aT hTBx);refine lRq (ty:=134) (sz:=3) (c:=zb) (m:=(ts).length) (b:=za) (cs:=(ts).flatMap lvc) 49 0 (qS AWx usx.length cWx) ([qS AWx usx.length cWx]) hs ((row_part (f:=lvc) (sz:=3) (fun _=>rfl) lvd ts (pick (at_) ((ts).length):Nat) oM 1 1 kD).trans (by show [(ts.getD (pick (at_) ((ts).length):Nat) lvd).2.1]=_;rw[eWx])) (lF 50 AWx usx.length cWx 1 1 1 (lL hs [.v 51 (qP za (0+(pick (at_) ((ts).length):Nat)*3)),.v 52 (qP za (0+(pick (at_) ((ts).length):Nat)*3+1))] (lRs (ty:=134) (c:=zb) (b:=za) 0 (pick (at_) ((ts).length):Nat) 1 ([qS (if cWx=1 then AWx else AWx.map (·.add (1*1))) (usx.length-1) (cWx-1)]) ts lvc 3 lvd (((ts.getD (pick (at_) ((ts).length):Nat) lvd).1,qS (if cWx=1 then AWx else AWx.map (·.add (1*1))) (usx.length-1) (cWx-1),(ts.getD (pick (at_) ((ts).length):Nat) lvd).2.2):LV) hs oM (fun _ hs=>?_))));replace hs:=hs.to [⟨b4,63,[sZ]⟩,⟨b1,63,[qS (sB za) ((ts).length) zb]⟩] [⟨134,3,sB za,zb,(ts).length,(ts.set (pick (at_) ((ts).length):Nat) (((ts.getD (pick (at_) ((ts).length):Nat) lvd).1,qS (if cWx=1 then AWx else AWx.map (·.add (1*1))) (usx.length-1) (cWx-1),(ts.getD (pick (at_) ((ts).length):Nat) lvd).2.2):LV)).flatMap lvc⟩];refine lNS ?_;replace hs:=hs.rown [⟨134,3,sB za,zb,(ts.set (pick (at_) ((ts).length):Nat) (((ts.getD (pick (at_) ((ts).length):Nat) lvd).1,qS (if cWx=1 then AWx else AWx.map (·.add (1*1))) (usx.length-1) (cWx-1),(ts.getD (pick (at_) ((ts).length):Nat) lvd).2.2):LV)).length,(ts.set (pick (at_) ((ts).length):Nat) (((ts.getD (pick (at_) ((ts).length):Nat) lvd).1,qS (if cWx=1 then AWx else AWx.map (·.add (1*1))) (usx.length-1) (cWx-1),(ts.getD (pick (at_) ((ts).length):Nat) lvd).2.2):LV)).flatMap lvc⟩] (by simp only[List.length_set]);obtain ⟨_,hs,zE⟩:=hs.pubr 0 (A:=sB za) (c:=zb) (l:=ts.set (pick (at_) ((ts).length):Nat) (((ts.getD (pick (at_) ((ts).length):Nat) lvd).1,qS (if cWx=1 then AWx else AWx.map (·.add (1*1))) (usx.length-1) (cWx-1),(ts.getD (pick (at_) ((ts).length):Nat) lvd).2.2):LV)) (f:=lvc) (ty:=134) (sz:=3) lvd (fun _=>rfl);exact lL hs [.o 89 (.agg #[qS (sB za) ((ts).length) zb]) 1 0 1] (lP 0 0 ([qS (sB za) ((ts).length) zb]) hs (fun _ hs=>lN (kX (hs.ret [(0,0,1)] (.agg #[qS (sB za) ((ts).length) zb]) (⟨_,_,_,ls.set (pick (at_) ts.length) (⟨(ls.getD (pick (at_) ts.length) lay0).k,(ls.getD (pick (at_) ts.length) lay0).W.drop 1,(ls.getD (pick (at_) ts.length) lay0).B⟩:Lay),by rw[List.length_set],zE,hs.f.1,rnet_set hs.f.q.r.1 (pick (at_) ts.length) oM ⟨((hs.f.q.r.1).at_ (pick (at_) ts.length) oM).1,⟨_,_,usx.drop 1,by rw[List.length_drop],by rw[List.length_drop];omega,(hs.f.q.1).drop 1 cWx hcWx,rvs_drop hs.f.r.2.1⟩,((hs.f.q.r.1).at_ (pick (at_) ts.length) oM).2.2⟩,by rw[List.length_set];omega,sz_set (fun i=>(hZ i).sz) ⟨by rw[List.length_drop];have:=(hZ (pick (at_) ts.length)).sz.rl;omega,fun i=>by rw[getD_drop_];exact (hZ (pick (at_) ts.length)).sz.rls _,(hZ (pick (at_) ts.length)).sz.bl,fun i j=>by rw[getD_drop_];exact (hZ (pick (at_) ts.length)).sz.w _ j,(hZ (pick (at_) ts.length)).sz.b,(hZ (pick (at_) ts.length)).sz.b4,by rw[getD_drop_];exact (hZ (pick (at_) ts.length)).rls _⟩⟩)))))
  have zr:=eq_of_beq zf;refine lB 34 zf (lL hs [.m 33 34] (lN (cIT (kQ (lL hs [.m 35 9,.m 36 9,.v 37 (qP za (0+(pick (at_) ((ts).length):Nat)*3)),.v 38 (qP za (0+(pick (at_) ((ts).length):Nat)*3+2))] ?_)))));obtain ⟨ekx,⟨AWx,cWx,usx,eWx,hcWx,hAWx,hTWx⟩,⟨ABx,cBx,rsx,eBx,hcBx,hABx,hTBx⟩⟩:=(hs.f.2.1).at_ (pick (at_) ((ts).length):Nat) oM;have lux:=hTWx.len;have lbx:=hTBx.len;have hpx:=hp (pick (at_) ((ts).length):Nat) oM;have hz1:=(hZ (pick (at_) ((ts).length):Nat)).rl;have hz2:=(hZ (pick (at_) ((ts).length):Nat)).rls 0;have hz3:=(hZ (pick (at_) ((ts).length):Nat)).bl;replace hs:=((((hs.aS hAWx).aV hTWx).aS hABx).aT hTBx);refine lRq (ty:=134) (sz:=3) (c:=zb) (m:=(ts).length) (b:=za) (cs:=(ts).flatMap lvc) 39 0 (qS ABx rsx.length cBx) ([qS ABx rsx.length cBx]) hs ((row_part (f:=lvc) (sz:=3) (fun _=>rfl) lvd ts (pick (at_) ((ts).length):Nat) oM 2 1 kD).trans (by show [(ts.getD (pick (at_) ((ts).length):Nat) lvd).2.2]=_;rw[eBx])) (lF 40 ABx rsx.length cBx 3 1 1 (lL hs [.v 41 (qP za (0+(pick (at_) ((ts).length):Nat)*3)),.v 42 (qP za (0+(pick (at_) ((ts).length):Nat)*3+2))] (lRs (ty:=134) (c:=zb) (b:=za) 0 (pick (at_) ((ts).length):Nat) 2 ([qS (if cBx=1 then ABx else ABx.map (·.add (1*3))) (rsx.length-1) (cBx-1)]) ts lvc 3 lvd (((ts.getD (pick (at_) ((ts).length):Nat) lvd).1,(ts.getD (pick (at_) ((ts).length):Nat) lvd).2.1,qS (if cBx=1 then ABx else ABx.map (·.add (1*3))) (rsx.length-1) (cBx-1)):LV) hs oM (fun _ hs=>?_))));replace hs:=hs.to [⟨b4,63,[sZ]⟩,⟨b1,63,[qS (sB za) ((ts).length) zb]⟩] [⟨134,3,sB za,zb,(ts).length,(ts.set (pick (at_) ((ts).length):Nat) (((ts.getD (pick (at_) ((ts).length):Nat) lvd).1,(ts.getD (pick (at_) ((ts).length):Nat) lvd).2.1,qS (if cBx=1 then ABx else ABx.map (·.add (1*3))) (rsx.length-1) (cBx-1)):LV)).flatMap lvc⟩];refine lNS ?_;replace hs:=hs.rown [⟨134,3,sB za,zb,(ts.set (pick (at_) ((ts).length):Nat) (((ts.getD (pick (at_) ((ts).length):Nat) lvd).1,(ts.getD (pick (at_) ((ts).length):Nat) lvd).2.1,qS (if cBx=1 then ABx else ABx.map (·.add (1*3))) (rsx.length-1) (cBx-1)):LV)).length,(ts.set (pick (at_) ((ts).length):Nat) (((ts.getD (pick (at_) ((ts).length):Nat) lvd).1,(ts.getD (pick (at_) ((ts).length):Nat) lvd).2.1,qS (if cBx=1 then ABx else ABx.map (·.add (1*3))) (rsx.length-1) (cBx-1)):LV)).flatMap lvc⟩] (by simp only[List.length_set]);obtain ⟨_,hs,zF⟩:=hs.pubr 0 (A:=sB za) (c:=zb) (l:=ts.set (pick (at_) ((ts).length):Nat) (((ts.getD (pick (at_) ((ts).length):Nat) lvd).1,(ts.getD (pick (at_) ((ts).length):Nat) lvd).2.1,qS (if cBx=1 then ABx else ABx.map (·.add (1*3))) (rsx.length-1) (cBx-1)):LV)) (f:=lvc) (ty:=134) (sz:=3) lvd (fun _=>rfl);exact lL hs [.o 89 (.agg #[qS (sB za) ((ts).length) zb]) 1 0 1] (lP 0 0 ([qS (sB za) ((ts).length) zb]) hs (fun _ hs=>lN (kX (hs.ret [(0,0,1)] (.agg #[qS (sB za) ((ts).length) zb]) (⟨_,_,_,ls.set (pick (at_) ts.length) (⟨(ls.getD (pick (at_) ts.length) lay0).k,(ls.getD (pick (at_) ts.length) lay0).W,(ls.getD (pick (at_) ts.length) lay0).B.drop 1⟩:Lay),by rw[List.length_set],zF,hs.f.1,rnet_set hs.f.q.r.1 (pick (at_) ts.length) oM ⟨((hs.f.q.r.1).at_ (pick (at_) ts.length) oM).1,((hs.f.q.r.1).at_ (pick (at_) ts.length) oM).2.1,⟨_,_,rsx.drop 1,by rw[List.length_drop],by rw[List.length_drop];omega,(hs.f.r.1).drop 1 cBx hcBx,rts_drop hs.f.2.1⟩⟩,by rw[List.length_set];omega,sz_set (fun i=>(hZ i).sz) ⟨(hZ (pick (at_) ts.length)).sz.rl,(hZ (pick (at_) ts.length)).sz.rls,by rw[List.length_drop];have:=(hZ (pick (at_) ts.length)).sz.bl;omega,(hZ (pick (at_) ts.length)).sz.w,fun i=>by rw[getD_drop_];exact (hZ (pick (at_) ts.length)).sz.b _,by rw[List.length_drop];have:=(hZ (pick (at_) ts.length)).sz.b4;omega,(hZ (pick (at_) ts.length)).sz.w4⟩⟩)))))
 have zq:=eq_of_beq ze;refine lB 26 ze (lL hs [.m 25 26] (lN (cIT (kQ (lL hs [.m 27 9,.m 28 3] (lC 29 hs (hPick (by_) 6 oM oM _ _ hs.g) ?_))))));rintro _ _ _ hs rfl;have lp3:=pick_lt (by_) 6 oM;refine lI 30 ((pick (by_) 6:Nat)-1) (lL hs [.v 31 (qP za (0+(pick (at_) ((ts).length):Nat)*3)),.v 32 (qP za (0+(pick (at_) ((ts).length):Nat)*3))] (lRs (ty:=134) (c:=zb) (b:=za) 0 (pick (at_) ((ts).length):Nat) 0 ([iV ((pick (by_) 6:Nat)-1)]) ts lvc 3 lvd (((pick (by_) 6:Nat)-1,(ts.getD (pick (at_) ((ts).length):Nat) lvd).2.1,(ts.getD (pick (at_) ((ts).length):Nat) lvd).2.2):LV) hs oM (fun _ hs=>?_)));replace hs:=hs.to [⟨b4,63,[sZ]⟩,⟨b1,63,[qS (sB za) ((ts).length) zb]⟩] [⟨134,3,sB za,zb,(ts).length,(ts.set (pick (at_) ((ts).length):Nat) (((pick (by_) 6:Nat)-1,(ts.getD (pick (at_) ((ts).length):Nat) lvd).2.1,(ts.getD (pick (at_) ((ts).length):Nat) lvd).2.2):LV)).flatMap lvc⟩];refine lNS ?_;replace hs:=hs.rown [⟨134,3,sB za,zb,(ts.set (pick (at_) ((ts).length):Nat) (((pick (by_) 6:Nat)-1,(ts.getD (pick (at_) ((ts).length):Nat) lvd).2.1,(ts.getD (pick (at_) ((ts).length):Nat) lvd).2.2):LV)).length,(ts.set (pick (at_) ((ts).length):Nat) (((pick (by_) 6:Nat)-1,(ts.getD (pick (at_) ((ts).length):Nat) lvd).2.1,(ts.getD (pick (at_) ((ts).length):Nat) lvd).2.2):LV)).flatMap lvc⟩] (by simp only[List.length_set]);obtain ⟨_,hs,zG⟩:=hs.pubr 0 (A:=sB za) (c:=zb) (l:=ts.set (pick (at_) ((ts).length):Nat) (((pick (by_) 6:Nat)-1,(ts.getD (pick (at_) ((ts).length):Nat) lvd).2.1,(ts.getD (pick (at_) ((ts).length):Nat) lvd).2.2):LV)) (f:=lvc) (ty:=134) (sz:=3) lvd (fun _=>rfl);exact lL hs [.o 89 (.agg #[qS (sB za) ((ts).length) zb]) 1 0 1] (lP 0 0 ([qS (sB za) ((ts).length) zb]) hs (fun _ hs=>lN (kX (hs.ret [(0,0,1)] (.agg #[qS (sB za) ((ts).length) zb]) (⟨_,_,_,ls.set (pick (at_) ts.length) (⟨(pick (by_) 6:Nat)-1,(ls.getD (pick (at_) ts.length) lay0).W,(ls.getD (pick (at_) ts.length) lay0).B⟩:Lay),by rw[List.length_set],zG,hs.f.1,rnet_set hs.f.r.1 (pick (at_) ts.length) oM ⟨rfl,((hs.f.r.1).at_ (pick (at_) ts.length) oM).2.1,((hs.f.r.1).at_ (pick (at_) ts.length) oM).2.2⟩,by rw[List.length_set];omega,sz_set (fun i=>(hZ i).sz) ⟨(hZ (pick (at_) ts.length)).sz.rl,(hZ (pick (at_) ts.length)).sz.rls,(hZ (pick (at_) ts.length)).sz.bl,(hZ (pick (at_) ts.length)).sz.w,(hZ (pick (at_) ts.length)).sz.b,(hZ (pick (at_) ts.length)).sz.b4,(hZ (pick (at_) ts.length)).sz.w4⟩⟩)))))
def flatL (L:Lay):List Rat:=L.W.flatten++L.B
def flatq (ls:List Lay):List Rat:=ls.flatMap flatL
theorem flatq_snoc (ls:List Lay)(L:Lay):flatq (ls++[L])=flatq ls++L.W.flatten++L.B:=by simp[flatq,flatL]
theorem flatq_take {ls:List Lay}{k:Nat}(h:k<ls.length):flatq (ls.take (k+1))=flatq (ls.take k)++(ls.getD k lay0).W.flatten++(ls.getD k lay0).B:=by rw[take_snoc' lay0 h,flatq_snoc]
theorem flat_take {W:List (List Rat)}{i:Nat}(h:i<W.length):(W.take (i+1)).flatten=(W.take i).flatten++W.getD i []:=by rw[take_snoc' [] h];simp
theorem flat_len {c:Nat}:∀ {W:List (List Rat)},(∀ r∈W,r.length=c)→W.flatten.length=W.length*c
  | [],_=>by simp
  | r::W,h=>by
    rw[List.flatten_cons,List.length_append,h r (by simp),flat_len (fun s hs=>h s (by simp[hs])),List.length_cons,Nat.succ_mul];omega
theorem getD_mem' {α:Type}{l:List α}{x d:α}(h:x∈l):∃ i,i<l.length∧l.getD i d=x:=by
  obtain ⟨i,hi,e⟩:=List.mem_iff_getElem.1 h;exact ⟨i,hi,by simp[hi,e]⟩
theorem Mat.mem {W:List (List Rat)}{r c:Nat}(m:Mat W r c):∀ x∈W,x.length=c:=fun x hx=>by
  obtain ⟨i,hi,e⟩:=getD_mem' (d:=[]) hx;rw[←e];exact m.row i (by rw[←m.rows];exact hi)
theorem take_flat_len {W:List (List Rat)}{r c:Nat}(m:Mat W r c)(i:Nat)(hi:i≤r):(W.take i).flatten.length=i*c:=by
  rw[flat_len (c:=c) (fun x hx=>m.mem x (List.mem_of_mem_take hx)),List.length_take,m.rows];congr 1;omega
theorem flatq_len {ls:List Lay}{d:Nat→Nat}(o:Net3 ls d)(k:Nat)(hk:k≤ls.length):(flatq (ls.take k)).length≤k*252:=by
  induction k with
  | zero=>simp[flatq]
  | succ k ih =>
    have h1:=ih oM;obtain ⟨m,hb,h12,_⟩:=o.lay k oM;have hc:=o.small k oM;rw[flatq_take oM,List.length_append,List.length_append,flat_len m.mem,m.rows,hb];have:d (k+1)*d k≤12*20:=Nat.mul_le_mul h12 hc
    omega
theorem nflat (A:Option Addr)(cap:Nat)(ts:List LV)(ls:List Lay)(d:Nat→Nat)(hO:Net3 ls d)(w:World)(h:Hp)(g:G w h)(hA:Sl A ts h)(hN:NetL h ts ls):CR 73 #[.agg #[.slice A ts.length cap]] w h (fun v h1=>∃ A c,v=.slice A (flatq ls).length c∧(flatq ls).length≤c∧Sq A (flatq ls) h1):=by
 have hs:=(((sS g).aS hA).aN hN);have hl:=(hs.f.1).len;obtain ⟨o1,o2⟩:=hO.len;have o3:=hO.first;refine go Tryz.func73 [(0,.agg #[qS A ts.length cap])] rfl (cSL (lA 1 74 ([qS A ts.length cap]) hs (fun b1 w2 h3 hs=>lL hs [.v 2 (sZ)] (lNS (lL hs [.v 3 (sZ)] (lN (cQ (cSL (lL hs [.v 8 (pB b1),.o 9 (qS A ts.length cap) 0 0 1,.v 10 (nV ts.length),.v 11 (iV 0)] (lN (kZ ?_)))))))))));replace hs:=hs.nil 55 5;refine cTo [(2,sZ),(9,qS A ts.length cap),(10,nV ts.length),(11,iV 0),(3,sZ)] ?_;refine CG.loop (fun μ_ Γ w_=>∃ (k:Nat) (saA:Option Addr) (sac:Nat) (al:List Rat) (h_:Hp),μ_=ls.length-k∧Γ=[(2,sZ),(9,qS A ts.length cap),(10,nV ts.length),(11,nV k),(3,qS saA ((al).length) sac)]∧SS w h w_ h_ [⟨b1,74,[qS A ts.length cap]⟩] [⟨55,5,saA,sac,(al).length,(al).flatMap qc⟩] [Nn ts ls,Sl A ts]∧k≤ls.length∧al=flatq (ls.take k)) _ ⟨0,none,0,[],h3,rfl,rfl,hs.to _ _,Nat.zero_le _,rfl⟩ ?_;rintro _ _ w4 ⟨k,saA,sac,al,h5,hm6,rfl,hs,hk,hal⟩;have hsm:=fun h0=>hO.small k h0
 have hfl:=flatq_len hO k hk;rw[←hal] at hfl
 refine cSL ?_;cases hb7:(decide ((k:Int)<(ts.length:Int)))
 ·
  have phb7:=oF hb7;refine lB 12 hb7 (lN (cQ (cIF (CG.exit ?_))))
  show CG _ _ _ _ _ _ _ _
  refine cSL (lL hs [.m 31 3,.m 2 31] (lN (kX ?_)));have hkn:k=ls.length:=by omega
  subst hkn;rw[List.take_length] at hal
  obtain ⟨h8,hs,hc9⟩:=hs.pubr 0 (A:=saA) (c:=sac) (l:=al) (f:=qc) (ty:=55) (sz:=5) 0 (fun _=>rfl);exact hs.ret [] (qS saA ((al).length) sac) (by rw[←hal];exact ⟨_,_,rfl,hc9,hs.f.1⟩)
 have phb7:=oT hb7;refine lB 12 hb7 (lN (cQ (cIT (cK (cQ (kZ (cSL (lX 13 A ts.length cap 3 (k:Nat) k ((hs.f.2.1).ok oM) ?_))))))));obtain ⟨ekx,⟨AWx,cWx,usx,eWx,hcWx,hAWx,hUx⟩,⟨ABx,cBx,eBx,hcBx,hABx⟩⟩:=(hs.f.1).at_ k oM;obtain ⟨mtx,lbx,r12x,kdx⟩:=hO.lay k oM;have lux:=hUx.len;have mrx:=mtx.rows;have mpx:=mtx.rpos;have mcx:=mtx.cpos;have m0x:=mtx.row 0 oM;replace hs:=(((hs.aS hAWx).aQ hUx).aS hABx);refine lHe 14 (.agg #[iV ((ts.getD k lvd).1),(ts.getD k lvd).2.1,(ts.getD k lvd).2.2]) hs ((hs.f.q.1).el k oM) (by rw[ekx,eWx,eBx]) (lA 5 144 ([iV 0,sZ,sZ]) hs (fun zb _ zd hs=>lP 0 0 ([iV ((ls.getD k lay0).k),qS AWx usx.length cWx,qS ABx ((ls.getD k lay0).B.length) cBx]) hs (fun _ hs=>lN (cQ (cSL (lL hs [.v 15 (qP zb 1),.o 16 (qS AWx usx.length cWx) 0 1 1,.v 17 (nV usx.length),.v 18 (iV 0)] (lN (kZ ?_))))))));refine cTo _ (CG.loop (fun μ_ Γ w_=>∃ (i:Nat) (sbA:Option Addr) (sbc:Nat) (bl:List Rat) (h_:Hp),μ_=usx.length-i∧Γ=[(2,sZ),(9,qS A ts.length cap),(10,nV ts.length),(11,nV k),(5,pB zb),(16,qS AWx usx.length cWx),(17,nV usx.length),(18,nV i),(3,qS sbA ((bl).length) sbc)]∧SS w h w_ h_ [⟨zb,144,[iV ((ls.getD k lay0).k),qS AWx usx.length cWx,qS ABx ((ls.getD k lay0).B.length) cBx]⟩,⟨b1,74,[qS A ts.length cap]⟩] [⟨55,5,sbA,sbc,(bl).length,(bl).flatMap qc⟩] [Sq ABx (ls.getD k lay0).B,Qu usx (ls.getD k lay0).W,Sv AWx usx,Nn ts ls,Sl A ts]∧i≤usx.length∧bl=al++((ls.getD k lay0).W.take i).flatten) _ ⟨0,saA,sac,al,zd,rfl,rfl,hs.to _ _,Nat.zero_le _,by simp⟩ ?_);rintro _ _ _ ⟨i,sbA,sbc,bl,_,hm17,rfl,hs,hi,hbl⟩;have hbn:bl.length≤al.length+i*d k:=by rw[hbl,List.length_append,take_flat_len mtx i oM];exact nR _
 have hid:i*d k≤12*20:=Nat.mul_le_mul oM (hsm oM);have hmr:=fun h0=>mtx.row i h0
 refine cSL ?_;cases za:(decide ((i:Int)<(usx.length:Int)))
 ·
  have zc:=oF za;refine lB 19 za (lN (cQ (cIF (CG.exit ?_))))
  show CG _ _ _ _ _ _ _ _
  refine kQ (lL hs [.m 26 3,.v 27 (qP zb 2),.o 28 (qS ABx ((ls.getD k lay0).B.length) cBx) 0 2 1] (lYs 29 0 55 5 sbc sbA bl qc 0 ABx ((ls.getD k lay0).B) cBx 56 (.agg #[qF,uV 0,eS,uV 0,eS]) hs hs.f.1 oM (fun ze zf _ zg hs=>lL hs [.m 3 29] (lN (kQ (lIn 30 ((k:Nat)+1) (k+1) ?_))))));refine lL hs [.m 11 30] (lD ?_);intro a_ ka;replace hs:=hs.tl.tl.tl;replace hs:=hs.drop 1 0;refine ⟨_,_,?_,⟨k+1,ze,zf,bl++((ls.getD k lay0).B),zg,rfl,rfl,hs.to _ _,oM,(by rw[flatq_take oM,hbl,List.take_of_length_le oM,hal])⟩,ka.to _ kR⟩
  omega
 have zc:=oT za;refine lB 19 za (lN (cQ (cIT (cK (cQ (kZ (cSL (lX 20 AWx usx.length cWx 1 (i:Nat) i ((hs.f.r.1).ok oM) ?_))))))));obtain ⟨Arp,crp,erp,hcrp,hRrp⟩:=(hs.f.2.1).at_ i oM;replace hs:=hs.aS hRrp;refine lHe 21 (usx.getD i undef) hs ((hs.f.r.2.1).el i oM) erp (lL hs [.m 7 21] (lN (kQ (lL hs [.m 22 3,.m 23 7] (lYs 24 0 55 5 sbc sbA bl qc 0 Arp (((ls.getD k lay0).W).getD i []) crp 56 (.agg #[qF,uV 0,eS,uV 0,eS]) hs hs.f.1 oM (fun zi zj _ zk hs=>lL hs [.m 3 24] (lN (kQ (lIn 25 ((i:Nat)+1) (i+1) ?_)))))))));refine lL hs [.m 18 25] (lD ?_);intro a_ ka;replace hs:=hs.tl;refine ⟨_,_,?_,⟨i+1,zi,zj,bl++(((ls.getD k lay0).W).getD i []),zk,rfl,rfl,hs.to _ _,oM,(by rw[flat_take oM,hbl,List.append_assoc])⟩,ka.to _ kR⟩
 omega
section fla
variable {P:Program} {n:Nat} {N R:Po} {X:Nat→Po} {ops:Array Oper} {k:Nat} {Γ:Env} {w:World} {h:Hp} {w0:World} {h0:Hp} {B:List Bx} {Rs:List Rw} {F:List (Hp→Prop)}
theorem lYsm {α:Type}(t j:Nat)(ty:TypeId)(sz c:Nat)(A:Option Addr)(l:List α)(f:α→List Value)(d:α)(A2:Option Addr)(m:List α)(c2 bt:Nat)(z:Value)(s:SS w0 h0 w h B Rs F)(so:SlO sz f d h A2 m)(hm0:0<m.length)(h1:∀ x∈m,(f x).all (·.oneCell')=true)
    (H:∀ A' c' w' h',SS w0 h0 w' h' B (Rs.set j ⟨ty,sz,A',c',(l++m).length,(l++m).flatMap f⟩) F→LG P n N R X ops (k+1) ((t,.slice A' (l++m).length c')::Γ) w')
    (hc:cL ops Γ k t n=true:=by kernel_rfl)(he:apE P (ev Γ) (opAt ops k)=some (.slice A l.length c,.slice A2 m.length c2,ty,z,sz,bt):=by kernel_rfl)(hf:∀ x,(f x).length=sz:=by intro _;rfl)(hzs:z.cells.size=sz:=by kernel_rfl)(hpos:0<sz:=by decide)
    (hr:Rs.getD j default=⟨ty,sz,A,c,l.length,l.flatMap f⟩:=by kernel_rfl)(hj:decide (j<Rs.length)=true:=by kernel_rfl)(hm:l.length+m.length≤1099511627776:=by omega)(hb:(l.length+m.length)*bt≤140737488355328:=by omega):LG P n N R X ops k Γ w:=by
  have hj':=oT hj;have hA:=so.ok hm0;rw[hA] at he
  refine lYn t j (m.flatMap f) s (seg_newsO s.g (so.flat hf)) (len_flat hf m) (fun u hu=>?_) hj' (rw_get hr hj') hc he hzs hpos hm hb (fun A' c' w' h' s'=>?_)
  · obtain ⟨x,hx',hx⟩:=List.mem_flatMap.1 hu
    exact (List.all_eq_true.1 (h1 x hx')) u hx
  · have e1:l.length+m.length=(l++m).length:=by simp
    rw[flat_row,e1] at s'
    rw[e1];exact H A' c' w' h' s'
end fla
section prt
variable {M:Ms} {P:Program} {n:Nat} {N R:Po} {X:Nat→Po} {ops:Array Oper} {k k0:Nat} {hr:Hp} {AL:List Al} {L:Array Bool} {Γ:Env} {w:World} {h:Hp}
end prt
theorem RTs.app {h:Hp}{ts us:List RT}{qs ps:List Rat}(r:RTs h ts qs)(s:RTs h us ps):RTs h (ts++us) (qs++ps):=⟨by rw[List.length_append,List.length_append,r.len,s.len],fun i hi=>by
  rw[List.length_append] at hi
  rw[getD_app_,getD_app_,r.len]
  split
  · exact r.at_ i aM
  · exact s.at_ _ oM⟩
theorem rt_one {h:Hp}{ts:List RT}{qs:List Rat}(r:RTs h ts qs):∀ t∈ts,(rqc t).all (·.oneCell')=true:=fun t ht=>by
  obtain ⟨i,hi,e⟩:=List.mem_iff_getElem.1 ht;obtain ⟨A,c,D,d,e1,_⟩:=r.at_ i (by rw[←r.len];exact hi);have e3:ts.getD i rqd=t:=by simp[hi,e]
  rw[e3] at e1
  unfold rqc
  obtain ⟨x,y,z⟩:=t
  simp only[rtv] at e1
  injection e1 with e1
  simp at e1
  obtain ⟨_,e4,e5⟩:=e1;rw[e4,e5];rfl
theorem getD_outR {α:Type}{l:List α}{i:Nat}{d:α}(h:l.length≤i):l.getD i d=d:=by rw[List.getD_eq_getElem?_getD,List.getElem?_eq_none h];rfl
theorem rFlat (A:Option Addr)(cap:Nat)(ts:List LV)(ls:List Lay)(d:Nat→Nat)(hO:Net3 ls d)(w:World)(h:Hp)(g:G w h)(hA:Sl A ts h)(hN:RNetL h ts ls):CR 82 #[.agg #[.slice A ts.length cap]] w h (fun v h1=>∃ A c ts,v=.slice A (ts:List RT).length c∧ts.length≤c∧Sr A ts h1∧RTs h1 ts (flatq ls)):=by
 have hs:=(((sS g).aS hA).aM hN);have hl:=(hs.f.1).len;obtain ⟨o1,o2⟩:=hO.len;have o3:=hO.first;refine go Tryz.func82 [(0,.agg #[qS A ts.length cap])] rfl (cSL (lA 1 63 ([qS A ts.length cap]) hs (fun b1 w2 h3 hs=>lL hs [.v 2 (sZ)] (lNS (lL hs [.v 3 (sZ)] (lN (cQ (cSL (lL hs [.v 4 (iV 0)] (lN (kZ ?_)))))))))));replace hs:=hs.nil 97 3;refine cTo [(1,pB b1),(2,sZ),(4,iV 0),(3,sZ)] ?_;replace hs:=hs.aT (RTs.nil);refine CG.loop (fun μ_ Γ w_=>∃ (k:Nat) (saA:Option Addr) (sac:Nat) (at_:List RT) (al:List Rat) (h_:Hp),μ_=ls.length-k∧Γ=[(1,pB b1),(2,sZ),(4,nV k),(3,qS saA ((at_).length) sac)]∧SS w h w_ h_ [⟨b1,63,[qS A ts.length cap]⟩] [⟨97,3,saA,sac,(at_).length,(at_).flatMap rqc⟩] [Rt at_ al,Rn ts ls,Sl A ts]∧k≤ls.length∧al=flatq (ls.take k)) _ ⟨0,none,0,[],[],h3,rfl,rfl,hs.to _ _,Nat.zero_le _,rfl⟩ ?_;rintro _ _ w4 ⟨k,saA,sac,at_,al,h5,hm6,rfl,hs,hk,hal⟩;have hsm:=fun h0=>hO.small k h0
 have hfl:=flatq_len hO k hk;rw[←hal] at hfl
 have hlat:=(hs.f.1).len;refine cQ (cSL (lL hs [.m 6 4,.v 7 (pB b1),.o 8 (qS A ts.length cap) 0 0 1,.v 9 (nV ts.length)] ?_));cases hb7:(decide ((k:Int)<(ts.length:Int)))
 ·
  have phb7:=oF hb7;refine lB 10 hb7 (lN (cIF (CG.exit ?_)))
  show CG _ _ _ _ _ _ _ _
  refine cSL (lL hs [.m 43 3,.m 2 43] (lN (kX ?_)));have hkn:k=ls.length:=by omega
  subst hkn;rw[List.take_length] at hal
  obtain ⟨h8,hs,hc9⟩:=hs.pubr 0 (A:=saA) (c:=sac) (l:=at_) (f:=rqc) (ty:=97) (sz:=3) rqd (fun _=>rfl);exact hs.ret [] (qS saA ((at_).length) sac) (by rw[←hal];exact ⟨_,_,_,rfl,hc9,hs.f.1,hs.f.2.1⟩)
 have phb7:=oT hb7;refine lB 10 hb7 (lN (cIT (cK (cQ (kZ (cQ (cSL ?_)))))));obtain ⟨mtx,lbx,r12x,kdx⟩:=hO.lay k oM;have mrx:=mtx.rows;have mpx:=mtx.rpos;have mcx:=mtx.cpos;refine lL hs [.v 5 (iV 0)] (lN (kZ ?_));replace hs:=hs.aT (hs.f.1);refine cTo _ (CG.loop (fun μ_ Γ w_=>∃ (i:Nat) (sbA:Option Addr) (sbc:Nat) (bt:List RT) (bl:List Rat) (h_:Hp),μ_=(ls.getD k lay0).W.length-i∧Γ=[(1,pB b1),(2,sZ),(4,nV k),(5,nV i),(3,qS sbA ((bt).length) sbc)]∧SS w h w_ h_ [⟨b1,63,[qS A ts.length cap]⟩] [⟨97,3,sbA,sbc,(bt).length,(bt).flatMap rqc⟩] [Rt bt bl,Rt at_ al,Rn ts ls,Sl A ts]∧i≤(ls.getD k lay0).W.length∧bl=al++((ls.getD k lay0).W.take i).flatten) _ ⟨0,saA,sac,at_,al,h5,rfl,rfl,hs.to _ _,Nat.zero_le _,by simp⟩ ?_);rintro _ _ _ ⟨i,sbA,sbc,bt,bl,_,hm13,rfl,hs,hi,hbl⟩;have hbn:bl.length≤al.length+i*d k:=by rw[hbl,List.length_append,take_flat_len mtx i oM];exact nR _
 have hid:i*d k≤12*20:=Nat.mul_le_mul oM (hsm oM);have hmr:=fun h0=>mtx.row i h0
 have hlbt:=(hs.f.1).len;refine cQ (cSL (lL hs [.m 13 5,.v 14 (pB b1),.o 15 (qS A ts.length cap) 0 0 1,.m 16 4] (lX 17 A ts.length cap 3 (k:Nat) k ((hs.f.r.2.1).ok oM) ?_)));refine lL hs [.v 18 (.pointer (some ⟨(aB A),aO A+k*3+1,none⟩))] ?_;obtain ⟨ekx,⟨AWx,cWx,usx,eWx,hcWx,hAWx,hTWx⟩,⟨ABx,cBx,rsx,eBx,hcBx,hABx,hTBx⟩⟩:=(hs.f.r.1).at_ k oM;replace hs:=((((hs.aS hAWx).aV hTWx).aS hABx).aT hTBx);refine lHe 19 ((ts.getD k lvd).2.1) hs (((hs.f.q.r.2.1).el k oM).part 1 1) eWx ?_;have lux:=(hs.f.r.1).len;have lb2x:=(hs.f.1).len;refine lL hs [.v 20 (nV usx.length)] ?_;cases za:(decide ((i:Int)<(usx.length:Int)))
 ·
  have zb:=oF za;refine lB 21 za (lN (cIF (CG.exit ?_)))
  show CG _ _ _ _ _ _ _ _
  refine kQ (lL hs [.m 35 3,.v 36 (pB b1),.o 37 (qS A ts.length cap) 0 0 1,.m 38 4] (lX 39 A ts.length cap 3 (k:Nat) k ((hs.f.q.r.2.1).ok oM) ?_));refine lL hs [.v 40 (.pointer (some ⟨(aB A),aO A+k*3+2,none⟩))] (lHe 41 ((ts.getD k lvd).2.2) hs (((hs.f.q.r.2.1).el k oM).part 2 1) eBx ?_);refine lYsm 42 0 97 3 sbc sbA bt rqc rqd ABx rsx cBx 56 (.agg #[qF,sZ,sZ]) hs hs.f.2.1 oM (rt_one hs.f.1) (fun zc zd _ ze hs=>lL hs [.m 3 42] (lN (kQ (lL hs [.m 11 4] (lIn 12 ((k:Nat)+1) (k+1) ?_)))));refine lL hs [.m 4 12] (lD ?_);intro a_ ka;replace hs:=(hs.tl.tl.tl.tl.tl.tl.aT ((hs.f.q.1).app hs.f.1));refine ⟨_,_,?_,⟨k+1,zc,zd,bt++rsx,bl++(ls.getD k lay0).B,ze,rfl,rfl,hs.to _ _,oM,(by rw[flatq_take oM,hbl,List.take_of_length_le oM];simp[hal])⟩,ka.to _ kR⟩
  omega
 have zb:=oT za;refine lB 21 za (lN (cIT (cK (cQ (kZ (kQ (lL hs [.m 24 3,.v 25 (pB b1),.o 26 (qS A ts.length cap) 0 0 1,.m 27 4] (lX 28 A ts.length cap 3 (k:Nat) k ((hs.f.q.r.2.1).ok oM) ?_))))))));refine lL hs [.v 29 (.pointer (some ⟨(aB A),aO A+k*3+1,none⟩))] (lHe 30 ((ts.getD k lvd).2.1) hs (((hs.f.q.r.2.1).el k oM).part 1 1) eWx ?_);refine lL hs [.m 31 5] (lX 32 AWx usx.length cWx 1 (i:Nat) i ((hs.f.r.2.1).ok oM) ?_);obtain ⟨Arp,crp,trp,erp,hcrp,hRrp,hTrp⟩:=(hs.f.r.1).at_ i oM;have hlrp:=hTrp.len;replace hs:=((hs.aS hRrp).aT hTrp);refine lHe 33 (usx.getD i undef) hs ((hs.f.q.2.1).el i oM) erp (lYsm 34 0 97 3 sbc sbA bt rqc rqd Arp trp crp 56 (.agg #[qF,sZ,sZ]) hs hs.f.2.1 oM (rt_one hs.f.1) (fun zf zg _ zi hs=>lL hs [.m 3 34] (lN (kQ (lL hs [.m 22 5] (lIn 23 ((i:Nat)+1) (i+1) ?_))))));refine lL hs [.m 5 23] (lD ?_);intro a_ ka;replace hs:=(hs.tl.tl.tl.tl.tl.tl.tl.aT ((hs.f.q.r.1).app hs.f.1));refine ⟨_,_,?_,⟨i+1,zf,zg,bt++trp,bl++(ls.getD k lay0).W.getD i [],zi,rfl,rfl,hs.to _ _,oM,(by rw[flat_take oM,hbl,List.append_assoc])⟩,ka.to _ kR⟩
 omega
def QNs (K:Nat)(h:Hp)(us:List Value)(W:List (List Rat)):Prop:=∀ j,j<W.length→SlN K 55 qc h (us.getD j undef) (W.getD j [])
def LNew (K:Nat)(h:Hp)(t:LV)(L:Lay):Prop:=t.1=L.k∧(∃ us,SlN K 30 vc h t.2.1 us∧us.length=L.W.length∧QNs K h us L.W)∧SlN K 55 qc h t.2.2 L.B
structure NNew (K:Nat) (h:Hp) (ts:List LV) (ls:List Lay):Prop where
  len:ts.length=ls.length
  at_:∀ i,i<ls.length→LNew K h (ts.getD i lvd) (ls.getD i lay0)
def sumF (f:Nat→Rat):Nat→Rat
  | 0=>0
  | n+1=>sumF f n+f n
def slp (k:Int)(x:Rat):Rat:=if k=1 then 1 else if k=2 then (if 0<x then 1 else 0) else (((1:Int):Rat)/(((1:Int):Rat)+qabs x))*(((1:Int):Rat)/(((1:Int):Rat)+qabs x))
theorem getD_mapR {α:Type}{n i:Nat}{f:Nat→α}{d:α}(h:i<n):((List.range n).map f).getD i d=f i:=by
  rw[List.getD_eq_getElem?_getD,List.getElem?_eq_getElem (by simpa using h)];simp
def sumr (L:Lay)(x:List Rat)(r:Nat):Rat:=dotq (L.W.getD r []) x x.length+L.B.getD r 0
def delq (L:Lay)(x bar:List Rat)(r:Nat):Rat:=bar.getD r 0*slp L.k (sumr L x r)
def downq (L:Lay)(x bar:List Rat):List Rat:=(List.range x.length).map fun j=>sumF (fun r=>delq L x bar r*(L.W.getD r []).getD j 0) L.W.length
def barq (ls:List Lay)(xs top:List Rat)(n:Nat):Nat→List Rat
  | 0=>top
  | t+1=>downq (ls.getD (n-1-t) lay0) (outq ls xs (n-1-t)) (barq ls xs top n t)
def fitE (nx wx ny wy d0 dn:Nat):Int:=if 1≤nx∧nx≤300∧ny=nx∧wx=d0∧wy=dn then 0 else 5
theorem fitE0 {nx wx ny wy d0 dn:Nat}(h:1≤nx∧nx≤300∧ny=nx∧wx=d0∧wy=dn):fitE nx wx ny wy d0 dn=0:=if_pos h
theorem fitE5 {nx wx ny wy d0 dn:Nat}(h:¬(1≤nx∧nx≤300∧ny=nx∧wx=d0∧wy=dn)):fitE nx wx ny wy d0 dn=5:=if_neg h
noncomputable def netE (ls:List Lay)(nx wx ny wy:Nat):Int:=if chkq ls=0 then fitE nx wx ny wy (dOf ls 0) (dOf ls ls.length) else 1
theorem netE_0 {ls:List Lay}{nx wx ny wy:Nat}(h:chkq ls=0):netE ls nx wx ny wy=fitE nx wx ny wy (dOf ls 0) (dOf ls ls.length):=if_pos h
theorem netE_1 {ls:List Lay}{nx wx ny wy:Nat}(h:chkq ls≠0):netE ls nx wx ny wy=1:=if_neg h
theorem netE0 {ls:List Lay}{nx wx ny wy:Nat}(h:netE ls nx wx ny wy=0):chkq ls=0∧1≤nx∧ny=nx∧wx=dOf ls 0∧wy=dOf ls ls.length:=by
  by_cases c:chkq ls=0
  · rw[netE_0 c] at h
    by_cases g:1≤nx∧nx≤300∧ny=nx∧wx=dOf ls 0∧wy=dOf ls ls.length
    · exact ⟨c,g.1,g.2.2.1,g.2.2.2.1,g.2.2.2.2⟩
    · rw[fitE5 g] at h;exact absurd h kD
  · rw[netE_1 c] at h;exact absurd h kD
theorem nSuits (A:Option Addr)(cap:Nat)(ts:List LV)(ls:List Lay)(d:Nat→Nat)(hO:Net3 ls d)(X:Option Addr)(c0:Nat)(xs:List Rat)(w:World)(h:Hp)(g:G w h)(hA:Sl A ts h)(hN:NetL h ts ls)(hX:Sq X xs h):CV 136 #[.agg #[.slice A ts.length cap],.slice X xs.length c0] w h (.bool (decide (xs.length=d 0))):=by
  by_cases e:xs.length=d 0
  · rw[decide_eq_true e];exact nSuitsT A cap ts ls d hO X c0 xs e w h g hA hN hX
  · rw[decide_eq_false e];exact nSuitsF A cap ts ls d hO X c0 xs e w h g hA hN hX
theorem nFits (A:Option Addr)(cap:Nat)(ts:List LV)(ls:List Lay)(d:Nat→Nat)(hO:Net3 ls d)(X:Option Addr)(cX:Nat)(ux:List Value)(xss:List (List Rat))(Y:Option Addr)(cY:Nat)(uy:List Value)(yss:List (List Rat))(wx wy:Nat)(hxw:∀ i,i<xss.length→(xss.getD i []).length=wx)(hyw:∀ i,i<yss.length→(yss.getD i []).length=wy)(w:World)(h:Hp)(g:G w h)(hA:Sl A ts h)(hN:NetL h ts ls)(hX:Sv X ux h)(hU:QVs h ux xss)(hY:Sv Y uy h)(hV:QVs h uy yss):CV 134 #[.agg #[.slice A ts.length cap],.slice X ux.length cX,.slice Y uy.length cY] w h (iV (fitE xss.length wx yss.length wy (d 0) (d ls.length))):=by
 have hs:=(((((((sS g).aS hA).aN hN).aS hX).aQ hU).aS hY).aQ hV);have hl:=(hs.f.q.1).len;obtain ⟨o1,o2⟩:=hO.len;have o3:=hO.first;have hux:=(hs.f.r.1).len;have huy:=(hs.f.1).len;refine go Tryz.func134 [(0,.agg #[qS A ts.length cap]),(1,qS X ux.length cX),(2,qS Y uy.length cY)] rfl (cSL (lA 3 74 ([qS A ts.length cap]) hs (fun b1 w2 h3 hs=>lL hs [.v 6 (iV 0)] (lN (cQ (cSL (lL hs [.m 9 1,.v 10 (nV ux.length)] ?_)))))));cases hb4:(decide ((ux.length:Int)<(1:Int)))
 ·
  have phb4:=oF hb4;refine lB 11 hb4 (lL hs [.m 12 11,.m 13 1,.v 14 (nV ux.length)] ?_);cases hb5:(decide ((300:Int)<(ux.length:Int)))
  ·
   have phb5:=oF hb5;refine lB 15 hb5 (lL hs [.v 16 qF,.m 17 16,.m 18 2,.v 19 (nV uy.length),.m 20 1,.v 21 (nV ux.length)] ?_);cases hb6:((uy.length:Int) != (ux.length:Int))
   ·
    have phb6:=eqOfBne hb6;refine lB 22 hb6 (lL hs [.v 23 qF] (lN (cIF (cK (cSL (lL hs [.v 24 (pB b1),.o 25 (qS A ts.length cap) 0 0 1,.v 26 (pB b1),.o 27 (qS A ts.length cap) 0 0 1,.v 28 (nV ts.length)] (lIn 29 ((ts.length:Nat)-1) (ts.length-1) ?_)))))));refine lX 30 A ts.length cap 3 (ts.length-1:Nat) (ts.length-1) ((hs.f.q.2.1).ok oM) (lL hs [.v 31 (.pointer (some ⟨(aB A),aO A+(ts.length-1)*3+1,none⟩))] ?_);obtain ⟨ekz,⟨AWz,cWz,usz,eWz,hcWz,hAWz,hUz⟩,⟨ABz,cBz,eBz,hcBz,hABz⟩⟩:=(hs.f.q.1).at_ (ts.length-1) oM;obtain ⟨mtz,lbz,r12z,kdz⟩:=hO.lay (ts.length-1) oM;have luz:=hUz.len;have mrz:=mtz.rows;have mpz:=mtz.rpos;have mcz:=mtz.cpos;have m0z:=mtz.row 0 oM;replace hs:=(((hs.aS hAWz).aQ hUz).aS hABz);refine lHe 32 ((ts.getD (ts.length-1) lvd).2.1) hs (((hs.f.q.q.1).el (ts.length-1) oM).part 1 1) eWz ?_;have hdl:d (ts.length-1+1)=d ls.length:=by rw[show ts.length-1+1=ls.length by omega]
    refine lL hs [.v 33 (nV usz.length),.m 7 33] (lN (cQ (cSL (lL hs [.m 34 1,.v 35 (nV ux.length),.v 36 (iV 0)] (lN (kZ ?_))))));refine cTo _ (CG.loop (fun μ_ Γ w_=>∃ (r:Nat) (h_:Hp),μ_=xss.length-r∧Γ=[(1,qS X ux.length cX),(2,qS Y uy.length cY),(3,pB b1),(7,nV usz.length),(35,nV ux.length),(36,nV r)]∧SS w h w_ h_ [⟨b1,74,[qS A ts.length cap]⟩] [] [Sq ABz (ls.getD (ts.length-1) lay0).B,Qu usz (ls.getD (ts.length-1) lay0).W,Sv AWz usz,Qu uy yss,Sv Y uy,Qu ux xss,Sv X ux,Nn ts ls,Sl A ts]∧r≤xss.length∧(0<r→wx=d 0∧wy=d ls.length)) _ ⟨0,h3,rfl,rfl,hs.to _ _,Nat.zero_le _,fun h0=>absurd h0 (Nat.lt_irrefl 0)⟩ ?_);rintro _ _ w7 ⟨r,h8,hm9,rfl,hs,hr,hok⟩;refine cSL ?_;cases za:(decide ((r:Int)<(ux.length:Int)))
    ·
     have zd:=oF za;refine lB 37 za (lN (cQ (cIF (CG.exit ?_))))
     show CG _ _ _ _ _ _ _ _
     exact cSL (lL hs [.v 6 (iV 0)] (lN (kX (hs.ret [] (iV 0) (by rw[fitE0 oM])))))
    have zd:=oT za;refine lB 37 za (lN (cQ (cIT (cK (cQ (kZ (cSL (lL hs [.m 38 36,.m 8 38] (lN (cQ (cR 16 [] mixed hs al_nil ?_)))))))))));have hxl:=hxw r oM;have hyl:=hyw r oM;refine eO 0 39 [(0,0,1)] (.agg #[qS A ts.length cap]) hs (eV 1 40 (qS X ux.length cX) (eV 2 41 (nV r) (eX 3 42 X ux.length cX 1 (r:Nat) r ((hs.f.q.r.1).ok oM) ?_)));obtain ⟨Aqx,cqx,eqx,hcqx,hRqx⟩:=(hs.f.q.2.1).at_ r oM;replace hs:=hs.aS hRqx;refine eHe 4 43 (ux.getD r undef) hs ((hs.f.q.r.2.1).el r oM) eqx (eC 5 44 hs (fun _ _ hs=>nSuits A cap ts ls d hO Aqx cqx (xss.getD r []) _ _ hs.g hs.f.q.q.2.1 hs.f.q.q.1 hs.f.1) ?_);rintro _ _ _ _ _ hs rfl;cases zc:(decide ((xss.getD r []).length=d 0))
    ·
     have ze:=oF zc;exact eV 6 45 qT (eV 7 46 qT (eG 8 47 (eG 9 48 (eG 10 49 (eG 11 50 (eG 12 51 (eG 13 52 (eG 14 53 (eV 15 54 qT (eD0 hs (fun _ _ hs=>tN (cIT (cSL (lL hs [.v 6 (iV 5)] (lN (kX (hs.ret [] (iV 5) (by rw[fitE5 oM]))))))))))))))))))
    have ze:=oT zc;refine eV 6 45 qF (eV 7 46 qF (eV 8 47 (qS Y uy.length cY) (eV 9 48 (nV r) (eX 10 49 Y uy.length cY 1 (r:Nat) r ((hs.f.q.2.1).ok oM) ?_))));obtain ⟨Aqy,cqy,eqy,hcqy,hRqy⟩:=(hs.f.q.1).at_ r oM;replace hs:=hs.aS hRqy;refine eHe 11 50 (uy.getD r undef) hs ((hs.f.q.r.1).el r oM) eqy (eV 12 51 (nV ((yss.getD r []).length)) (eV 13 52 (nV usz.length) ?_));cases zb:((((yss.getD r []).length:Nat):Int) != (usz.length:Int))
    ·
     have zf:=eqOfBne zb;refine eB 14 53 zb (eV 15 54 qF (eD0 hs (fun _ zg hs=>tN (cIF (cK (kQ (lIn 55 ((r:Nat)+1) (r+1) ?_)))))));refine lL hs [.m 36 55] (lD ?_);intro a_ ka;replace hs:=hs.tl.tl;refine ⟨_,_,?_,⟨r+1,zg,rfl,rfl,hs.to _ _,oM,(fun _=>by omega)⟩,ka.to _ kR⟩
     omega
    have zf:=neOfBne zb;exact eB 14 53 zb (eV 15 54 qT (eD0 hs (fun _ _ hs=>tN (cIT (cSL (lL hs [.v 6 (iV 5)] (lN (kX (hs.ret [] (iV 5) (by rw[fitE5 oM]))))))))))
   have phb6:=neOfBne hb6;exact lB 22 hb6 (lL hs [.v 23 qT] (lN (cIT (cSL (lL hs [.v 6 (iV 5)] (lN (kX (hs.ret [] (iV 5) (by rw[fitE5 oM])))))))))
  have phb5:=oT hb5;refine lB 15 hb5 (lL hs [.v 16 qT,.m 17 16] (lG 18 ?_));exact lG 19 (lG 20 (lG 21 (lG 22 (lL hs [.v 23 qT] (lN (cIT (cSL (lL hs [.v 6 (iV 5)] (lN (kX (hs.ret [] (iV 5) (by rw[fitE5 oM]))))))))))))
 have phb4:=oT hb4;refine lB 11 hb4 (lL hs [.m 12 11] (lG 13 ?_));refine lG 14 (lG 15 (lL hs [.v 16 qT,.m 17 16] (lG 18 ?_)));exact lG 19 (lG 20 (lG 21 (lG 22 (lL hs [.v 23 qT] (lN (cIT (cSL (lL hs [.v 6 (iV 5)] (lN (kX (hs.ret [] (iV 5) (by rw[fitE5 oM]))))))))))))
theorem nRefused1 (A:Option Addr)(cap:Nat)(ts:List LV)(ls:List Lay)(hn:ls.length≤1000000)(hF:∀ i,i<ls.length→LayLen (ls.getD i lay0))(X:Option Addr)(cX:Nat)(ux:List Value)(xss:List (List Rat))(Y:Option Addr)(cY:Nat)(uy:List Value)(yss:List (List Rat))(wx wy:Nat)(hxw:∀ i,i<xss.length→(xss.getD i []).length=wx)(hyw:∀ i,i<yss.length→(yss.getD i []).length=wy)(h1:chkq ls≠0)(w:World)(h:Hp)(g:G w h)(hA:Sl A ts h)(hN:NetL h ts ls)(hX:Sv X ux h)(hU:QVs h ux xss)(hY:Sv Y uy h)(hV:QVs h uy yss):CV 72 #[.agg #[.slice A ts.length cap],.slice X ux.length cX,.slice Y uy.length cY] w h (iV 1):=by
 have hs:=(((((((sS g).aS hA).aN hN).aS hX).aQ hU).aS hY).aQ hV);refine go Tryz.func72 [(0,.agg #[qS A ts.length cap]),(1,qS X ux.length cX),(2,qS Y uy.length cY)] rfl (cSL (lA 3 74 ([qS A ts.length cap]) hs (fun b1 w2 h3 hs=>lL hs [.v 6 (iV 0)] (lN (cQ (cSL (lL hs [.o 7 (.agg #[qS A ts.length cap]) 0 0 1] (lC 8 hs (nCheckG A cap ts ls hn hF _ _ hs.g hs.f.q.2.1 hs.f.q.1) ?_))))))));rintro _ w4 h5 hs rfl;have hb6:((chkq ls:Int) != (0:Int))=true:=bneT h1;have phb6:=neOfBne hb6;exact lB 9 hb6 (lN (cIT (cSL (lL hs [.v 6 (iV 1)] (lN (kX (hs.ret [] (iV 1) rfl)))))))
theorem nRefused0 (A:Option Addr)(cap:Nat)(ts:List LV)(ls:List Lay)(hn:ls.length≤1000000)(hF:∀ i,i<ls.length→LayLen (ls.getD i lay0))(X:Option Addr)(cX:Nat)(ux:List Value)(xss:List (List Rat))(Y:Option Addr)(cY:Nat)(uy:List Value)(yss:List (List Rat))(wx wy:Nat)(hxw:∀ i,i<xss.length→(xss.getD i []).length=wx)(hyw:∀ i,i<yss.length→(yss.getD i []).length=wy)(h1:chkq ls=0)(w:World)(h:Hp)(g:G w h)(hA:Sl A ts h)(hN:NetL h ts ls)(hX:Sv X ux h)(hU:QVs h ux xss)(hY:Sv Y uy h)(hV:QVs h uy yss):CV 72 #[.agg #[.slice A ts.length cap],.slice X ux.length cX,.slice Y uy.length cY] w h (iV (fitE xss.length wx yss.length wy (dOf ls 0) (dOf ls ls.length))):=by
 have hs:=(((((((sS g).aS hA).aN hN).aS hX).aQ hU).aS hY).aQ hV);refine go Tryz.func72 [(0,.agg #[qS A ts.length cap]),(1,qS X ux.length cX),(2,qS Y uy.length cY)] rfl (cSL (lA 3 74 ([qS A ts.length cap]) hs (fun b1 w2 h3 hs=>lL hs [.v 6 (iV 0)] (lN (cQ (cSL (lL hs [.o 7 (.agg #[qS A ts.length cap]) 0 0 1] (lC 8 hs (nCheckG A cap ts ls hn hF _ _ hs.g hs.f.q.2.1 hs.f.q.1) ?_))))))));rintro _ w4 h5 hs rfl;have hb6:((chkq ls:Int) != (0:Int))=false:=bneF' h1;have phb6:=eqOfBne hb6;refine lB 9 hb6 (lN (cIF (cK (cSL (lL hs [.o 10 (.agg #[qS A ts.length cap]) 0 0 1,.m 11 1,.m 12 2] (lC 13 hs (nFits A cap ts ls (dOf ls) (chk_net3 h1) X cX ux xss Y cY uy yss wx wy hxw hyw _ _ hs.g hs.f.q.2.1 hs.f.q.1 hs.f.r.2.1 hs.f.r.1 hs.f.2.1 hs.f.1) ?_))))));rintro _ w7 h8 hs rfl;exact lL hs [.m 6 13] (lN (kX (hs.ret [] (iV (fitE xss.length wx yss.length wy (dOf ls 0) (dOf ls ls.length))) rfl)))
theorem nRefused (A:Option Addr)(cap:Nat)(ts:List LV)(ls:List Lay)(hn:ls.length≤1000000)(hF:∀ i,i<ls.length→LayLen (ls.getD i lay0))(X:Option Addr)(cX:Nat)(ux:List Value)(xss:List (List Rat))(Y:Option Addr)(cY:Nat)(uy:List Value)(yss:List (List Rat))(wx wy:Nat)(hxw:∀ i,i<xss.length→(xss.getD i []).length=wx)(hyw:∀ i,i<yss.length→(yss.getD i []).length=wy)(w:World)(h:Hp)(g:G w h)(hA:Sl A ts h)(hN:NetL h ts ls)(hX:Sv X ux h)(hU:QVs h ux xss)(hY:Sv Y uy h)(hV:QVs h uy yss):CV 72 #[.agg #[.slice A ts.length cap],.slice X ux.length cX,.slice Y uy.length cY] w h (iV (netE ls xss.length wx yss.length wy)):=by
  by_cases h1:chkq ls=0
  · rw[netE_0 h1];exact nRefused0 A cap ts ls hn hF X cX ux xss Y cY uy yss wx wy hxw hyw h1 w h g hA hN hX hU hY hV
  · rw[netE_1 h1];exact nRefused1 A cap ts ls hn hF X cX ux xss Y cY uy yss wx wy hxw hyw h1 w h g hA hN hX hU hY hV
theorem sizesq_l2 (ls:List Lay):(sizesq ls).length=ls.length+1:=by simp[sizesq]
theorem sizes_last {ls:List Lay}(o:Net3 ls (dOf ls)):(sizesq ls).getD ((sizesq ls).length-1) 0=dOf ls ls.length:=by
  have h1:=o.len.1;have e:(sizesq ls).length-1=(ls.length-1)+1:=by rw[sizesq_l2];omega
  rw[e]
  show (ls.map (·.W.length)).getD (ls.length-1) 0=_
  unfold dOf
  rw[if_neg oM,List.getD_eq_getElem?_getD,List.getD_eq_getElem?_getD,List.getElem?_map,List.getElem?_eq_getElem (show ls.length-1<ls.length by omega)];rfl
theorem rRightU (X:Option Addr)(cX:Nat)(ux:List Value)(xss:List (List Rat))(wx:Nat)(hx4:xss.length≤300)(hw1:1≤wx)(hw20:wx≤20)(hxw:∀ i,i<xss.length→(xss.getD i []).length=wx)(w:World)(h:Hp)(g:G w h)(hX:Sv X ux h)(hU:RVs h ux xss):CV 135 #[.slice X ux.length cX] w h (.bool (decide (0<xss.length))):=by
  have x:=rRightG X cX ux xss oM (fun i hi=>by rw[hxw i hi];omega) w h g hX hU
  have e:rightq xss=decide (0<xss.length):=by
    by_cases c:0<xss.length
    · rw[decide_eq_true c]
      have:RightP xss:=⟨c,by rw[hxw 0 c];omega,fun i hi=>by rw[hxw i hi,hxw 0 c]⟩;have:=rq_t this
      injection this with this
      exact this.symm
    · rw[decide_eq_false c]
      have:¬RightP xss:=fun p=>c p.1
      have:=rq_f this
      injection this with this
      exact this.symm
  rw[e] at x
  exact x
theorem rLearn (X:Option Addr)(cX:Nat)(ux:List Value)(xss:List (List Rat))(wx:Nat)(hx4:xss.length≤300)(hw1:1≤wx)(hw20:wx≤20)(hxw:∀ i,i<xss.length→(xss.getD i []).length=wx)(w:World)(h:Hp)(g:G w h)(hX:Sv X ux h)(hU:RVs h ux xss):CV 80 #[.slice X ux.length cX] w h (.bool (decide (0<xss.length))):=by
 have hs:=(((sS g).aS hX).aV hU);have hux:=(hs.f.1).len;refine go Tryz.func80 [(0,qS X ux.length cX)] rfl (cSL (lL hs [.v 2 qF] (lNS (lL hs [.m 3 0] (lC 4 hs (rRightU X cX ux xss wx hx4 hw1 hw20 hxw _ _ hs.g hs.f.2.1 hs.f.1) ?_)))));rintro _ w1 h2 hs rfl;cases hb3:(decide (0<xss.length))
 ·
  have phb3:=oF hb3;refine lL hs [.m 5 4] (lG 6 ?_);refine lG 7 (lG 8 (lL hs [.v 9 qF,.m 10 9] (lG 11 ?_)));exact lG 12 (lG 13 (lG 14 (lG 15 (lL hs [.v 16 qF,.m 2 16] (lN (kX (hs.ret [] qF rfl)))))))
 have phb3:=oT hb3;refine lL hs [.m 5 4,.m 6 0,.v 7 (nV ux.length)] ?_;have ⟨hb4,phb4⟩:=dT (p:=(ux.length:Int)≤(300:Int)) oM;refine lB 8 hb4 (lL hs [.v 9 qT,.m 10 9] ?_);have hx0:=hxw 0 oM;refine lL hs [.m 11 0] (lX 12 X ux.length cX 1 0 0 ((hs.f.2.1).ok oM) ?_);obtain ⟨Arx,crx,trx,erx,hcrx,hRrx,hTrx⟩:=(hs.f.1).at_ 0 oM;have hlrx:=hTrx.len;replace hs:=((hs.aS hRrx).aT hTrx);refine lHe 13 (ux.getD 0 undef) hs ((hs.f.r.2.1).el 0 oM) erx (lL hs [.v 14 (nV trx.length)] ?_);have ⟨hb5,phb5⟩:=dT (p:=(trx.length:Int)≤(20:Int)) oM;exact lB 15 hb5 (lL hs [.v 16 qT,.m 2 16] (lN (kX (hs.ret [] qT rfl))))
theorem rNetError1 (A:Option Addr)(cap:Nat)(ts:List LV)(ls:List Lay)(hn:ls.length≤1000000)(hF:∀ i,i<ls.length→LayLen (ls.getD i lay0))(X:Option Addr)(cX:Nat)(ux:List Value)(xss:List (List Rat))(Y:Option Addr)(cY:Nat)(uy:List Value)(yss:List (List Rat))(wx wy:Nat)(hxw:∀ i,i<xss.length→(xss.getD i []).length=wx)(hyw:∀ i,i<yss.length→(yss.getD i []).length=wy)(h1:chkq ls≠0)(w:World)(h:Hp)(g:G w h)(hA:Sl A ts h)(hN:RNetL h ts ls)(hX:Sv X ux h)(hU:RVs h ux xss)(hY:Sv Y uy h)(hV:RVs h uy yss):CV 31 #[.agg #[.slice A ts.length cap],.slice X ux.length cX,.slice Y uy.length cY] w h (iV 1):=by
 have hs:=(((((((sS g).aS hA).aM hN).aS hX).aV hU).aS hY).aV hV);refine go Tryz.func31 [(0,.agg #[qS A ts.length cap]),(1,qS X ux.length cX),(2,qS Y uy.length cY)] rfl (cSL (lA 3 63 ([qS A ts.length cap]) hs (fun b1 w2 h3 hs=>lL hs [.v 6 (iV 0)] (lN (cQ (cSL (lL hs [.o 9 (.agg #[qS A ts.length cap]) 0 0 1] (lC 10 hs (rCheckG A cap ts ls hn hF _ _ hs.g hs.f.q.2.1 hs.f.q.1) ?_))))))));rintro _ w4 h5 hs rfl;have hb6:((chkq ls:Int) != (0:Int))=true:=bneT h1;have phb6:=neOfBne hb6;exact lB 11 hb6 (lN (cIT (cSL (lL hs [.v 6 (iV 1)] (lN (kX (hs.ret [] (iV 1) rfl)))))))
theorem rNetError0 (A:Option Addr)(cap:Nat)(ts:List LV)(ls:List Lay)(hn:ls.length≤1000000)(hF:∀ i,i<ls.length→LayLen (ls.getD i lay0))(X:Option Addr)(cX:Nat)(ux:List Value)(xss:List (List Rat))(Y:Option Addr)(cY:Nat)(uy:List Value)(yss:List (List Rat))(wx wy:Nat)(hxw:∀ i,i<xss.length→(xss.getD i []).length=wx)(hyw:∀ i,i<yss.length→(yss.getD i []).length=wy)(hx4:xss.length≤300)(hw1:1≤wx)(hw20:wx≤20)(h1:chkq ls=0)(w:World)(h:Hp)(g:G w h)(hA:Sl A ts h)(hN:RNetL h ts ls)(hX:Sv X ux h)(hU:RVs h ux xss)(hY:Sv Y uy h)(hV:RVs h uy yss):CV 31 #[.agg #[.slice A ts.length cap],.slice X ux.length cX,.slice Y uy.length cY] w h (iV (fitE xss.length wx yss.length wy (dOf ls 0) (dOf ls ls.length))):=by
 have hs:=(((((((sS g).aS hA).aM hN).aS hX).aV hU).aS hY).aV hV);have hux:=(hs.f.r.1).len;have huy:=(hs.f.1).len;have hszl:=sizesq_l2 ls;refine go Tryz.func31 [(0,.agg #[qS A ts.length cap]),(1,qS X ux.length cX),(2,qS Y uy.length cY)] rfl (cSL (lA 3 63 ([qS A ts.length cap]) hs (fun b1 w2 h3 hs=>lL hs [.v 6 (iV 0)] (lN (cQ (cSL (lL hs [.o 9 (.agg #[qS A ts.length cap]) 0 0 1] (lC 10 hs (rCheckG A cap ts ls hn hF _ _ hs.g hs.f.q.2.1 hs.f.q.1) ?_))))))));rintro _ w4 h5 hs rfl;refine lV 11 qF ?_ (hr:=rb (e:=((chkq ls:Int) != (0:Int))) kR (bneF' h1));refine lN (cIF (cK (cSL (lL hs [.o 12 (.agg #[qS A ts.length cap]) 0 0 1] (lC 13 hs (rNetSizes A cap ts ls (chk_net3 h1) _ _ hs.g hs.f.q.2.1 hs.f.q.1) ?_)))));rintro _ w6 h7 hs ⟨Ah,ch,rfl,hch,hAh⟩;replace hs:=hs.aS hAh;refine lL hs [.m 7 13] (lN (cQ (cQ (cR 20 [] mixed hs al_nil ?_))));refine eV 0 14 (qS X ux.length cX) (eC 1 15 hs (fun _ _ hs=>rLearn X cX ux xss wx hx4 hw1 hw20 hxw _ _ hs.g hs.f.q.1 hs.f.r.2.1) ?_);rintro _ _ _ w8 h9 hs rfl;cases ze:(decide (0<xss.length))
 ·
  have zf:=oF ze;exact eV 2 16 qT (eV 3 17 qT (eG 4 18 (eG 5 19 (eG 6 20 (eG 7 21 (eG 8 22 (eG 9 23 (eG 10 24 (eG 11 25 (eV 12 26 qT (eV 13 27 qT (eG 14 28 (eG 15 29 (eG 16 30 (eG 17 31 (eG 18 32 (eV 19 33 qT (eD0 hs (fun _ _ hs=>tN (cIT (cSL (lL hs [.v 6 (iV 5)] (lN (kX (hs.ret [] (iV 5) (by rw[fitE5 oM]))))))))))))))))))))))))))
 have zf:=oT ze;refine eV 2 16 qF (eV 3 17 qF ?_);have hx0:=hxw 0 oM;refine eV 4 18 (qS X ux.length cX) (eX 5 19 X ux.length cX 1 0 0 ((hs.f.q.1).ok oM) ?_);obtain ⟨Arx,crx,trx,erx,hcrx,hRrx,hTrx⟩:=(hs.f.r.2.1).at_ 0 oM;have hlrx:=hTrx.len;replace hs:=((hs.aS hRrx).aT hTrx);refine eHe 6 20 (ux.getD 0 undef) hs ((hs.f.q.r.1).el 0 oM) erx (eV 7 21 (nV trx.length) (eV 8 22 (qS Ah ((sizesq ls).length) ch) (eX 9 23 Ah ((sizesq ls).length) ch 1 0 0 ((hs.f.r.1).ok oM) (eHe 10 24 (nV ((sizesq ls).getD 0 0)) hs ((hs.f.r.1).el 0 oM) rfl ?_))));cases za:((trx.length:Int) != ((dOf ls 0:Nat):Int))
 ·
  have zg:=eqOfBne za;refine eB 11 25 za (eV 12 26 qF (eV 13 27 qF (eV 14 28 (qS Y uy.length cY) (eV 15 29 (nV uy.length) (eV 16 30 (qS X ux.length cX) (eV 17 31 (nV ux.length) ?_))))));cases zb:((uy.length:Int) != (ux.length:Int))
  ·
   have zi:=eqOfBne zb;refine eB 18 32 zb (eV 19 33 qF (eD0 hs (fun _ zl hs=>tN (cIF (cK (cQ (cSL (lL hs [.v 8 (iV 0)] (lN (kZ ?_))))))))));refine cTo _ (CG.loop (fun μ_ Γ w_=>∃ (j:Nat) (h_:Hp),μ_=yss.length-j∧Γ=[(2,qS Y uy.length cY),(7,qS Ah ((sizesq ls).length) ch),(8,nV j)]∧SS w h w_ h_ [⟨b1,63,[qS A ts.length cap]⟩] [] [Rt trx (xss.getD 0 []),Sr Arx trx,Sn Ah (sizesq ls),Ru uy yss,Sv Y uy,Ru ux xss,Sv X ux,Rn ts ls,Sl A ts]∧j≤yss.length∧(0<j→wy=dOf ls ls.length)) _ ⟨0,zl,rfl,rfl,hs.to _ _,Nat.zero_le _,fun h0=>absurd h0 (Nat.lt_irrefl 0)⟩ ?_);rintro _ _ _ ⟨j,_,hm19,rfl,hs,hj,hok⟩;refine cQ (cSL (lL hs [.m 34 8,.m 35 2,.v 36 (nV uy.length)] ?_));cases zc:(decide ((j:Int)<(uy.length:Int)))
   ·
    have zj:=oF zc;refine lB 37 zc (lN (cIF (CG.exit ?_)))
    show CG _ _ _ _ _ _ _ _
    exact cSL (lL hs [.v 6 (iV 0)] (lN (kX (hs.ret [] (iV 0) (by rw[fitE0 oM])))))
   have zj:=oT zc;refine lB 37 zc (lN (cIT (cK (cQ (kZ (cQ (cR 12 [] mixed hs al_nil ?_)))))));have hyl:=hyw j oM;refine eV 0 40 (qS Y uy.length cY) (eV 1 41 (nV j) (eX 2 42 Y uy.length cY 1 (j:Nat) j ((hs.f.q.1).ok oM) ?_));obtain ⟨Aryy,cryy,tryy,eryy,hcryy,hRryy,hTryy⟩:=(hs.f.r.2.1).at_ j oM;have hlryy:=hTryy.len;replace hs:=((hs.aS hRryy).aT hTryy);refine eHe 3 43 (uy.getD j undef) hs ((hs.f.q.r.1).el j oM) eryy (eV 4 44 (nV tryy.length) (eV 5 45 (qS Ah ((sizesq ls).length) ch) (eV 6 46 (qS Ah ((sizesq ls).length) ch) (eV 7 47 (nV ((sizesq ls).length)) (eIn 8 48 (((sizesq ls).length:Nat)-1) (((sizesq ls).length)-1) (eX 9 49 Ah ((sizesq ls).length) ch 1 (((sizesq ls).length)-1:Nat) (((sizesq ls).length)-1:Nat) ((hs.f.q.1).ok oM) (eHe 10 50 (nV ((sizesq ls).getD ((sizesq ls).length-1) 0)) hs ((hs.f.q.1).el ((sizesq ls).length-1) oM) (by rw[sizes_last (chk_net3 h1)]) ?_)))))));cases zd:((tryy.length:Int) != ((dOf ls ls.length:Nat):Int))
   ·
    have zk:=eqOfBne zd;refine eB 11 51 zd (eD0 hs (fun _ zm hs=>tN (cIF (cK (kQ (lL hs [.m 38 8] (lIn 39 ((j:Nat)+1) (j+1) ?_)))))));refine lL hs [.m 8 39] (lD ?_);intro a_ ka;replace hs:=hs.tl.tl;refine ⟨_,_,?_,⟨j+1,zm,rfl,rfl,hs.to _ _,oM,(fun _=>by omega)⟩,ka.to _ kR⟩
    omega
   have zk:=neOfBne zd;exact eB 11 51 zd (eD0 hs (fun _ _ hs=>tN (cIT (cSL (lL hs [.v 6 (iV 5)] (lN (kX (hs.ret [] (iV 5) (by rw[fitE5 oM])))))))))
  have zi:=neOfBne zb;exact eB 18 32 zb (eV 19 33 qT (eD0 hs (fun _ _ hs=>tN (cIT (cSL (lL hs [.v 6 (iV 5)] (lN (kX (hs.ret [] (iV 5) (by rw[fitE5 oM]))))))))))
 have zg:=neOfBne za;exact eB 11 25 za (eV 12 26 qT (eV 13 27 qT (eG 14 28 (eG 15 29 (eG 16 30 (eG 17 31 (eG 18 32 (eV 19 33 qT (eD0 hs (fun _ _ hs=>tN (cIT (cSL (lL hs [.v 6 (iV 5)] (lN (kX (hs.ret [] (iV 5) (by rw[fitE5 oM])))))))))))))))))
theorem rNetErr (A:Option Addr)(cap:Nat)(ts:List LV)(ls:List Lay)(hn:ls.length≤1000000)(hF:∀ i,i<ls.length→LayLen (ls.getD i lay0))(X:Option Addr)(cX:Nat)(ux:List Value)(xss:List (List Rat))(Y:Option Addr)(cY:Nat)(uy:List Value)(yss:List (List Rat))(wx wy:Nat)(hxw:∀ i,i<xss.length→(xss.getD i []).length=wx)(hyw:∀ i,i<yss.length→(yss.getD i []).length=wy)(hx4:xss.length≤300)(hw1:1≤wx)(hw20:wx≤20)(w:World)(h:Hp)(g:G w h)(hA:Sl A ts h)(hN:RNetL h ts ls)(hX:Sv X ux h)(hU:RVs h ux xss)(hY:Sv Y uy h)(hV:RVs h uy yss):CV 31 #[.agg #[.slice A ts.length cap],.slice X ux.length cX,.slice Y uy.length cY] w h (iV (netE ls xss.length wx yss.length wy)):=by
  by_cases h1:chkq ls=0
  · rw[netE_0 h1];exact rNetError0 A cap ts ls hn hF X cX ux xss Y cY uy yss wx wy hxw hyw hx4 hw1 hw20 h1 w h g hA hN hX hU hY hV
  · rw[netE_1 h1];exact rNetError1 A cap ts ls hn hF X cX ux xss Y cY uy yss wx wy hxw hyw h1 w h g hA hN hX hU hY hV
def npos (d:Nat→Nat):Nat→Nat
  | 0=>0
  | k+1=>npos d k+d (k+1)+1
def SlB (K b:Nat)(h:Hp)(v:Value)(l:List Rat):Prop:=∃ c sp,v=.slice (some ⟨b,0,none⟩) l.length c∧l.length≤c∧Nw K h b 55 (l.flatMap qc++sp)
def QNb (bl:List Nat)(p K:Nat)(h:Hp)(us:List Value)(W:List (List Rat)):Prop:=∀ j,j<W.length→SlB K (bl.getD (p+j) 0) h (us.getD j undef) (W.getD j [])
def LNb (bl:List Nat)(p K:Nat)(h:Hp)(t:LV)(L:Lay):Prop:=t.1=L.k∧(∃ us,SlN K 30 vc h t.2.1 us∧us.length=L.W.length∧QNb bl p K h us L.W)∧SlB K (bl.getD (p+L.W.length) 0) h t.2.2 L.B
structure NNb (bl:List Nat) (d:Nat→Nat) (K:Nat) (h:Hp) (ts:List LV) (ls:List Lay):Prop where
  len:ts.length=ls.length
  at_:∀ i,i<ls.length→LNb bl (npos d i) K h (ts.getD i lvd) (ls.getD i lay0)
structure Dif (M:List Nat) (w w0:World):Prop where
  mo:Mo M w w0
  sz:w0.heap.size=w.heap.size
section frn
variable {w0 w w' wi:World} {h0 h h':Hp} {B:List Bx} {R:List Rw} {F:List (Hp→Prop)} {M:List Nat}
end frn
section get
variable {P:Program} {n:Nat} {N R:Po} {X:Nat→Po} {ops:Array Oper} {k:Nat} {Γ:Env} {w:World} {h:Hp} {w0:World} {h0:Hp} {B:List Bx} {Rs:List Rw} {F:List (Hp→Prop)}
end get
section gete
variable {M:Ms} {P:Program} {n:Nat} {N R:Po} {X:Nat→Po} {ops:Array Oper} {k0:Nat} {hr:Hp} {AL:List Al} {L:Array Bool} {Γ:Env} {w:World} {h:Hp} {w0:World} {h0:Hp} {B:List Bx} {Rs:List Rw} {F:List (Hp→Prop)}
end gete
section ops
variable {P:Program} {Γ:Env} {o:Oper}
end ops
section laws
variable {M:Ms} {P:Program} {n:Nat} {N R:Po} {X:Nat→Po} {ops:Array Oper} {k k0:Nat} {hr:Hp} {AL:List Al} {L:Array Bool} {Γ:Env} {w:World} {h:Hp} {w0 wi:World} {h0:Hp} {B:List Bx} {Rs:List Rw} {F:List (Hp→Prop)} {Ml:List Nat}
end laws
section zone
variable {w0 w w':World} {h0 h h':Hp} {B:List Bx} {R:List Rw} {F:List (Hp→Prop)}
end zone
section ret
variable {P:Program} {n:Nat} {Γ:Env} {w:World} {h:Hp} {w0 wz:World} {h0 hz:Hp} {B:List Bx} {Rs:List Rw} {F:List (Hp→Prop)}
end ret
section call
variable {M:Ms} {P:Program} {n:Nat} {N R:Po} {X:Nat→Po} {ops:Array Oper} {k0:Nat} {hr:Hp} {AL:List Al} {L:Array Bool} {Γ:Env} {w:World} {h:Hp} {w0:World} {h0:Hp} {B:List Bx} {Rs:List Rw} {F:List (Hp→Prop)}
end call
theorem getD_mem {α:Type}{l:List α}{i:Nat}{d:α}(h:i<l.length):l.getD i d∈l:=by
  rw[List.getD_eq_getElem?_getD,List.getElem?_eq_getElem h];exact List.getElem_mem h
theorem getD_over {α:Type}{l:List α}{i:Nat}{d:α}(h:l.length≤i):l.getD i d=d:=by
  rw[List.getD_eq_getElem?_getD,List.getElem?_eq_none h];rfl
theorem lq_get {k:Nat}{l:List Rat}(h:∀ q∈l,LQ k q)(hk:1≤k)(j:Nat):LQ k (l.getD j 0):=by
  rw[List.getD_eq_getElem?_getD];cases hh:l[j]? with
  | none=>exact lq0 hk
  | some q=>exact h q (List.mem_of_getElem? hh)
def knownN:List Lay:=[⟨2,[[((1:Int):Rat),((-1:Int):Rat)]],[((0:Int):Rat)]⟩]
theorem knownChk:chkq knownN=0:=by
  have hF:Fine knownN 0:=⟨⟨by decide,by decide,fun i hi=>(by obtain rfl:i=0:=Nat.lt_one_iff.1 hi;rfl)⟩,by decide,rfl,fun _=>by decide,fun h=>absurd h kD⟩;have hK:Kd knownN 0:=⟨by decide,by decide⟩
  unfold chkq
  rw[if_pos ⟨by decide,by decide⟩]
  have e:chkFrom knownN 0 (0+1)=0:=by
    unfold chkFrom
    rw[if_pos hF,if_pos hK];rfl
  exact e
theorem knownSz (i:Nat):LaySz (knownN.getD i lay0):=by
  rcases Nat.eq_zero_or_pos i with h|h
  · subst h
    refine ⟨by decide,fun i=>?_,by decide,fun i j=>?_,lq_get (by intro q hq;have:q=((0:Int):Rat):=List.mem_singleton.1 hq;rw[this];exact LQ.lit kD) oM,by decide,by decide⟩
    · cases i with
      | zero=>decide
      | succ i=>exact Nat.zero_le _
    · cases i with
      | zero=>exact lq_get (by intro q hq;rcases List.mem_cons.1 hq with rfl|hq;exact LQ.lit kD;rw[List.mem_singleton.1 hq];exact LQ.lit kD) oM j
      | succ i=>exact lq0 oM
  · obtain ⟨k,rfl⟩:∃ k,i=k+1:=⟨i-1,by omega⟩
    exact lay0_sz
theorem knownE (a:Int):ansE knownN [(a:Rat),((2:Int):Rat)]=0:=ansE0 knownChk rfl
theorem knownL1:ansL knownN [((1:Int):Rat),((2:Int):Rat)]=[0]:=by rw[ansL0 (xs:=[((1:Int):Rat),((2:Int):Rat)]) knownChk rfl];decide +kernel
theorem knownL5:ansL knownN [((5:Int):Rat),((2:Int):Rat)]=[3]:=by rw[ansL0 (xs:=[((5:Int):Rat),((2:Int):Rat)]) knownChk rfl];decide +kernel
theorem lKnown30  (w:World)(h:Hp)(g:G w h)(tb:Tab h):CV 32 #[] w h (.bool true):=by
 have hs:=((sS g).aB tb);have hk1:(ansL knownN ([((1:Int):Rat),((2:Int):Rat)]:List Rat)).length=1:=by rw[knownL1];rfl
 have hk5:(ansL knownN ([((5:Int):Rat),((2:Int):Rat)]:List Rat)).length=1:=by rw[knownL5];rfl
 refine go Tryz.func32 [] rfl (cSL (lL hs [.v 0 qF] (lNS (lC 6 hs (fOf 1 oM oM _ _ hs.g) ?_))));rintro _ w1 h2 hs rfl;refine lC 7 hs (fOf (-1) oM oM _ _ hs.g) ?_;rintro _ w3 h4 hs rfl;refine lR 8 55 2 ([.bool (ineg ((1:Int):Rat).num),uV (lo (iabs ((1:Int):Rat).num)),.string (hi (iabs ((1:Int):Rat).num)),uV (lo (qd ((1:Int):Rat))),.string (hi (qd ((1:Int):Rat))),.bool (ineg ((-1:Int):Rat).num),uV (lo (iabs ((-1:Int):Rat).num)),.string (hi (iabs ((-1:Int):Rat).num)),uV (lo (qd ((-1:Int):Rat))),.string (hi (qd ((-1:Int):Rat)))]) hs (fun b5 w6 h7 hs=>?_);replace hs:=hs.aS (SlO.of_flat (sz:=5) (f:=qc) (d:=0) (b:=b5) (o:=0) (l:=([((1:Int):Rat),((-1:Int):Rat)]:List Rat)) (fun _=>rfl) hs.f.1);refine lR 9 30 1 ([qS (sB b5) 2 2]) hs (fun za _ _ hs=>?_);replace hs:=hs.aS (SlO.of_flat (sz:=1) (f:=vc) (d:=undef) (b:=za) (o:=0) (l:=([qS (sB b5) 2 2]:List Value)) (fun _=>rfl) hs.f.1);refine lC 10 hs (fOf 0 oM oM _ _ hs.g) ?_;rintro _ _ _ hs rfl;refine lR 11 55 1 (qc ((0:Int):Rat)) hs (fun zb _ _ hs=>?_);replace hs:=hs.aS (SlO.of_flat (sz:=5) (f:=qc) (d:=0) (b:=zb) (o:=0) (l:=([((0:Int):Rat)]:List Rat)) (fun _=>rfl) hs.f.1);refine lL hs [.v 12 (.agg #[iV 2,qS (sB za) 1 1,qS (sB zb) 1 1])] (lR 13 144 1 ([iV 2,qS (sB za) 1 1,qS (sB zb) 1 1]) hs (fun zc _ _ hs=>?_));replace hs:=hs.aS (SlO.of_flat (sz:=3) (f:=lvc) (d:=lvd) (b:=zc) (o:=0) (l:=([(2,qS (sB za) 1 1,qS (sB zb) 1 1)]:List LV)) (fun _=>rfl) hs.f.1);replace hs:=hs.add (K:=Nn ([(2,qS (sB za) 1 1,qS (sB zb) 1 1)]:List LV) knownN) (NetL.snoc NetL.nil ⟨rfl,⟨_,_,([qS (sB b5) 2 2]:List Value),rfl,nR _,hs.f.q.1,QVs.snoc QVs.nil ⟨_,_,rfl,nR _,hs.f.q.r.1⟩⟩,⟨_,_,rfl,nR _,hs.f.r.1⟩⟩);refine lL hs [.v 14 (.agg #[qS (sB zc) 1 1])] (lA 1 74 ([sZ]) hs (fun b27 _ _ hs=>lP 0 0 ([qS (sB zc) 1 1]) hs (fun _ hs=>lN (cQ (cR 8 [] mixed hs al_nil ?_)))));refine eO 0 16 [(0,0,1)] (.agg #[qS (sB zc) 1 1]) hs (eC 1 17 hs (fun _ _ hs=>fOf 1 oM oM _ _ hs.g) ?_);rintro _ _ _ _ _ hs rfl;refine eC 2 18 hs (fun _ _ hs=>fOf 2 oM oM _ _ hs.g) ?_;rintro _ _ _ _ _ hs rfl;refine eR 3 19 55 2 ([.bool (ineg ((1:Int):Rat).num),uV (lo (iabs ((1:Int):Rat).num)),.string (hi (iabs ((1:Int):Rat).num)),uV (lo (qd ((1:Int):Rat))),.string (hi (qd ((1:Int):Rat))),.bool (ineg ((2:Int):Rat).num),uV (lo (iabs ((2:Int):Rat).num)),.string (hi (iabs ((2:Int):Rat).num)),uV (lo (qd ((2:Int):Rat))),.string (hi (qd ((2:Int):Rat)))]) hs (fun zg _ _ hs=>?_);replace hs:=hs.aS (SlO.of_flat (sz:=5) (f:=qc) (d:=0) (b:=zg) (o:=0) (l:=([((1:Int):Rat),((2:Int):Rat)]:List Rat)) (fun _=>rfl) hs.f.1);refine eC 4 20 hs (fun _ _ hs=>nAnswer (sB zc) 1 ([(2,qS (sB za) 1 1,qS (sB zb) 1 1)]:List LV) knownN kD (fun i _=>(knownSz i).len) (sB zg) 2 ([((1:Int):Rat),((2:Int):Rat)]:List Rat) (nR _) (fun _ h2=>netB (chk_net3 knownChk) knownSz h2 (lq_get (by intro q hq;simp only[List.mem_cons,List.not_mem_nil,or_false] at hq;rcases hq with rfl|rfl<;>exact LQ.lit kD) oM)) _ _ hs.g hs.f.r.2.1 hs.f.r.1 hs.f.1 hs.f.q.q.r.2.1) ?_;rintro _ _ _ _ _ hs ⟨Aa1,ca1,rfl,hca1,hAa1⟩;replace hs:=hs.aS hAa1;refine eV 5 15 (.tuple #[qS Aa1 ((ansL knownN ([((1:Int):Rat),((2:Int):Rat)]:List Rat)).length) ca1,iV (ansE knownN ([((1:Int):Rat),((2:Int):Rat)]:List Rat))]) (eV 6 21 (qS Aa1 ((ansL knownN ([((1:Int):Rat),((2:Int):Rat)]:List Rat)).length) ca1) (eV 7 22 (iV (ansE knownN ([((1:Int):Rat),((2:Int):Rat)]:List Rat))) (eD0 hs (fun _ _ hs=>tV 8 2 (qS Aa1 ((ansL knownN ([((1:Int):Rat),((2:Int):Rat)]:List Rat)).length) ca1) (tV 9 3 (iV (ansE knownN ([((1:Int):Rat),((2:Int):Rat)]:List Rat))) (tN (cQ (cR 8 [] mixed hs al_nil ?_))))))));refine eO 0 24 [(0,0,1)] (.agg #[qS (sB zc) 1 1]) hs (eC 1 25 hs (fun _ _ hs=>fOf 5 oM oM _ _ hs.g) ?_);rintro _ _ _ _ _ hs rfl;refine eC 2 26 hs (fun _ _ hs=>fOf 2 oM oM _ _ hs.g) ?_;rintro _ _ _ _ _ hs rfl;refine eR 3 27 55 2 ([.bool (ineg ((5:Int):Rat).num),uV (lo (iabs ((5:Int):Rat).num)),.string (hi (iabs ((5:Int):Rat).num)),uV (lo (qd ((5:Int):Rat))),.string (hi (qd ((5:Int):Rat))),.bool (ineg ((2:Int):Rat).num),uV (lo (iabs ((2:Int):Rat).num)),.string (hi (iabs ((2:Int):Rat).num)),uV (lo (qd ((2:Int):Rat))),.string (hi (qd ((2:Int):Rat)))]) hs (fun zi _ _ hs=>?_);replace hs:=hs.aS (SlO.of_flat (sz:=5) (f:=qc) (d:=0) (b:=zi) (o:=0) (l:=([((5:Int):Rat),((2:Int):Rat)]:List Rat)) (fun _=>rfl) hs.f.1);refine eC 4 28 hs (fun _ _ hs=>nAnswer (sB zc) 1 ([(2,qS (sB za) 1 1,qS (sB zb) 1 1)]:List LV) knownN kD (fun i _=>(knownSz i).len) (sB zi) 2 ([((5:Int):Rat),((2:Int):Rat)]:List Rat) (nR _) (fun _ h2=>netB (chk_net3 knownChk) knownSz h2 (lq_get (by intro q hq;simp only[List.mem_cons,List.not_mem_nil,or_false] at hq;rcases hq with rfl|rfl<;>exact LQ.lit kD) oM)) _ _ hs.g hs.f.q.r.1 hs.f.q.2.1 hs.f.1 hs.f.q.q.q.r.1) ?_;rintro _ _ _ _ _ hs ⟨Aa5,ca5,rfl,hca5,hAa5⟩;replace hs:=hs.aS hAa5;refine eV 5 23 (.tuple #[qS Aa5 ((ansL knownN ([((5:Int):Rat),((2:Int):Rat)]:List Rat)).length) ca5,iV (ansE knownN ([((5:Int):Rat),((2:Int):Rat)]:List Rat))]) (eV 6 29 (qS Aa5 ((ansL knownN ([((5:Int):Rat),((2:Int):Rat)]:List Rat)).length) ca5) (eV 7 30 (iV (ansE knownN ([((5:Int):Rat),((2:Int):Rat)]:List Rat))) (eD0 hs (fun _ _ hs=>tV 8 4 (qS Aa5 ((ansL knownN ([((5:Int):Rat),((2:Int):Rat)]:List Rat)).length) ca5) (tV 9 5 (iV (ansE knownN ([((5:Int):Rat),((2:Int):Rat)]:List Rat))) (tNS (lL hs [.m 31 3] ?_)))))));have zd:((ansE knownN ([((1:Int):Rat),((2:Int):Rat)]:List Rat):Int) == (0:Int))=true:=by rw[knownE];rfl
 have phb57:=eq_of_beq zd;refine lB 32 zd (lL hs [.m 33 32,.m 34 2,.v 35 (nV ((ansL knownN ([((1:Int):Rat),((2:Int):Rat)]:List Rat)).length))] ?_);have ze:((((ansL knownN ([((1:Int):Rat),((2:Int):Rat)]:List Rat)).length:Nat):Int) == (1:Int))=true:=by rw[hk1];rfl
 have phb58:=eq_of_beq ze;refine lB 36 ze (lL hs [.v 37 qT,.m 38 37,.m 39 2] (lX 40 Aa1 ((ansL knownN ([((1:Int):Rat),((2:Int):Rat)]:List Rat)).length) ca1 5 0 0 ((hs.f.r.2.1).ok oM) ?_));refine lH 41 (qv ((ansL knownN ([((1:Int):Rat),((2:Int):Rat)]:List Rat)).getD 0 0)) hs ((hs.f.r.2.1).el 0 oM) (lC 42 hs (hIs ((ansL knownN ([((1:Int):Rat),((2:Int):Rat)]:List Rat)).getD 0 0) 0 1 (by rw[knownL1];exact ⟨by decide +kernel,by decide +kernel⟩) kD kD kD kD kD _ _ hs.g) ?_);rintro _ _ _ hs rfl;have zj:(sameQ ((ansL knownN ([((1:Int):Rat),((2:Int):Rat)]:List Rat)).getD 0 0) (mkR 0 1))=true:=by rw[knownL1];decide +kernel
 rw[zj];refine lL hs [.v 43 qT,.m 44 43,.m 45 5] ?_;have zf:((ansE knownN ([((5:Int):Rat),((2:Int):Rat)]:List Rat):Int) == (0:Int))=true:=by rw[knownE];rfl
 have phb62:=eq_of_beq zf;refine lB 46 zf (lL hs [.v 47 qT,.m 48 47,.m 49 4] (lX 50 Aa5 ((ansL knownN ([((5:Int):Rat),((2:Int):Rat)]:List Rat)).length) ca5 5 0 0 ((hs.f.1).ok oM) ?_));refine lH 51 (qv ((ansL knownN ([((5:Int):Rat),((2:Int):Rat)]:List Rat)).getD 0 0)) hs ((hs.f.1).el 0 oM) (lC 52 hs (hIs ((ansL knownN ([((5:Int):Rat),((2:Int):Rat)]:List Rat)).getD 0 0) 3 1 (by rw[knownL5];exact ⟨by decide +kernel,by decide +kernel⟩) kD kD kD kD kD _ _ hs.g) ?_);rintro _ _ _ hs rfl;have zk:(sameQ ((ansL knownN ([((5:Int):Rat),((2:Int):Rat)]:List Rat)).getD 0 0) (mkR 3 1))=true:=by rw[knownL5];decide +kernel
 rw[zk];refine lL hs [.v 53 qT,.m 0 53] (lN (cTo [(0,qT)] ?_));exact kX (hs.ret [] qT rfl)
section lent
variable {M:Ms} {P:Program} {n:Nat} {N R:Po} {X:Nat→Po} {ops:Array Oper} {k0:Nat} {hr:Hp} {AL:List Al} {L:Array Bool} {Γ:Env} {w:World} {h:Hp} {w0:World} {h0:Hp} {B:List Bx} {Rs:List Rw} {F:List (Hp→Prop)}
end lent
structure GrN (d:Nat→Nat) (bl:List Nat) (us:List LV) (pt:Nat→List Value) (n:Nat) (zs:List Lay):Prop where
  len:us.length=n
  inc:bl.Pairwise (· < ·)
  bln:bl.length=npos d n
  kd:∀ k,k<n→(us.getD k lvd).1=(zs.getD k lay0).k
  ptl:∀ k,k<n→(pt k).length=d (k+1)
  row:∀ k,k<n→∀ j,j<d (k+1)→∃ cc,d k≤cc∧(pt k).getD j undef=.slice (some ⟨bl.getD (npos d k+j) 0,0,none⟩) (d k) cc
  b:∀ k,k<n→∃ cc,d (k+1)≤cc∧(us.getD k lvd).2.2=.slice (some ⟨bl.getD (npos d k+d (k+1)) 0,0,none⟩) (d (k+1)) cc
structure GB1 (ls:List Lay) (xs top:List Rat):Prop where
  bar:∀ t,t<ls.length→∀ j,LQ 10500000 ((barq ls xs top ls.length t).getD j 0)
  su:∀ k,k<ls.length→∀ j,LQ 21000 (sumr (ls.getD k lay0) (outq ls xs k) j)
  x:∀ k,k<ls.length→∀ j,LQ 42000 ((outq ls xs k).getD j 0)
structure LayB (K:Nat) (L:Lay):Prop where
  w:∀ i j,LQ K ((L.W.getD i []).getD j 0)
  b:∀ j,LQ K (L.B.getD j 0)
def b4:Nat→Nat
  | 0=>18139
  | t+1=>4*b4 t+72569
theorem mk_s4 {ls:List Lay}{i m o kd:Int}(hl:ls.length+1=(netSizes i m o).length)(h:∀ k,k<ls.length→LayMk (ls.getD k lay0) (pick (kindAt kd k) 3+1:Nat) ((netSizes i m o).getD (k+1) 0) ((netSizes i m o).getD k 0)) :
    0<ls.length∧ls.length≤2∧(∀ k,LayS4 (ls.getD k lay0))∧∀ k,k<ls.length→0<(ls.getD k lay0).W.length∧0<(ls.getD k lay0).B.length:=by
  have hs:=sizes_len i m o;refine ⟨by omega,by omega,fun k=>?_,fun k hk=>?_⟩
  · rcases Nat.lt_or_ge k ls.length with hk|hk
    · have L:=h k hk
      have s1:=sizes_le i m o k;have s2:=sizes_le i m o (k+1);refine ⟨by rw[L.rows];exact s2,fun a=>?_,by rw[L.bl];exact s2,fun a b=>?_,lq_get (fun q hq=>?_) oM⟩
      · rw[List.getD_eq_getElem?_getD]
        cases hh:(ls.getD k lay0).W[a]? with
        | none=>exact Nat.zero_le _
        | some r=>have:=(L.row r (List.mem_of_getElem? hh)).1;show r.length≤4;omega
      · have hr:∀ r,(ls.getD k lay0).W[a]?=some r→LQ 1 (r.getD b 0):=fun r hh=>lq_get (fun q hq=>by obtain ⟨z,rfl⟩:=(L.row r (List.mem_of_getElem? hh)).2 q hq;exact LQ.small z) oM b
        rw[List.getD_eq_getElem?_getD (l:=(ls.getD k lay0).W)];cases hh:(ls.getD k lay0).W[a]? with
        | none=>exact lq0 oM
        | some r=>exact hr r hh
      · obtain ⟨z,rfl⟩:=L.bs q hq;exact LQ.small z
    · rw[List.getD_eq_getElem?_getD,List.getElem?_eq_none hk]
      exact ⟨by decide,fun i=>by simp[lay0],by decide,fun i j=>by simp[lay0];exact lq0 oM,fun i=>by simp[lay0];exact lq0 oM⟩
  · have L:=h k hk
    have:=sizes_pos i m o (k+1) oM;exact ⟨by rw[L.rows];exact this,by rw[L.bl];exact this⟩
theorem i64s_drop {zs:List Int}(h:I64s zs)(n:Nat):I64s (zs.drop n):=fun k=>by rw[getD_drop_];exact h _
def rowsq (zs:List Int)(n w:Nat):List (List Rat):=(List.range n).map fun k=>rowq (zs.drop (min zs.length (k*w))) w
structure Drw (xss:List (List Rat)) (w:Nat):Prop where
  len:xss.length≤4
  wd:∀ i,i<xss.length→(xss.getD i []).length=w
  w1:1≤w
  w4:w≤4
  lq:∀ i j,LQ 1 ((xss.getD i []).getD j 0)
theorem drw_rows (zs:List Int){n w:Nat}(h:n≤4)(h1:1≤w)(h4:w≤4):Drw (rowsq zs n w) w:=by
  have hl:(rowsq zs n w).length=n:=by simp[rowsq]
  refine ⟨by omega,fun i hi=>?_,h1,h4,fun i j=>?_⟩
  · unfold rowsq;rw[getD_mapR oM];exact rowq_len _ _
  · by_cases hi:i<n
    · unfold rowsq;rw[getD_mapR hi];exact rowq_lq _ _ j
    · rw[getD_outR (l:=rowsq zs n w) oM];exact lq0 oM
theorem hRows (A:Option Addr)(c:Nat)(zs:List Int)(n m:Nat)(hn:n≤1000)(hm:m≤1000)(hl:zs.length≤9223372036854775807)(hz:I64s zs)(hc:zs.length≤c)(w:World)(h:Hp)(g:G w h)(hA:Si A zs h):CR 71 #[.slice A zs.length c,nV n,nV m] w h (fun v h1=>∃ A c,∃ us:List Value,v=.slice A us.length c∧us.length≤c∧Sv A us h1∧RVs h1 us (rowsq zs n m)):=by
 have hs:=((sS g).aS hA);refine go Tryz.func71 [(0,qS A zs.length c),(1,nV n),(2,nV m)] rfl (cSL (lL hs [.v 6 (sZ)] (lNS (lL hs [.v 7 (sZ)] (lN (cQ (cSL (lL hs [.v 8 (iV 0)] (lN (kZ ?_))))))))));replace hs:=hs.nil 28 1;refine cTo [(0,qS A zs.length c),(1,nV n),(2,nV m),(6,sZ),(8,iV 0),(7,sZ)] ?_;replace hs:=hs.aV (RVs.nil);refine CG.loop (fun μ_ Γ w_=>∃ (k:Nat) (sA:Option Addr) (sc:Nat) (us:List Value) (h_:Hp),μ_=n-k∧Γ=[(0,qS A zs.length c),(1,nV n),(2,nV m),(6,sZ),(8,nV k),(7,qS sA ((us).length) sc)]∧SS w h w_ h_ [] [⟨28,1,sA,sc,(us).length,(us).flatMap vc⟩] [Ru us (rowsq zs k m),Si A zs]∧k≤n) _ ⟨0,none,0,[],h,rfl,rfl,hs.to _ _,Nat.zero_le _⟩ ?_;rintro _ _ w1 ⟨k,sA,sc,us,h2,hm3,rfl,hs,hk⟩;have hlU:=(hs.f.1).len;have hlr:(rowsq zs k m).length=k:=by simp[rowsq]
 refine cQ (cSL (lL hs [.m 9 8,.m 10 1] ?_));cases hb4:(decide ((k:Int)<(n:Int)))
 ·
  have phb4:=oF hb4;refine lB 11 hb4 (lN (cIF (CG.exit ?_)))
  show CG _ _ _ _ _ _ _ _
  refine cSL (lL hs [.m 27 7,.m 6 27] (lN (kX ?_)));have hkq:k=n:=by omega
  subst hkq;obtain ⟨h5,hs,hc6⟩:=hs.pubr 0 (A:=sA) (c:=sc) (l:=us) (f:=vc) (ty:=28) (sz:=1) undef (fun _=>rfl);exact hs.ret [] (qS sA ((us).length) sc) (⟨_,_,us,rfl,hc6,hs.f.1,hs.f.2.1⟩)
 have phb4:=oT hb4;refine lB 11 hb4 (lN (cIT (cK (cQ (kZ (kQ ?_))))));have hkm:k*m≤1000*1000:=Nat.mul_le_mul oM oM;have hkm2:((k*m:Nat):Int)=(k:Nat)*(m:Nat):=Int.natCast_mul k m;refine lL hs [.m 14 7,.m 15 0,.m 16 0,.v 17 (nV zs.length),.m 18 8,.m 19 2] (lIn 20 ((k:Nat)*(m:Nat)) (k*m) ?_);refine lV 21 (iV (min (zs.length:Int) ((k*m:Nat):Int))) ?_ (hr:=rint (n:=(if ((k*m:Nat):Int)<(zs.length:Int) then ((k*m:Nat):Int) else (zs.length:Int))) kR (by simp only[imin2]));refine lF 22 A zs.length c 1 (min (zs.length:Int) ((k*m:Nat):Int)) (min zs.length (k*m)) (lL hs [.m 23 2] (lC 24 hs ((by have q_:=hRow (if c=(min zs.length (k*m)) then A else A.map (·.add ((min zs.length (k*m))*1))) (c-(min zs.length (k*m))) (zs.drop ((min zs.length (k*m)))) m oM (by rw[List.length_drop];omega) (i64s_drop hz _) _ _ hs.g ((hs.f.2.1).drop ((min zs.length (k*m))) c hc);rw[List.length_drop] at q_;exact q_)) ?_));rintro _ w8 h9 hs ⟨Ar,cr,tr,rfl,hcr,hAr,hTr⟩;replace hs:=((hs.aS hAr).aT hTr);refine lR 25 28 1 ([qS Ar tr.length cr]) hs (fun za _ _ hs=>lY 26 0 28 1 sc sA us vc (qS Ar tr.length cr:Value) 24 za (sZ) hs hs.f.1 (fun zb zc _ zd hs=>lL hs [.m 7 26] (lN (kQ (lL hs [.m 12 8] (lIn 13 ((k:Nat)+1) (k+1) ?_))))));refine lL hs [.m 8 13] (lD ?_);intro a_ ka;replace hs:=(hs.tl.tl.tl.tl.add (K:=Ru (us++[(qS Ar tr.length cr:Value)]) (rowsq zs (k+1) m)) (by unfold rowsq;rw[List.range_succ,List.map_append];exact (hs.f.r.2.1).snoc ⟨_,_,tr,rfl,hcr,hs.f.r.1,hs.f.2.1⟩));refine ⟨_,_,?_,⟨k+1,zb,zc,us++[(qS Ar tr.length cr:Value)],zd,rfl,rfl,hs.to _ _,oM⟩,ka.to _ kR⟩
 omega
theorem lDrawn (A1:Option Addr)(c1:Nat)(z1:List Int)(A2:Option Addr)(c2:Nat)(z2:List Int)(hl1:z1.length≤9223372036854775807)(hz1:I64s z1)(hl2:z2.length≤9223372036854775807)(hz2:I64s z2)(hc1:z1.length≤c1)(hc2:z2.length≤c2)(i_ o_ rows odd:Int)(w:World)(h:Hp)(g:G w h)(hA1:Si A1 z1 h)(hA2:Si A2 z2 h):CR 27 #[.slice A1 z1.length c1,.slice A2 z2.length c2,iV i_,iV o_,iV rows,iV odd] w h (fun v h1=>∃ A c,∃ ux:List Value,∃ xss B d,∃ uy:List Value,∃ yss,v=.tuple #[.slice A ux.length c,.slice B uy.length d]∧ux.length≤c∧uy.length≤d∧Sv A ux h1∧RVs h1 ux xss∧Sv B uy h1∧RVs h1 uy yss∧∃ wx wy,Drw xss wx∧Drw yss wy):=by
 have hs:=(((sS g).aS hA1).aS hA2);refine go Tryz.func27 [(0,qS A1 z1.length c1),(1,qS A2 z2.length c2),(2,iV i_),(3,iV o_),(4,iV rows),(5,iV odd)] rfl (cSL (lL hs [.v 12 (sZ),.v 13 (sZ)] (lNS (lL hs [.m 16 4] (lC 17 hs (hPick (rows) 4 oM oM _ _ hs.g) ?_)))));rintro _ w2 h3 hs rfl;have lp1:=pick_lt (rows) 4 oM;refine lL hs [.m 4 17] (lNS (lL hs [.m 18 0,.m 19 4,.m 20 2] (lC 21 hs (hPick (i_) 3 oM oM _ _ hs.g) ?_)));rintro _ w5 h6 hs rfl;have lp4:=pick_lt (i_) 3 oM;refine lIn 22 ((pick (i_) 3:Nat)+1) ((pick (i_) 3)+1) (lC 23 hs (hRows A1 c1 z1 (pick (rows) 4) ((pick (i_) 3)+1:Nat) oM oM hl1 hz1 hc1 _ _ hs.g hs.f.2.1) ?_);rintro _ w7 h8 hs ⟨Ar1,cr1,ur1,rfl,hcr1,hAr1,hUr1⟩;replace hs:=((hs.aS hAr1).aV hUr1);refine lL hs [.m 14 23] (lNS (lL hs [.m 24 1,.m 25 4,.m 26 3] (lC 27 hs (hPick (o_) 3 oM oM _ _ hs.g) ?_)));rintro _ _ _ hs rfl;have lp9:=pick_lt (o_) 3 oM;refine lIn 28 ((pick (o_) 3:Nat)+1) ((pick (o_) 3)+1) (lC 29 hs (hRows A2 c2 z2 (pick (rows) 4) ((pick (o_) 3)+1:Nat) oM oM hl2 hz2 hc2 _ _ hs.g hs.f.r.1) ?_);rintro _ _ _ hs ⟨Ar2,cr2,ur2,rfl,hcr2,hAr2,hUr2⟩;replace hs:=((hs.aS hAr2).aV hUr2);refine lL hs [.m 15 29] (lN (cQ (cSL (lL hs [.m 30 5] (lC 31 hs (hPick (odd) 12 oM oM _ _ hs.g) ?_)))));rintro _ _ _ hs rfl;have lp14:=pick_lt (odd) 12 oM;refine lN (kZ (cSL ?_));cases za:(((pick (odd) 12:Nat):Int) == (0:Int))
 ·
  have zd:=neOfBeq za;refine lB 33 za (lL hs [.m 32 33] (lN (cIF (cSL ?_))));cases zb:(((pick (odd) 12:Nat):Int) == (1:Int))
  ·
   have ze:=neOfBeq zb;refine lB 41 zb (lL hs [.m 40 41] (lN (cIF (cSL ?_))));cases zc:(((pick (odd) 12:Nat):Int) == (2:Int))
   ·
    have zf:=neOfBeq zc;exact lB 50 zc (lL hs [.m 49 50] (lN (cIF (cK (cSL (lL hs [.m 57 14,.m 58 15,.m 12 57,.m 13 58] (lN (kX (hs.ret [] (.tuple #[qS Ar1 ur1.length cr1,qS Ar2 ur2.length cr2]) (⟨_,_,ur1,_,_,_,ur2,_,rfl,hcr1,hcr2,hs.f.r.2.1,hs.f.r.1,hs.f.2.1,hs.f.1,_,_,drw_rows _ oM oM oM,drw_rows _ oM oM oM⟩))))))))))
   have zf:=eq_of_beq zc;refine lB 50 zc (lL hs [.m 49 50] (lN (cIT (kQ (lL hs [.m 51 0,.m 52 4,.m 53 2] (lC 54 hs (hPick (i_) 3 oM oM _ _ hs.g) ?_))))));rintro _ _ _ hs rfl;have lp20:=pick_lt (i_) 3 oM;refine lIn 55 ((pick (i_) 3:Nat)+2) ((pick (i_) 3)+2) (lC 56 hs (hRows A1 c1 z1 (pick (rows) 4) ((pick (i_) 3)+2:Nat) oM oM hl1 hz1 hc1 _ _ hs.g hs.f.q.2.1) ?_);rintro _ _ _ hs ⟨Ar3,cr3,ur3,rfl,hcr3,hAr3,hUr3⟩;replace hs:=((hs.aS hAr3).aV hUr3);exact lL hs [.m 14 56] (lNS (lL hs [.m 57 14,.m 58 15,.m 12 57,.m 13 58] (lN (kX (hs.ret [] (.tuple #[qS Ar3 ur3.length cr3,qS Ar2 ur2.length cr2]) (⟨_,_,ur3,_,_,_,ur2,_,rfl,hcr3,hcr2,hs.f.2.1,hs.f.1,hs.f.r.2.1,hs.f.r.1,_,_,drw_rows _ oM oM oM,drw_rows _ oM oM oM⟩))))))
  have ze:=eq_of_beq zb;refine lB 41 zb (lL hs [.m 40 41] (lN (cIT (kQ (lL hs [.m 42 1,.m 43 4] (lIn 44 ((pick (rows) 4:Nat)+1) ((pick (rows) 4)+1) ?_))))));refine lL hs [.m 45 3] (lC 46 hs (hPick (o_) 3 oM oM _ _ hs.g) ?_);rintro _ _ _ hs rfl;have lp25:=pick_lt (o_) 3 oM;refine lIn 47 ((pick (o_) 3:Nat)+1) ((pick (o_) 3)+1) (lC 48 hs (hRows A2 c2 z2 ((pick (rows) 4)+1:Nat) ((pick (o_) 3)+1:Nat) oM oM hl2 hz2 hc2 _ _ hs.g hs.f.q.1) ?_);rintro _ _ _ hs ⟨Ar4,cr4,ur4,rfl,hcr4,hAr4,hUr4⟩;replace hs:=((hs.aS hAr4).aV hUr4);exact lL hs [.m 15 48] (lNS (lL hs [.m 57 14,.m 58 15,.m 12 57,.m 13 58] (lN (kX (hs.ret [] (.tuple #[qS Ar1 ur1.length cr1,qS Ar4 ur4.length cr4]) (⟨_,_,ur1,_,_,_,ur4,_,rfl,hcr1,hcr4,hs.f.q.2.1,hs.f.q.1,hs.f.2.1,hs.f.1,_,_,drw_rows _ oM oM oM,drw_rows _ oM oM oM⟩))))))
 have zd:=eq_of_beq za;refine lB 33 za (lL hs [.m 32 33] (lN (cIT (kQ (lL hs [.m 34 1,.m 35 4,.m 36 3] (lC 37 hs (hPick (o_) 3 oM oM _ _ hs.g) ?_))))));rintro _ _ _ hs rfl;have lp30:=pick_lt (o_) 3 oM;refine lIn 38 ((pick (o_) 3:Nat)+2) ((pick (o_) 3)+2) (lC 39 hs (hRows A2 c2 z2 (pick (rows) 4) ((pick (o_) 3)+2:Nat) oM oM hl2 hz2 hc2 _ _ hs.g hs.f.q.1) ?_);rintro _ _ _ hs ⟨Ar5,cr5,ur5,rfl,hcr5,hAr5,hUr5⟩;replace hs:=((hs.aS hAr5).aV hUr5);exact lL hs [.m 15 39] (lNS (lL hs [.m 57 14,.m 58 15,.m 12 57,.m 13 58] (lN (kX (hs.ret [] (.tuple #[qS Ar1 ur1.length cr1,qS Ar5 ur5.length cr5]) (⟨_,_,ur1,_,_,_,ur5,_,rfl,hcr1,hcr5,hs.f.q.2.1,hs.f.q.1,hs.f.2.1,hs.f.1,_,_,drw_rows _ oM oM oM,drw_rows _ oM oM oM⟩))))))
theorem rNetErrD (A:Option Addr)(cap:Nat)(ts:List LV)(ls:List Lay)(hn:ls.length≤1000000)(hZ:∀ i,LaySz (ls.getD i lay0))(X:Option Addr)(cX:Nat)(ux:List Value)(xss:List (List Rat))(Y:Option Addr)(cY:Nat)(uy:List Value)(yss:List (List Rat))(wx wy:Nat)(hDx:Drw xss wx)(hDy:Drw yss wy)(w:World)(h:Hp)(g:G w h)(hA:Sl A ts h)(hN:RNetL h ts ls)(hX:Sv X ux h)(hU:RVs h ux xss)(hY:Sv Y uy h)(hV:RVs h uy yss):CV 31 #[.agg #[.slice A ts.length cap],.slice X ux.length cX,.slice Y uy.length cY] w h (iV (netE ls xss.length wx yss.length wy)) :=
  rNetErr A cap ts ls hn (fun i _=>(hZ i).len) X cX ux xss Y cY uy yss wx wy hDx.wd hDy.wd (by have:=hDx.len;omega) hDx.w1 (by have:=hDx.w4;omega) w h g hA hN hX hU hY hV
structure Stp where
  op:Int
  a:Int
  b:Int
  n:Int
  q:Rat
def stp0:Stp:=⟨0,0,0,0,0⟩
abbrev gP (l:List Stp)(k:Nat):Stp:=l.getD k stp0
def stc (s:Stp):List Value:=[.int .i64 s.op,.int .i64 s.a,.int .i64 s.b,.int .i64 s.n,.bool (ineg s.q.num),.int .u64 (lo (iabs s.q.num)),.string (hi (iabs s.q.num)),.int .u64 (lo (qd s.q)),.string (hi (qd s.q))]
def ari (op:Int):Int :=
  if op=1∨op=2 then 0 else if op=7∨op=8∨op=9∨op=10∨op=11 then 1
  else if op=3∨op=4∨op=5∨op=6∨op=12∨op=13 then 2 else -1
theorem ari_cases (op:Int):(ari op=0∧(op=1∨op=2))∨(ari op=1∧(op=7∨op=8∨op=9∨op=10∨op=11))∨(ari op=2∧(op=3∨op=4∨op=5∨op=6∨op=12∨op=13))∨(ari op = -1∧(op<1∨13<op)):=by
  unfold ari;split
  · exact .inl ⟨rfl,by assumption⟩
  · split
    · exact .inr (.inl ⟨rfl,by assumption⟩)
    · split
      · exact .inr (.inr (.inl ⟨rfl,by assumption⟩))
      · exact .inr (.inr (.inr ⟨rfl,by omega⟩))
def Refers (i:Nat)(tt:Int)(used:Prop):Prop:=(used→0≤tt∧tt<i)∧(¬used→tt=0)
def Formed (inp:Int)(i:Nat)(s:Stp):Prop :=
  0≤ari s.op∧Refers i s.a (0<ari s.op)∧Refers i s.b (1<ari s.op)∧(s.op≠1→s.q.num=0) ∧
  (s.op=2→0≤s.n∧s.n<inp)∧(s.op=8 → -12≤s.n∧s.n≤12)∧(s.op≠2→s.op≠8→s.n=0)
instance (i:Nat) (tt:Int) (u:Prop) [Decidable u]:Decidable (Refers i tt u):=by unfold Refers;infer_instance
instance (inp:Int) (i:Nat) (s:Stp):Decidable (Formed inp i s):=by unfold Formed;infer_instance
def weightS (s:Stp)(hv:List Int):Int :=
  if ari s.op=0 then 1 else if ari s.op=2 then hv.getD s.a.toNat 0+hv.getD s.b.toNat 0
  else if s.op=11 then 2*hv.getD s.a.toNat 0 else if s.op=8 then max (max s.n (0-s.n)) 1*hv.getD s.a.toNat 0 else hv.getD s.a.toNat 0
def goS (inp:Int):List Stp→List Int→Int
  | [],_=>0
  | s::r,hv=>if Formed inp hv.length s then (if 65536<weightS s hv then 18 else goS inp r (hv++[weightS s hv])) else 2
def OutsOk (n:Nat)(os:List Int):Prop:=∀ i,i<os.length→0≤os.getD i 0∧os.getD i 0<n
instance (n:Nat) (os:List Int):Decidable (OutsOk n os):=by unfold OutsOk;infer_instance
def chkTp (inp:Int)(l:List Stp)(os:List Int):Int :=
  if 0≤inp∧inp≤1000∧l.length≤65536∧os.length≤300 then (if goS inp l []=0 then (if OutsOk l.length os then 0 else 1) else goS inp l []) else 5
theorem drop_cons' {l:List Stp}{k:Nat}(h:k<l.length):l.drop k=l.getD k stp0::l.drop (k+1):=by
  rw[List.drop_eq_getElem_cons h];simp[h]
theorem goS_bad {inp:Int}{l:List Stp}{hv:List Int}{k:Nat}(hk:k<l.length)(hl:hv.length=k)(h:¬Formed inp k (l.getD k stp0)):goS inp (l.drop k) hv=2:=by
  rw[drop_cons' hk,goS,hl,if_neg h]
theorem goS_over {inp:Int}{l:List Stp}{hv:List Int}{k:Nat}(hk:k<l.length)(hl:hv.length=k)(h:Formed inp k (l.getD k stp0))(hw:65536<weightS (l.getD k stp0) hv):goS inp (l.drop k) hv=18:=by
  rw[drop_cons' hk,goS,hl,if_pos h,if_pos hw]
theorem goS_step {inp:Int}{l:List Stp}{hv:List Int}{k:Nat}(hk:k<l.length)(hl:hv.length=k)(h:Formed inp k (l.getD k stp0))(hw:¬65536<weightS (l.getD k stp0) hv):goS inp (l.drop k) hv=goS inp (l.drop (k+1)) (hv++[weightS (l.getD k stp0) hv]):=by
  rw[drop_cons' hk,goS,hl,if_pos h,if_neg hw]
theorem getD_take {l:List Int}{k j:Nat}(h:j<k):(l.take k).getD j 0=l.getD j 0:=by
  rw[List.getD_eq_getElem?_getD,List.getElem?_take_of_lt h,←List.getD_eq_getElem?_getD]
theorem weight_take {inp:Int}{s:Stp}{L:List Int}{k:Nat}(h:Formed inp k s):weightS s (L.take k)=weightS s L:=by
  obtain ⟨h0,⟨ha,_⟩,⟨hb,_⟩,_⟩:=h
  unfold weightS
  rcases ari_cases s.op with ⟨e,_⟩|⟨e,_⟩|⟨e,_⟩|⟨e,_⟩
  · rw[e];rfl
  · have:=ha oM
    rw[e,getD_take oM];simp
  · have:=ha oM;have:=hb oM
    rw[e,getD_take oM,getD_take oM]
  · omega
theorem take_set_snoc {L:List Int}{k:Nat}{x:Int}(h:k<L.length):(L.set k x).take (k+1)=L.take k++[x]:=by
  rw[List.take_add_one,List.take_set_of_le (Nat.le_refl k)]
  simp[h]
def Wts (L:List Int)(k:Nat):Prop:=∀ j,j<k→1≤L.getD j 0∧L.getD j 0≤65536
theorem Wts.weight {inp:Int}{s:Stp}{L:List Int}{k:Nat}(w:Wts L k)(h:Formed inp k s):1≤weightS s L∧weightS s L≤786432:=by
  obtain ⟨h0,⟨ha,_⟩,⟨hb,_⟩,_,_,h8,_⟩:=h
  unfold weightS
  rcases ari_cases s.op with ⟨e,_⟩|⟨e,_⟩|⟨e,_⟩|⟨e,_⟩
  · rw[e,if_pos rfl];decide
  · have h1:=ha oM
    have h2:=w s.a.toNat oM;rw[e,if_neg kD,if_neg kD]
    split
    · omega
    · split
      · have h3:=h8 aM
        have h4:1≤max (max s.n (0-s.n)) 1∧max (max s.n (0-s.n)) 1≤12:=by omega
        have h5:1*1≤max (max s.n (0-s.n)) 1*L.getD s.a.toNat 0:=Int.mul_le_mul h4.1 h2.1 oM oM;have h6:max (max s.n (0-s.n)) 1*L.getD s.a.toNat 0≤12*65536:=Int.mul_le_mul h4.2 h2.2 oM oM
        omega
      · omega
  · have h1:=ha oM
    have h2:=w s.a.toNat oM;have h3:=hb oM;have h4:=w s.b.toNat oM;rw[e,if_neg kD,if_pos rfl];omega
  · omega
theorem Wts.pow {inp:Int}{s:Stp}{L:List Int}{k:Nat}(w:Wts L k)(h:Formed inp k s)(h8:s.op=8):1≤max (max s.n (0-s.n)) 1*L.getD s.a.toNat 0∧max (max s.n (0-s.n)) 1*L.getD s.a.toNat 0≤786432:=by
  have:=w.weight h
  unfold weightS ari at this
  simp only[h8] at this
  simpa using this
theorem Wts.snoc {L:List Int}{k:Nat}{x:Int}(w:Wts L k)(hk:k<L.length)(h1:1≤x)(h2:x≤65536):Wts (L.set k x) (k+1):=fun j hj=>by
  by_cases e:j=k
  · subst e;rw[List.getD_eq_getElem?_getD,List.getElem?_set_self hk];exact ⟨h1,h2⟩
  · rw[List.getD_eq_getElem?_getD,List.getElem?_set_ne (Ne.symm e),←List.getD_eq_getElem?_getD];exact w j oM
theorem chkTp_shape {inp:Int}{l:List Stp}{os:List Int}(h:¬(0≤inp∧inp≤1000∧l.length≤65536∧os.length≤300)):chkTp inp l os=5:=by unfold chkTp;rw[if_neg h]
theorem chkTp_go {inp:Int}{l:List Stp}{os:List Int}(h:0≤inp∧inp≤1000∧l.length≤65536∧os.length≤300)(hg:goS inp l []≠0):chkTp inp l os=goS inp l []:=by unfold chkTp;rw[if_pos h,if_neg hg]
theorem chkTp_arg {inp:Int}{l:List Stp}{os:List Int}(h:0≤inp∧inp≤1000∧l.length≤65536∧os.length≤300)(hg:goS inp l []=0)(ho:¬OutsOk l.length os):chkTp inp l os=1:=by unfold chkTp;rw[if_pos h,if_pos hg,if_neg ho]
theorem chkTp_ok {inp:Int}{l:List Stp}{os:List Int}(h:0≤inp∧inp≤1000∧l.length≤65536∧os.length≤300)(hg:goS inp l []=0)(ho:OutsOk l.length os):chkTp inp l os=0:=by unfold chkTp;rw[if_pos h,if_pos hg,if_pos ho]
structure RSt where
  op:Int
  a:Int
  b:Int
  n:Int
  t:RT
def rst0:RSt:=⟨0,0,0,0,rqd⟩
def rsc (s:RSt):List Value:=[.int .i64 s.op,.int .i64 s.a,.int .i64 s.b,.int .i64 s.n,.bool s.t.1,s.t.2.1,s.t.2.2]
structure OSt where
  op:Int
  a:Int
  b:Int
  n:Int
  q:Rat
  has:Bool
def ost0:OSt:=⟨0,0,0,0,0,false⟩
def odn (o:OSt):Nat:=if o.has then o.q.den else 0
def OSt.stp (o:OSt):Stp:=⟨o.op,o.a,o.b,o.n,o.q⟩
abbrev gO (s:List OSt)(k:Nat):OSt:=s.getD k ost0
abbrev mO (s:List OSt):List Stp:=s.map OSt.stp
theorem odn_pos {o:OSt}:0<(lim (odn o)).length↔o.has=true:=by
  rw[lim_pos];unfold odn;have:=o.q.den_pos;cases o.has<;>simp;omega
theorem odn_has {o:OSt}(h:o.has=true):odn o=o.q.den:=by unfold odn;rw[h];rfl
structure RS1 (h:Hp) (t:RSt) (o:OSt):Prop where
  op:t.op=o.op
  a:t.a=o.a
  b:t.b=o.b
  n:t.n=o.n
  q:RP h (rtv t.t) o.q.num (odn o)
  z:o.has=false→o.q=0
theorem RS1.gw {h h':Hp}{t:RSt}{o:OSt}(x:RS1 h t o)(u:Gw h h'):RS1 h' t o:=⟨x.op,x.a,x.b,x.n,x.q.gw u,x.z⟩
theorem RS1.opn {h:Hp}{t:RSt}{o:OSt}(x:RS1 h t o):∃ A c D d,Value.agg #[.int .i64 t.op,.int .i64 t.a,.int .i64 t.b,.int .i64 t.n,.bool t.t.1,t.t.2.1,t.t.2.2]=.agg #[.int .i64 o.op,.int .i64 o.a,.int .i64 o.b,.int .i64 o.n,.bool (ineg o.q.num),.slice A (lim (iabs o.q.num)).length c,.slice D (lim (odn o)).length d]∧(lim (iabs o.q.num)).length≤c∧(lim (odn o)).length≤d∧SlO 1 u32c 0 h A (lim (iabs o.q.num))∧SlO 1 u32c 0 h D (lim (odn o)):=by
  obtain ⟨A,c,D,d,e,h1,h2,h3,h4⟩:=x.q
  unfold rtv at e
  injection e with e
  simp only[Array.mk.injEq,List.cons.injEq,and_true] at e
  obtain ⟨e1,e2,e3⟩:=e
  injection e1 with e1
  refine ⟨A,c,D,d,?_,h1,h2,h3,h4⟩;rw[x.op,x.a,x.b,x.n,e1,e2,e3]
structure RSs (h:Hp) (ts:List RSt) (os:List OSt):Prop where
  len:ts.length=os.length
  at_:∀ i,i<os.length→RS1 h (ts.getD i rst0) (os.getD i ost0)
theorem RSs.gw {h h':Hp}{ts:List RSt}{os:List OSt}(x:RSs h ts os)(u:Gw h h'):RSs h' ts os:=⟨x.len,fun i hi=>(x.at_ i hi).gw u⟩
theorem RSs.nil {h:Hp}:RSs h [] []:=⟨rfl,fun i hi=>by simp at hi⟩
theorem RSs.snoc {h:Hp}{ts:List RSt}{os:List OSt}{t:RSt}{o:OSt}(x:RSs h ts os)(y:RS1 h t o):RSs h (ts++[t]) (os++[o]):=by
  refine ⟨by simp[x.len],fun i hi=>?_⟩;rw[getD_snoc,getD_snoc,x.len];rw[List.length_append,List.length_singleton] at hi
  by_cases e:i<os.length
  · rw[if_pos e,if_pos e];exact x.at_ i e
  · rw[if_neg e,if_neg e,if_pos oM,if_pos oM];exact y
structure OSm (o:OSt):Prop where
  op : -1000≤o.op∧o.op≤1000
  a : -1000≤o.a∧o.a≤1000
  b : -1000≤o.b∧o.b≤1000
  n : -1000≤o.n∧o.n≤1000
  q:LQ 1 o.q
theorem stp_getD {os:List OSt}{i:Nat}(h:i<os.length):(os.map OSt.stp).getD i stp0=(os.getD i ost0).stp:=by
  simp[h]
theorem Wts.app {L:List Int}{k:Nat}{x:Int}(w:Wts L k)(hk:L.length=k)(h1:1≤x)(h2:x≤65536):Wts (L++[x]) (k+1):=fun j hj=>by
  by_cases e:j<k
  · rw[List.getD_eq_getElem?_getD,List.getElem?_append_left oM,←List.getD_eq_getElem?_getD];exact w j e
  · rw[List.getD_eq_getElem?_getD,List.getElem?_append_right oM]
    have:j-L.length=0:=by omega
    rw[this];exact ⟨h1,h2⟩
theorem weigh_is {inp:Int}{s:Stp}{L:List Int}{k:Nat}(w:Wts L k)(h:Formed inp k s):weightS s L=if ari s.op=0 then 1 else if ari s.op=2 then L.getD s.a.toNat 0+L.getD s.b.toNat 0 else if s.op=11 then 2*L.getD s.a.toNat 0 else if s.op=8∧s.n≠0 then L.getD s.a.toNat 0*(if s.n<0 then 0-s.n else s.n) else L.getD s.a.toNat 0:=by
  unfold weightS
  by_cases h8:s.op=8
  · have:ari s.op=1:=by rw[h8];decide
    rw[this,h8]
    by_cases hn:s.n=0
    · rw[hn,show max (max (0:Int) (0-0)) 1=1 by decide];simp
    · by_cases h0:s.n<0
      · have:max (max s.n (0-s.n)) 1=0-s.n:=by omega
        rw[this];simp[hn,h0,Int.mul_comm]
      · have:max (max s.n (0-s.n)) 1=s.n:=by omega
        rw[this];simp[hn,h0,Int.mul_comm]
  · simp[h8]
theorem weigh_o {inp:Int}{o:OSt}{L:List Int}{k:Nat}(w:Wts L k)(h:Formed inp k o.stp):weightS o.stp L=if ari o.op=0 then 1 else if ari o.op=2 then L.getD o.a.toNat 0+L.getD o.b.toNat 0 else if o.op=11 then 2*L.getD o.a.toNat 0 else if o.op=8∧o.n≠0 then L.getD o.a.toNat 0*(if o.n<0 then 0-o.n else o.n) else L.getD o.a.toNat 0:=weigh_is w h
section
variable {inp:Int} {i:Nat} {s:Stp} (h:Formed inp i s)
include h
end
def okq (op n:Int)(a b:Rat):Prop:=(op=6→b≠0)∧(op=8→n<0→a≠0)
instance (op n:Int) (a b:Rat):Decidable (okq op n a b):=by unfold okq;infer_instance
def knk (op:Int)(a b:Rat):Prop:=(op=9∨op=10)∧a=0∨(op=12∨op=13)∧a=b
instance (op:Int) (a b:Rat):Decidable (knk op a b):=by unfold knk;infer_instance
theorem tArity (op:Int)(w:World)(h:Hp)(g:G w h):CV 54 #[iV op] w h (iV (ari op)):=by
 have hs:=sS g;refine go Tryz.func54 [(0,iV op)] rfl (cSL (lL hs [.v 2 (iV 0)] (lN (cQ (cSL (lL hs [.m 3 0] (lN (kZ (cQ (cSL ?_))))))))));cases hb1:((op:Int) == (1:Int))
 ·
  have phb1:=neOfBeq hb1;refine lB 5 hb1 (lL hs [.m 4 5] (lN (cIF (kQ ?_))));cases hb2:((op:Int) == (2:Int))
  ·
   have phb2:=neOfBeq hb2;refine lB 6 hb2 (lL hs [.m 4 6] (lN (cIF (cQ (cSL ?_)))));cases hb3:((op:Int) == (7:Int))
   ·
    have phb3:=neOfBeq hb3;refine lB 8 hb3 (lL hs [.m 7 8] (lN (cIF (cSL ?_))));cases hb4:((op:Int) == (8:Int))
    ·
     have phb4:=neOfBeq hb4;refine lB 9 hb4 (lL hs [.m 7 9] (lN (cIF (cSL ?_))));cases hb5:((op:Int) == (9:Int))
     ·
      have phb5:=neOfBeq hb5;refine lB 10 hb5 (lL hs [.m 7 10] (lN (cIF (cSL ?_))));cases hb6:((op:Int) == (10:Int))
      ·
       have phb6:=neOfBeq hb6;refine lB 11 hb6 (lL hs [.m 7 11] (lN (cIF (kQ ?_))));cases hb7:((op:Int) == (11:Int))
       ·
        have phb7:=neOfBeq hb7;refine lB 12 hb7 (lL hs [.m 7 12] (lN (cIF (cQ (cSL ?_)))));cases hb8:((op:Int) == (3:Int))
        ·
         have phb8:=neOfBeq hb8;refine lB 14 hb8 (lL hs [.m 13 14] (lN (cIF (cSL ?_))));cases hb9:((op:Int) == (4:Int))
         ·
          have phb9:=neOfBeq hb9;refine lB 15 hb9 (lL hs [.m 13 15] (lN (cIF (cSL ?_))));cases za:((op:Int) == (5:Int))
          ·
           have ze:=neOfBeq za;refine lB 16 za (lL hs [.m 13 16] (lN (cIF (cSL ?_))));cases zb:((op:Int) == (6:Int))
           ·
            have zf:=neOfBeq zb;refine lB 17 zb (lL hs [.m 13 17] (lN (cIF (cSL ?_))));cases zc:((op:Int) == (12:Int))
            ·
             have zg:=neOfBeq zc;refine lB 18 zc (lL hs [.m 13 18] (lN (cIF (kQ ?_))));cases zd:((op:Int) == (13:Int))
             ·
              have zi:=neOfBeq zd;exact lB 19 zd (lL hs [.m 13 19] (lN (cIF (cK (cSL (lL hs [.v 2 (iV (-1))] (lN (kX (hs.ret [] (iV (-1)) (congrArg (Value.int .i64) (by have:=ari_cases op;omega)))))))))))
             have zi:=eq_of_beq zd;exact lB 19 zd (lL hs [.m 13 19] (lN (cIT (cSL (lL hs [.v 2 (iV 2)] (lN (kX (hs.ret [] (iV 2) (congrArg (Value.int .i64) (by have:=ari_cases op;omega))))))))))
            have zg:=eq_of_beq zc;exact lB 18 zc (lL hs [.m 13 18] (lN (cIT (cK (cIT (cSL (lL hs [.v 2 (iV 2)] (lN (kX (hs.ret [] (iV 2) (congrArg (Value.int .i64) (by have:=ari_cases op;omega))))))))))))
           have zf:=eq_of_beq zb;exact lB 17 zb (lL hs [.m 13 17] (lN (cIT (cK (cIT (cSL (lL hs [.v 2 (iV 2)] (lN (kX (hs.ret [] (iV 2) (congrArg (Value.int .i64) (by have:=ari_cases op;omega))))))))))))
          have ze:=eq_of_beq za;exact lB 16 za (lL hs [.m 13 16] (lN (cIT (cK (cIT (cSL (lL hs [.v 2 (iV 2)] (lN (kX (hs.ret [] (iV 2) (congrArg (Value.int .i64) (by have:=ari_cases op;omega))))))))))))
         have phb9:=eq_of_beq hb9;exact lB 15 hb9 (lL hs [.m 13 15] (lN (cIT (cK (cIT (cSL (lL hs [.v 2 (iV 2)] (lN (kX (hs.ret [] (iV 2) (congrArg (Value.int .i64) (by have:=ari_cases op;omega))))))))))))
        have phb8:=eq_of_beq hb8;exact lB 14 hb8 (lL hs [.m 13 14] (lN (cIT (cK (cIT (cSL (lL hs [.v 2 (iV 2)] (lN (kX (hs.ret [] (iV 2) (congrArg (Value.int .i64) (by have:=ari_cases op;omega))))))))))))
       have phb7:=eq_of_beq hb7;exact lB 12 hb7 (lL hs [.m 7 12] (lN (cIT (cSL (lL hs [.v 2 (iV 1)] (lN (kX (hs.ret [] (iV 1) (congrArg (Value.int .i64) (by have:=ari_cases op;omega))))))))))
      have phb6:=eq_of_beq hb6;exact lB 11 hb6 (lL hs [.m 7 11] (lN (cIT (cK (cIT (cSL (lL hs [.v 2 (iV 1)] (lN (kX (hs.ret [] (iV 1) (congrArg (Value.int .i64) (by have:=ari_cases op;omega))))))))))))
     have phb5:=eq_of_beq hb5;exact lB 10 hb5 (lL hs [.m 7 10] (lN (cIT (cK (cIT (cSL (lL hs [.v 2 (iV 1)] (lN (kX (hs.ret [] (iV 1) (congrArg (Value.int .i64) (by have:=ari_cases op;omega))))))))))))
    have phb4:=eq_of_beq hb4;exact lB 9 hb4 (lL hs [.m 7 9] (lN (cIT (cK (cIT (cSL (lL hs [.v 2 (iV 1)] (lN (kX (hs.ret [] (iV 1) (congrArg (Value.int .i64) (by have:=ari_cases op;omega))))))))))))
   have phb3:=eq_of_beq hb3;exact lB 8 hb3 (lL hs [.m 7 8] (lN (cIT (cK (cIT (cSL (lL hs [.v 2 (iV 1)] (lN (kX (hs.ret [] (iV 1) (congrArg (Value.int .i64) (by have:=ari_cases op;omega))))))))))))
  have phb2:=eq_of_beq hb2;exact lB 6 hb2 (lL hs [.m 4 6] (lN (cIT (cSL (lL hs [.v 2 (iV 0)] (lN (kX (hs.ret [] (iV 0) (congrArg (Value.int .i64) (by have:=ari_cases op;omega))))))))))
 have phb1:=eq_of_beq hb1;exact lB 5 hb1 (lL hs [.m 4 5] (lN (cIT (cK (cIT (cSL (lL hs [.v 2 (iV 0)] (lN (kX (hs.ret [] (iV 0) (congrArg (Value.int .i64) (by have:=ari_cases op;omega))))))))))))
theorem tRefers_true (tt:Int)(i rb:Nat)(w:World)(h:Hp)(g:G w h)(ho:Own w rb 3 [nV i])(hj:h[rb]?=some junk):Calls Tryz.prog 150 #[iV tt,.bool true,pB rb] w (RetM rb w h fun v w' _=>v=.bool (decide (0≤(tt:Int)∧(tt:Int)<(i:Nat)))∧Own w' rb 3 [nV i]):=by
 have hmo:UpM [rb] w h w h:=UpM.refl g;obtain ⟨wz,hz,hs⟩:=SS.at_ g ho hj;refine go Tryz.func150 [(0,iV tt),(1,qT),(2,pB rb)] rfl (cSL (lL hs [.v 5 qF] (lN (cQ (cSL (lL hs [.m 6 1] (lN (cIT (cSL (lL hs [.m 7 0] ?_))))))))));cases hb1:(decide ((0:Int)≤(tt:Int)))
 ·
  have phb1:=oF hb1;refine lB 8 hb1 (lL hs [.m 9 8] (lG 10 ?_));exact lG 11 (lG 12 (lL hs [.v 13 qF,.m 5 13] (lN (kX (hs.retM hmo [] qF ⟨congrArg Value.bool (decide_eq_false oM).symm,hs.own 0⟩)))))
 have phb1:=oT hb1;refine lB 8 hb1 (lL hs [.m 9 8,.m 10 0,.o 11 (nV i) 0 0 1] ?_);cases hb2:(decide ((tt:Int)<(i:Int)))
 ·
  have phb2:=oF hb2;exact lB 12 hb2 (lL hs [.v 13 qF,.m 5 13] (lN (kX (hs.retM hmo [] qF ⟨congrArg Value.bool (decide_eq_false oM).symm,hs.own 0⟩))))
 have phb2:=oT hb2;exact lB 12 hb2 (lL hs [.v 13 qT,.m 5 13] (lN (kX (hs.retM hmo [] qT ⟨congrArg Value.bool (decide_eq_true oM).symm,hs.own 0⟩))))
theorem tRefers_false (tt:Int)(i rb:Nat)(w:World)(h:Hp)(g:G w h)(ho:Own w rb 3 [nV i])(hj:h[rb]?=some junk):Calls Tryz.prog 150 #[iV tt,.bool false,pB rb] w (RetM rb w h fun v w' _=>v=.bool (decide ((tt:Int)=0))∧Own w' rb 3 [nV i]):=by
 have hmo:UpM [rb] w h w h:=UpM.refl g;obtain ⟨wz,hz,hs⟩:=SS.at_ g ho hj;refine go Tryz.func150 [(0,iV tt),(1,qF),(2,pB rb)] rfl (cSL (lL hs [.v 5 qF] (lN (cQ (cSL (lL hs [.m 6 1] (lN (cIF (cK (cSL (lL hs [.m 14 0] ?_)))))))))));cases hb1:((tt:Int) == (0:Int))
 ·
  have phb1:=neOfBeq hb1;exact lB 15 hb1 (lL hs [.m 5 15] (lN (kX (hs.retM hmo [] qF ⟨congrArg Value.bool (decide_eq_false oM).symm,hs.own 0⟩))))
 have phb1:=eq_of_beq hb1;exact lB 15 hb1 (lL hs [.m 5 15] (lN (kX (hs.retM hmo [] qT ⟨congrArg Value.bool (decide_eq_true oM).symm,hs.own 0⟩))))
theorem tFormed (inp:Int)(A:Option Addr)(c:Nat)(l:List Stp)(O:Option Addr)(d:Nat)(os:List Int)(i:Nat)(hik:i<l.length)(hl:l.length≤65536)(hq:LQ 1 (l.getD i stp0).q)(w:World)(h:Hp)(g:G w h)(hA:SlO 9 stc stp0 h A l)(hO:Si O os h):CV 93 #[.agg #[iV inp,.slice A ((l).length) c,.slice O ((os).length) d],nV i] w h (.bool (decide (Formed inp i (l.getD i stp0)))):=by
 have hs:=(((sS g).aS hA).aS hO);have hsg:(l.getD i stp0).q.num.sign=0↔(l.getD i stp0).q.num=0:=Int.sign_eq_zero_iff_zero;refine go Tryz.func93 [(0,.agg #[iV inp,qS A ((l).length) c,qS O ((os).length) d]),(1,nV i)] rfl (cSL (lA 2 36 ([iV inp,qS A ((l).length) c,qS O ((os).length) d]) hs (fun b1 w2 h3 hs=>lA 3 3 ([nV i]) hs (fun b4 w5 h6 hs=>lL hs [.v 4 qF] (lNS (lL hs [.v 8 (qP b1 1),.o 9 (qS A ((l).length) c) 1 1 1,.o 10 (nV i) 0 0 1] (lX 11 A ((l).length) c 9 (i:Nat) i ((hs.f.2.1).ok oM) ?_)))))));refine lH 12 (.agg #[iV ((l.getD i stp0).op),iV ((l.getD i stp0).a),iV ((l.getD i stp0).b),iV ((l.getD i stp0).n),.bool (ineg ((l.getD i stp0).q).num),uV (lo (iabs ((l.getD i stp0).q).num)),.string (hi (iabs ((l.getD i stp0).q).num)),uV (lo (qd ((l.getD i stp0).q))),.string (hi (qd ((l.getD i stp0).q)))]) hs ((hs.f.2.1).el i oM) (lA 5 110 ([iV 0,iV 0,iV 0,iV 0,qF,uV 0,eS,uV 0,eS]) hs (fun b7 w8 h9 hs=>lP 0 0 ([iV ((l.getD i stp0).op),iV ((l.getD i stp0).a),iV ((l.getD i stp0).b),iV ((l.getD i stp0).n),.bool (ineg ((l.getD i stp0).q).num),uV (lo (iabs ((l.getD i stp0).q).num)),.string (hi (iabs ((l.getD i stp0).q).num)),uV (lo (qd ((l.getD i stp0).q))),.string (hi (qd ((l.getD i stp0).q)))]) hs (fun _ hs=>lNS (lL hs [.v 13 (pB b7),.o 14 (iV ((l.getD i stp0).op)) 0 0 1] (lC 15 hs (tArity (l.getD i stp0).op _ _ hs.g) ?_)))));rintro _ _ _ hs rfl;have hac:=ari_cases (l.getD i stp0).op;refine lL hs [.m 6 15] (lN (cQ (cSL (lL hs [.m 16 6] ?_))));cases za:(decide ((ari (l.getD i stp0).op:Int)<(0:Int)))
 ·
  have zA:=oF za;refine lB 17 za ?_;refine lN (cIF (cK (cSL (lL hs [.v 18 (.func (.func 150) #[] #[pB b4]),.m 7 18] (lN (cQ (CG.join (fun Γ w_=>∃ (zs:Bool) (h_:Hp),Γ=[(2,pB b1),(4,qF),(5,pB b7),(45,.bool zs)]∧SS w h w_ h_ [⟨b7,110,[iV ((l.getD i stp0).op),iV ((l.getD i stp0).a),iV ((l.getD i stp0).b),iV ((l.getD i stp0).n),.bool (ineg ((l.getD i stp0).q).num),uV (lo (iabs ((l.getD i stp0).q).num)),.string (hi (iabs ((l.getD i stp0).q).num)),uV (lo (qd ((l.getD i stp0).q))),.string (hi (qd ((l.getD i stp0).q)))]⟩,⟨b4,3,[nV i]⟩,⟨b1,36,[iV inp,qS A ((l).length) c,qS O ((os).length) d]⟩] [] [Si O os,fun h_=>SlO 9 stc stp0 h_ A l]∧(zs=true→¬(((0<ari (l.getD i stp0).op→0≤(l.getD i stp0).a∧(l.getD i stp0).a<i)∧(¬0<ari (l.getD i stp0).op→(l.getD i stp0).a=0))∧((1<ari (l.getD i stp0).op→0≤(l.getD i stp0).b∧(l.getD i stp0).b<i)∧(¬1<ari (l.getD i stp0).op→(l.getD i stp0).b=0))∧((l.getD i stp0).op≠1→(l.getD i stp0).q.num=0)))∧(zs=false→(((0<ari (l.getD i stp0).op→0≤(l.getD i stp0).a∧(l.getD i stp0).a<i)∧(¬0<ari (l.getD i stp0).op→(l.getD i stp0).a=0))∧((1<ari (l.getD i stp0).op→0≤(l.getD i stp0).b∧(l.getD i stp0).b<i)∧(¬1<ari (l.getD i stp0).op→(l.getD i stp0).b=0))∧((l.getD i stp0).op≠1→(l.getD i stp0).q.num=0)))) ?_ ?_)))))))
  ·
   refine kQ (lL hs [.m 19 7,.v 20 (qP b7 1),.o 21 (iV ((l.getD i stp0).a)) 0 1 1,.m 22 6] ?_);cases zb:(decide ((0:Int)<(ari (l.getD i stp0).op:Int)))
   ·
    have zB:=oF zb;refine lB 23 zb (lCm 24 (tRefers_false ((l.getD i stp0).a) i b4 _ _ hs.g (hs.own 1) (hs.jk 1)) ?_);rintro _ _ yk u18 ⟨rfl,hO15⟩;replace hs:=(hs.stepM 1 u18 hO15).to [⟨b7,110,[iV ((l.getD i stp0).op),iV ((l.getD i stp0).a),iV ((l.getD i stp0).b),iV ((l.getD i stp0).n),.bool (ineg ((l.getD i stp0).q).num),uV (lo (iabs ((l.getD i stp0).q).num)),.string (hi (iabs ((l.getD i stp0).q).num)),uV (lo (qd ((l.getD i stp0).q))),.string (hi (qd ((l.getD i stp0).q)))]⟩,⟨b4,3,[nV i]⟩,⟨b1,36,[iV inp,qS A ((l).length) c,qS O ((os).length) d]⟩] [];cases zt:(decide (((l.getD i stp0).a:Int)=0))
    ·
     have zD:=oF zt;refine lL hs [.v 25 qT,.m 26 25] (lG 27 ?_);refine lG 28 (lG 29 (lG 30 (lG 31 (lG 32 (lG 33 (lL hs [.v 34 qT,.m 35 34] (lG 36 ?_)))))));refine lG 37 (lG 38 (lG 39 (lG 40 (lG 41 (lG 42 (lG 43 (lG 44 (lL hs [.v 45 qT] (lD ?_)))))))));intro a_ ka;exact ⟨_,⟨true,yk,rfl,hs.to _ _,(fun _=>by omega),(fun h_=>absurd h_ kD)⟩,ka.to _ kR⟩
    have zD:=oT zt;refine lL hs [.v 25 qF,.m 26 25,.m 27 7,.v 28 (qP b7 2),.o 29 (iV ((l.getD i stp0).b)) 0 2 1,.m 30 6] ?_;have ⟨yi,phb22⟩:=dF (p:=(1:Int)<(ari (l.getD i stp0).op:Int)) oM;refine lB 31 yi (lCm 32 (tRefers_false ((l.getD i stp0).b) i b4 _ _ hs.g (hs.own 1) (hs.jk 1)) ?_);rintro _ _ yb u26 ⟨rfl,hO23⟩;replace hs:=(hs.stepM 1 u26 hO23).to [⟨b7,110,[iV ((l.getD i stp0).op),iV ((l.getD i stp0).a),iV ((l.getD i stp0).b),iV ((l.getD i stp0).n),.bool (ineg ((l.getD i stp0).q).num),uV (lo (iabs ((l.getD i stp0).q).num)),.string (hi (iabs ((l.getD i stp0).q).num)),uV (lo (qd ((l.getD i stp0).q))),.string (hi (qd ((l.getD i stp0).q)))]⟩,⟨b4,3,[nV i]⟩,⟨b1,36,[iV inp,qS A ((l).length) c,qS O ((os).length) d]⟩] [];cases zu:(decide (((l.getD i stp0).b:Int)=0))
    ·
     have zE:=oF zu;refine lL hs [.v 33 qT,.v 34 qT,.m 35 34] (lG 36 ?_);refine lG 37 (lG 38 (lG 39 (lG 40 (lG 41 (lG 42 (lG 43 (lG 44 (lL hs [.v 45 qT] (lD ?_)))))))));intro a_ ka;exact ⟨_,⟨true,yb,rfl,hs.to _ _,(fun _=>by omega),(fun h_=>absurd h_ kD)⟩,ka.to _ kR⟩
    have zE:=oT zu;refine lL hs [.v 33 qF,.v 34 qF,.m 35 34,.v 36 (pB b7),.o 37 (iV ((l.getD i stp0).op)) 0 0 1] ?_;cases zc:(((l.getD i stp0).op:Int) != (1:Int))
    ·
     have zF:=eqOfBne zc;refine lB 38 zc (lL hs [.m 39 38] (lG 40 ?_));refine lG 41 (lG 42 (lG 43 (lL hs [.v 44 qF,.v 45 qF] (lD ?_))));intro a_ ka;exact ⟨_,⟨false,yb,rfl,hs.to _ _,(fun h_=>absurd h_ kD),(fun _=>by omega)⟩,ka.to _ kR⟩
    have zF:=neOfBne zc;refine lB 38 zc (lL hs [.m 39 38,.v 40 (qP b7 4),.o 41 (qv ((l.getD i stp0).q)) 0 4 5] (lC 42 hs (fSign (l.getD i stp0).q (hq.mono oM) _ _ hs.g) ?_));rintro _ _ yc hs rfl;cases zd:(((l.getD i stp0).q.num.sign:Int) != (0:Int))
    ·
     have zG:=eqOfBne zd;refine lB 43 zd (lL hs [.v 44 qF,.v 45 qF] (lD ?_));intro a_ ka;exact ⟨_,⟨false,yc,rfl,hs.to _ _,(fun h_=>absurd h_ kD),(fun _=>by omega)⟩,ka.to _ kR⟩
    have zG:=neOfBne zd;refine lB 43 zd (lL hs [.v 44 qT,.v 45 qT] (lD ?_));intro a_ ka;exact ⟨_,⟨true,yc,rfl,hs.to _ _,(fun _=>by omega),(fun h_=>absurd h_ kD)⟩,ka.to _ kR⟩
   have zB:=oT zb;refine lB 23 zb (lCm 24 (tRefers_true ((l.getD i stp0).a) i b4 _ _ hs.g (hs.own 1) (hs.jk 1)) ?_);rintro _ _ yl u43 ⟨rfl,hO40⟩;replace hs:=(hs.stepM 1 u43 hO40).to [⟨b7,110,[iV ((l.getD i stp0).op),iV ((l.getD i stp0).a),iV ((l.getD i stp0).b),iV ((l.getD i stp0).n),.bool (ineg ((l.getD i stp0).q).num),uV (lo (iabs ((l.getD i stp0).q).num)),.string (hi (iabs ((l.getD i stp0).q).num)),uV (lo (qd ((l.getD i stp0).q))),.string (hi (qd ((l.getD i stp0).q)))]⟩,⟨b4,3,[nV i]⟩,⟨b1,36,[iV inp,qS A ((l).length) c,qS O ((os).length) d]⟩] [];cases zv:(decide (0≤((l.getD i stp0).a:Int)∧((l.getD i stp0).a:Int)<(i:Nat)))
   ·
    have zH:=oF zv;refine lL hs [.v 25 qT,.m 26 25] (lG 27 ?_);refine lG 28 (lG 29 (lG 30 (lG 31 (lG 32 (lG 33 (lL hs [.v 34 qT,.m 35 34] (lG 36 ?_)))))));refine lG 37 (lG 38 (lG 39 (lG 40 (lG 41 (lG 42 (lG 43 (lG 44 (lL hs [.v 45 qT] (lD ?_)))))))));intro a_ ka;exact ⟨_,⟨true,yl,rfl,hs.to _ _,(fun _=>by omega),(fun h_=>absurd h_ kD)⟩,ka.to _ kR⟩
   have zH:=oT zv;refine lL hs [.v 25 qF,.m 26 25,.m 27 7,.v 28 (qP b7 2),.o 29 (iV ((l.getD i stp0).b)) 0 2 1,.m 30 6] ?_;cases ze:(decide ((1:Int)<(ari (l.getD i stp0).op:Int)))
   ·
    have zI:=oF ze;refine lB 31 ze (lCm 32 (tRefers_false ((l.getD i stp0).b) i b4 _ _ hs.g (hs.own 1) (hs.jk 1)) ?_);rintro _ _ yd u51 ⟨rfl,hO48⟩;replace hs:=(hs.stepM 1 u51 hO48).to [⟨b7,110,[iV ((l.getD i stp0).op),iV ((l.getD i stp0).a),iV ((l.getD i stp0).b),iV ((l.getD i stp0).n),.bool (ineg ((l.getD i stp0).q).num),uV (lo (iabs ((l.getD i stp0).q).num)),.string (hi (iabs ((l.getD i stp0).q).num)),uV (lo (qd ((l.getD i stp0).q))),.string (hi (qd ((l.getD i stp0).q)))]⟩,⟨b4,3,[nV i]⟩,⟨b1,36,[iV inp,qS A ((l).length) c,qS O ((os).length) d]⟩] [];cases zw:(decide (((l.getD i stp0).b:Int)=0))
    ·
     have zJ:=oF zw;refine lL hs [.v 33 qT,.v 34 qT,.m 35 34] (lG 36 ?_);refine lG 37 (lG 38 (lG 39 (lG 40 (lG 41 (lG 42 (lG 43 (lG 44 (lL hs [.v 45 qT] (lD ?_)))))))));intro a_ ka;exact ⟨_,⟨true,yd,rfl,hs.to _ _,(fun _=>by omega),(fun h_=>absurd h_ kD)⟩,ka.to _ kR⟩
    have zJ:=oT zw;refine lL hs [.v 33 qF,.v 34 qF,.m 35 34,.v 36 (pB b7),.o 37 (iV ((l.getD i stp0).op)) 0 0 1] ?_;cases zf:(((l.getD i stp0).op:Int) != (1:Int))
    ·
     have zK:=eqOfBne zf;refine lB 38 zf (lL hs [.m 39 38] (lG 40 ?_));refine lG 41 (lG 42 (lG 43 (lL hs [.v 44 qF,.v 45 qF] (lD ?_))));intro a_ ka;exact ⟨_,⟨false,yd,rfl,hs.to _ _,(fun h_=>absurd h_ kD),(fun _=>by omega)⟩,ka.to _ kR⟩
    have zK:=neOfBne zf;refine lB 38 zf (lL hs [.m 39 38,.v 40 (qP b7 4),.o 41 (qv ((l.getD i stp0).q)) 0 4 5] (lC 42 hs (fSign (l.getD i stp0).q (hq.mono oM) _ _ hs.g) ?_));rintro _ _ ye hs rfl;cases zg:(((l.getD i stp0).q.num.sign:Int) != (0:Int))
    ·
     have zL:=eqOfBne zg;refine lB 43 zg (lL hs [.v 44 qF,.v 45 qF] (lD ?_));intro a_ ka;exact ⟨_,⟨false,ye,rfl,hs.to _ _,(fun h_=>absurd h_ kD),(fun _=>by omega)⟩,ka.to _ kR⟩
    have zL:=neOfBne zg;refine lB 43 zg (lL hs [.v 44 qT,.v 45 qT] (lD ?_));intro a_ ka;exact ⟨_,⟨true,ye,rfl,hs.to _ _,(fun _=>by omega),(fun h_=>absurd h_ kD)⟩,ka.to _ kR⟩
   have zI:=oT ze;refine lB 31 ze (lCm 32 (tRefers_true ((l.getD i stp0).b) i b4 _ _ hs.g (hs.own 1) (hs.jk 1)) ?_);rintro _ _ yf u68 ⟨rfl,hO65⟩;replace hs:=(hs.stepM 1 u68 hO65).to [⟨b7,110,[iV ((l.getD i stp0).op),iV ((l.getD i stp0).a),iV ((l.getD i stp0).b),iV ((l.getD i stp0).n),.bool (ineg ((l.getD i stp0).q).num),uV (lo (iabs ((l.getD i stp0).q).num)),.string (hi (iabs ((l.getD i stp0).q).num)),uV (lo (qd ((l.getD i stp0).q))),.string (hi (qd ((l.getD i stp0).q)))]⟩,⟨b4,3,[nV i]⟩,⟨b1,36,[iV inp,qS A ((l).length) c,qS O ((os).length) d]⟩] [];cases zx:(decide (0≤((l.getD i stp0).b:Int)∧((l.getD i stp0).b:Int)<(i:Nat)))
   ·
    have zM:=oF zx;refine lL hs [.v 33 qT,.v 34 qT,.m 35 34] (lG 36 ?_);refine lG 37 (lG 38 (lG 39 (lG 40 (lG 41 (lG 42 (lG 43 (lG 44 (lL hs [.v 45 qT] (lD ?_)))))))));intro a_ ka;exact ⟨_,⟨true,yf,rfl,hs.to _ _,(fun _=>by omega),(fun h_=>absurd h_ kD)⟩,ka.to _ kR⟩
   have zM:=oT zx;refine lL hs [.v 33 qF,.v 34 qF,.m 35 34,.v 36 (pB b7),.o 37 (iV ((l.getD i stp0).op)) 0 0 1] ?_;cases zi:(((l.getD i stp0).op:Int) != (1:Int))
   ·
    have zN:=eqOfBne zi;refine lB 38 zi (lL hs [.m 39 38] (lG 40 ?_));refine lG 41 (lG 42 (lG 43 (lL hs [.v 44 qF,.v 45 qF] (lD ?_))));intro a_ ka;exact ⟨_,⟨false,yf,rfl,hs.to _ _,(fun h_=>absurd h_ kD),(fun _=>by omega)⟩,ka.to _ kR⟩
   have zN:=neOfBne zi;refine lB 38 zi (lL hs [.m 39 38,.v 40 (qP b7 4),.o 41 (qv ((l.getD i stp0).q)) 0 4 5] (lC 42 hs (fSign (l.getD i stp0).q (hq.mono oM) _ _ hs.g) ?_));rintro _ _ yg hs rfl;cases zj:(((l.getD i stp0).q.num.sign:Int) != (0:Int))
   ·
    have zP:=eqOfBne zj;refine lB 43 zj (lL hs [.v 44 qF,.v 45 qF] (lD ?_));intro a_ ka;exact ⟨_,⟨false,yg,rfl,hs.to _ _,(fun h_=>absurd h_ kD),(fun _=>by omega)⟩,ka.to _ kR⟩
   have zP:=neOfBne zj;refine lB 43 zj (lL hs [.v 44 qT,.v 45 qT] (lD ?_));intro a_ ka;exact ⟨_,⟨true,yg,rfl,hs.to _ _,(fun _=>by omega),(fun h_=>absurd h_ kD)⟩,ka.to _ kR⟩
  rintro _ _ ⟨zs,_,rfl,hs,yj,hF45⟩;cases zk:(zs)
  ·
   try rw[zk] at hs
   try rw[zk]
   refine cIF (cK (cQ (cSL ?_)));have ym:=hF45 aM;refine lL hs [.v 46 (pB b7),.o 47 (iV ((l.getD i stp0).op)) 0 0 1] (lN (kZ (cSL ?_)));cases zl:(((l.getD i stp0).op:Int) == (2:Int))
   ·
    have zQ:=neOfBeq zl;refine lB 49 zl (lL hs [.m 48 49] (lN (cIF (cSL ?_))));cases zm:(((l.getD i stp0).op:Int) == (8:Int))
    ·
     have zR:=neOfBeq zm;refine lB 61 zm (lL hs [.m 60 61] (lN (cIF (cK (cSL (lL hs [.v 70 (qP b7 3),.o 71 (iV ((l.getD i stp0).n)) 0 3 1] ?_))))));cases zn:(((l.getD i stp0).n:Int) == (0:Int))
     ·
      have zS:=neOfBeq zn;exact lB 72 zn (lL hs [.m 4 72] (lN (kX (hs.ret [] qF (congrArg Value.bool (decide_eq_false (by unfold Formed Refers;omega)).symm)))))
     have zS:=eq_of_beq zn;exact lB 72 zn (lL hs [.m 4 72] (lN (kX (hs.ret [] qT (congrArg Value.bool (decide_eq_true (by unfold Formed Refers;omega)).symm)))))
    have zR:=eq_of_beq zm;refine lB 61 zm (lL hs [.m 60 61] (lN (cIT (cSL (lL hs [.v 62 (qP b7 3),.o 63 (iV ((l.getD i stp0).n)) 0 3 1] ?_)))));cases zo:(decide ((-12:Int)≤((l.getD i stp0).n:Int)))
    ·
     have zT:=oF zo;refine lB 64 zo (lL hs [.m 65 64] (lG 66 ?_));exact lG 67 (lG 68 (lL hs [.v 69 qF,.m 4 69] (lN (kX (hs.ret [] qF (congrArg Value.bool (decide_eq_false (by unfold Formed Refers;omega)).symm))))))
    have zT:=oT zo;refine lB 64 zo (lL hs [.m 65 64,.v 66 (qP b7 3),.o 67 (iV ((l.getD i stp0).n)) 0 3 1] ?_);cases zp:(decide (((l.getD i stp0).n:Int)≤(12:Int)))
    ·
     have zU:=oF zp;exact lB 68 zp (lL hs [.v 69 qF,.m 4 69] (lN (kX (hs.ret [] qF (congrArg Value.bool (decide_eq_false (by unfold Formed Refers;omega)).symm)))))
    have zU:=oT zp;exact lB 68 zp (lL hs [.v 69 qT,.m 4 69] (lN (kX (hs.ret [] qT (congrArg Value.bool (decide_eq_true (by unfold Formed Refers;omega)).symm)))))
   have zQ:=eq_of_beq zl;refine lB 49 zl (lL hs [.m 48 49] (lN (cIT (cSL (lL hs [.v 50 (qP b7 3),.o 51 (iV ((l.getD i stp0).n)) 0 3 1] ?_)))));cases zq:(decide ((0:Int)≤((l.getD i stp0).n:Int)))
   ·
    have zW:=oF zq;refine lB 52 zq (lL hs [.m 53 52] (lG 54 ?_));exact lG 55 (lG 56 (lG 57 (lG 58 (lL hs [.v 59 qF,.m 4 59] (lN (kX (hs.ret [] qF (congrArg Value.bool (decide_eq_false (by unfold Formed Refers;omega)).symm))))))))
   have zW:=oT zq;refine lB 52 zq (lL hs [.m 53 52,.v 54 (qP b7 3),.o 55 (iV ((l.getD i stp0).n)) 0 3 1,.v 56 (pB b1),.o 57 (iV inp) 2 0 1] ?_);cases zr:(decide (((l.getD i stp0).n:Int)<(inp:Int)))
   ·
    have ya:=oF zr;exact lB 58 zr (lL hs [.v 59 qF,.m 4 59] (lN (kX (hs.ret [] qF (congrArg Value.bool (decide_eq_false (by unfold Formed Refers;omega)).symm)))))
   have ya:=oT zr;exact lB 58 zr (lL hs [.v 59 qT,.m 4 59] (lN (kX (hs.ret [] qT (congrArg Value.bool (decide_eq_true (by unfold Formed Refers;omega)).symm)))))
  try rw[zk] at hs
  try rw[zk]
  refine cIT (cSL ?_);have ym:=yj aM;exact lL hs [.v 4 qF] (lN (kX (hs.ret [] qF (congrArg Value.bool (decide_eq_false (by unfold Formed Refers;omega)).symm))))
 have zA:=oT za;exact lB 17 za (lN (cIT (cSL (lL hs [.v 4 qF] (lN (kX (hs.ret [] qF (congrArg Value.bool (decide_eq_false (by unfold Formed Refers;omega)).symm))))))))
theorem tWeight (s:Stp)(V:Option Addr)(n c:Nat)(hv:List Int)(hn:hv.length=n)(k:Nat)(inp:Int)(hF:Formed inp k s)(hW:Wts hv k)(hk:k≤hv.length)(w:World)(h:Hp)(g:G w h)(hV:Si V hv h):CV 94 #[.agg #[iV s.op,iV s.a,iV s.b,iV s.n,.bool (ineg s.q.num),uV (lo (iabs s.q.num)),.string (hi (iabs s.q.num)),uV (lo (qd s.q)),.string (hi (qd s.q))],.slice V n c] w h (iV (weightS s hv)):=by
 have hs:=((sS g).aS hV);have hwb:=hW.weight hF;have hpw:=hW.pow hF;obtain ⟨f0,f1,f2,f3,f4,f5,f6⟩:=hF
 unfold Refers at f1 f2
 have hac:=ari_cases s.op;have hwa:=fun h0=>hW s.a.toNat h0
 have hwc:=fun h0=>hW s.b.toNat h0
 refine go Tryz.func94 [(0,.agg #[iV s.op,iV s.a,iV s.b,iV s.n,.bool (ineg s.q.num),uV (lo (iabs s.q.num)),.string (hi (iabs s.q.num)),uV (lo (qd s.q)),.string (hi (qd s.q))]),(1,qS V n c)] rfl (cSL (lA 2 110 ([iV s.op,iV s.a,iV s.b,iV s.n,.bool (ineg s.q.num),uV (lo (iabs s.q.num)),.string (hi (iabs s.q.num)),uV (lo (qd s.q)),.string (hi (qd s.q))]) hs (fun b1 w2 h3 hs=>lL hs [.v 4 (iV 0)] (lN (cQ (cSL (lL hs [.v 5 (pB b1),.o 6 (iV s.op) 0 0 1] (lC 7 hs (tArity s.op _ _ hs.g) ?_))))))));rintro _ w4 h5 hs rfl;refine lN (kZ (cSL ?_));cases hb6:((ari s.op:Int) == (0:Int))
 ·
  have phb6:=neOfBeq hb6;refine lB 9 hb6 (lL hs [.m 8 9] (lN (cIF (cSL ?_))));cases hb7:((ari s.op:Int) == (2:Int))
  ·
   have phb7:=neOfBeq hb7;refine lB 11 hb7 (lL hs [.m 10 11] (lN (cIF (cK (cQ (cSL (lL hs [.v 23 (pB b1),.o 24 (iV s.op) 0 0 1] (lN (kZ (cSL ?_))))))))));cases hb8:((s.op:Int) == (11:Int))
   ·
    have phb8:=neOfBeq hb8;refine lB 26 hb8 (lL hs [.m 25 26] (lN (cIF (cSL ?_))));cases hb9:((s.op:Int) == (8:Int))
    ·
     have phb9:=neOfBeq hb9;refine lB 34 hb9 (lL hs [.m 33 34] (lN (cIF (cK (cSL (lL hs [.m 47 1,.v 48 (qP b1 1),.o 49 (iV s.a) 0 1 1] (lX 50 V n c 1 s.a s.a.toNat ((hs.f.1).ok oM) ?_)))))));exact lH 51 (iV (hv.getD s.a.toNat 0)) hs ((hs.f.1).el s.a.toNat oM) (lL hs [.m 4 51] (lN (kX (hs.ret [] (iV (hv.getD s.a.toNat 0)) (congrArg (Value.int .i64) (by unfold weightS;first|(rw[if_pos oM])|(rw[if_neg oM,if_pos oM])|(rw[if_neg oM,if_neg oM,if_pos oM])|(rw[if_neg oM,if_neg oM,if_neg oM,if_pos oM])|(rw[if_neg oM,if_neg oM,if_neg oM,if_neg oM])))))))
    have phb9:=eq_of_beq hb9;refine lB 34 hb9 (lL hs [.m 33 34] (lN (cIT (cQ (cR 12 [] mixed hs al_nil ?_)))));refine eV 0 35 (qP b1 3) (eO 1 36 [(0,3,1)] (iV s.n) hs (eV 2 37 (qP b1 3) (eO 3 38 [(0,3,1)] (iV s.n) hs (eI 4 39 (0-s.n) (eV 5 40 (iV (max (max (s.n:Int) (0-s.n:Int)) (1:Int))) ?_ (hv:=fun _=>rint (n:=(if (1:Int)>(if (0-s.n:Int)>(s.n:Int) then (0-s.n:Int) else (s.n:Int)) then (1:Int) else (if (0-s.n:Int)>(s.n:Int) then (0-s.n:Int) else (s.n:Int)))) kR (by simp only[imax2])))))));exact eV 6 41 (qS V n c) (eV 7 42 (qP b1 1) (eO 8 43 [(0,1,1)] (iV s.a) hs (eX 9 44 V n c 1 s.a s.a.toNat ((hs.f.1).ok oM) (eH 10 45 (iV (hv.getD s.a.toNat 0)) hs ((hs.f.1).el s.a.toNat oM) (eI 11 46 ((max (max (s.n:Int) (0-s.n:Int)) (1:Int))*(hv.getD s.a.toNat 0)) (eD0 hs (fun _ _ hs=>tV 12 4 (iV ((max (max (s.n:Int) (0-s.n:Int)) (1:Int))*(hv.getD s.a.toNat 0))) (tN (kX (hs.ret [] (iV ((max (max (s.n:Int) (0-s.n:Int)) (1:Int))*(hv.getD s.a.toNat 0))) (congrArg (Value.int .i64) (by unfold weightS;first|(rw[if_pos oM])|(rw[if_neg oM,if_pos oM])|(rw[if_neg oM,if_neg oM,if_pos oM])|(rw[if_neg oM,if_neg oM,if_neg oM,if_pos oM])|(rw[if_neg oM,if_neg oM,if_neg oM,if_neg oM])))))))))))))
   have phb8:=eq_of_beq hb8;refine lB 26 hb8 (lL hs [.m 25 26] (lN (cIT (cSL (lL hs [.m 27 1,.v 28 (qP b1 1),.o 29 (iV s.a) 0 1 1] (lX 30 V n c 1 s.a s.a.toNat ((hs.f.1).ok oM) ?_))))));exact lH 31 (iV (hv.getD s.a.toNat 0)) hs ((hs.f.1).el s.a.toNat oM) (lI 32 (2*(hv.getD s.a.toNat 0)) (lL hs [.m 4 32] (lN (kX (hs.ret [] (iV (2*(hv.getD s.a.toNat 0))) (congrArg (Value.int .i64) (by unfold weightS;first|(rw[if_pos oM])|(rw[if_neg oM,if_pos oM])|(rw[if_neg oM,if_neg oM,if_pos oM])|(rw[if_neg oM,if_neg oM,if_neg oM,if_pos oM])|(rw[if_neg oM,if_neg oM,if_neg oM,if_neg oM]))))))))
  have phb7:=eq_of_beq hb7;refine lB 11 hb7 (lL hs [.m 10 11] (lN (cIT (cQ (cR 11 [] mixed hs al_nil ?_)))));exact eV 0 12 (qS V n c) (eV 1 13 (qP b1 1) (eO 2 14 [(0,1,1)] (iV s.a) hs (eX 3 15 V n c 1 s.a s.a.toNat ((hs.f.1).ok oM) (eH 4 16 (iV (hv.getD s.a.toNat 0)) hs ((hs.f.1).el s.a.toNat oM) (eV 5 17 (qS V n c) (eV 6 18 (qP b1 2) (eO 7 19 [(0,2,1)] (iV s.b) hs (eX 8 20 V n c 1 s.b s.b.toNat ((hs.f.1).ok oM) (eH 9 21 (iV (hv.getD s.b.toNat 0)) hs ((hs.f.1).el s.b.toNat oM) (eI 10 22 ((hv.getD s.a.toNat 0)+(hv.getD s.b.toNat 0)) (eD0 hs (fun _ _ hs=>tV 11 4 (iV ((hv.getD s.a.toNat 0)+(hv.getD s.b.toNat 0))) (tN (kX (hs.ret [] (iV ((hv.getD s.a.toNat 0)+(hv.getD s.b.toNat 0))) (congrArg (Value.int .i64) (by unfold weightS;first|(rw[if_pos oM])|(rw[if_neg oM,if_pos oM])|(rw[if_neg oM,if_neg oM,if_pos oM])|(rw[if_neg oM,if_neg oM,if_neg oM,if_pos oM])|(rw[if_neg oM,if_neg oM,if_neg oM,if_neg oM]))))))))))))))))))
 have phb6:=eq_of_beq hb6;exact lB 9 hb6 (lL hs [.m 8 9] (lN (cIT (cSL (lL hs [.v 4 (iV 1)] (lN (kX (hs.ret [] (iV 1) (congrArg (Value.int .i64) (by unfold weightS;first|(rw[if_pos oM])|(rw[if_neg oM,if_pos oM])|(rw[if_neg oM,if_neg oM,if_pos oM])|(rw[if_neg oM,if_neg oM,if_neg oM,if_pos oM])|(rw[if_neg oM,if_neg oM,if_neg oM,if_neg oM])))))))))))
theorem tCheck (inp:Int)(A:Option Addr)(c:Nat)(l:List Stp)(O:Option Addr)(d:Nat)(os:List Int)(hl:l.length≤1000000)(ho:os.length≤1000000)(hq:∀ i,i<l.length→LQ 1 (l.getD i stp0).q)(w:World)(h:Hp)(g:G w h)(hA:SlO 9 stc stp0 h A l)(hO:Si O os h):CV 44 #[.agg #[iV inp,.slice A ((l).length) c,.slice O ((os).length) d]] w h (iV (chkTp inp l os)):=by
 have hs:=(((sS g).aS hA).aS hO);refine go Tryz.func44 [(0,.agg #[iV inp,qS A ((l).length) c,qS O ((os).length) d])] rfl (cSL (lA 1 36 ([iV inp,qS A ((l).length) c,qS O ((os).length) d]) hs (fun b1 w2 h3 hs=>lL hs [.v 2 (iV 0)] (lN (cQ (cSL (lL hs [.v 8 (pB b1),.o 9 (iV inp) 0 0 1] ?_)))))));cases hb4:(decide ((inp:Int)<(0:Int)))
 ·
  have phb4:=oF hb4;refine lB 10 hb4 (lL hs [.m 11 10,.v 12 (pB b1),.o 13 (iV inp) 0 0 1] ?_);cases hb5:(decide ((1000:Int)<(inp:Int)))
  ·
   have phb5:=oF hb5;refine lB 14 hb5 (lL hs [.v 15 qF,.m 16 15,.v 17 (qP b1 1),.o 18 (qS A ((l).length) c) 0 1 1,.v 19 (nV ((l).length))] ?_);cases hb6:(decide ((65536:Int)<(((l).length:Nat):Int)))
   ·
    have phb6:=oF hb6;refine lB 20 hb6 (lL hs [.v 21 qF,.m 22 21,.v 23 (qP b1 2),.o 24 (qS O ((os).length) d) 0 2 1,.v 25 (nV ((os).length))] ?_);cases hb7:(decide ((300:Int)<(((os).length:Nat):Int)))
    ·
     have phb7:=oF hb7;refine lB 26 hb7 (lL hs [.v 27 qF] (lN (cIF (cK (cSL (lL hs [.v 28 (qP b1 1),.o 29 (qS A ((l).length) c) 0 1 1,.v 30 (nV ((l).length))] (lK 31 3 ((l).length) 1 8 (iV 0) i64c (0:Int) hs (fun b8 w9 zp hs=>?_))))))));have zn:(List.replicate ((l).length) (0:Int)).length=((l).length):=by simp
     refine lL hs [.m 3 31] (lN (cQ (cSL (lL hs [.v 32 (qP b1 1),.o 33 (qS A ((l).length) c) 1 1 1,.v 34 (nV ((l).length)),.v 35 (iV 0)] (lN (kZ ?_))))));have hsh:0≤inp∧inp≤1000∧l.length≤65536∧os.length≤300:=by omega
     refine cTo _ (CG.loop (fun μ_ Γ w_=>∃ (k:Nat) (L:List Int) (h_:Hp),μ_=l.length-k∧Γ=[(1,pB b1),(3,qS (sB b8) ((l).length) ((l).length)),(33,qS A ((l).length) c),(34,nV ((l).length)),(35,nV k)]∧SS w h w_ h_ [⟨b8,3,(L).flatMap i64c⟩,⟨b1,36,[iV inp,qS A ((l).length) c,qS O ((os).length) d]⟩] [] [Si O os,fun h_=>SlO 9 stc stp0 h_ A l]∧k≤l.length∧L.length=l.length∧Wts L k∧goS inp l []=goS inp (l.drop k) (L.take k)) _ ⟨0,List.replicate ((l).length) (0:Int),zp,rfl,rfl,hs.to _ _,Nat.zero_le _,zn,fun j hj=>absurd hj (Nat.not_lt_zero j),rfl⟩ ?_);rintro _ _ _ ⟨k,L,zq,hm14,rfl,hs,hk,hlL,hWt,hgo⟩;refine cSL ?_;cases za:(decide ((k:Int)<(((l).length:Nat):Int)))
     ·
      have zg:=oF za;refine lB 36 za (lN (cQ (cIF (CG.exit ?_))))
      show CG _ _ _ _ _ _ _ _
      refine cQ (cSL (lL hs [.v 56 (qP b1 2),.o 57 (qS O ((os).length) d) 1 2 1,.v 58 (nV ((os).length)),.v 59 (iV 0)] (lN (kZ ?_))));refine cTo _ (CG.loop (fun μ_ Γ w_=>∃ (j:Nat) (h_:Hp),μ_=os.length-j∧Γ=[(1,pB b1),(57,qS O ((os).length) d),(58,nV ((os).length)),(59,nV j)]∧SS w h w_ h_ [⟨b8,3,(L).flatMap i64c⟩,⟨b1,36,[iV inp,qS A ((l).length) c,qS O ((os).length) d]⟩] [] [Si O os,fun h_=>SlO 9 stc stp0 h_ A l]∧j≤os.length∧(∀ i,i<j→0≤os.getD i 0∧os.getD i 0<l.length)) _ ⟨0,zq,rfl,rfl,hs.to _ _,Nat.zero_le _,fun j hj=>absurd hj (Nat.not_lt_zero j)⟩ ?_);rintro _ _ _ ⟨j,zr,hm18,rfl,hs,hj,hou⟩;refine cSL ?_;cases zb:(decide ((j:Int)<(((os).length:Nat):Int)))
      ·
       have zi:=oF zb;refine lB 60 zb (lN (cQ (cIF (CG.exit ?_))))
       show CG _ _ _ _ _ _ _ _
       exact cSL (lL hs [.v 2 (iV 0)] (lN (kX (hs.ret [] (iV 0) (congrArg (Value.int .i64) (chkTp_ok hsh (by rw[hgo,List.drop_eq_nil_of_le oM];rfl) (fun i hi=>hou i oM)).symm)))))
      have zi:=oT zb;refine lB 60 zb (lN (cQ (cIT (cK (cQ (kZ (cSL (lX 61 O ((os).length) d 1 (j:Nat) j ((hs.f.1).ok oM) ?_))))))));refine lH 62 (iV (os.getD j 0)) hs ((hs.f.1).el j oM) (lL hs [.m 7 62] (lNS (lL hs [.m 63 7] ?_)));cases zc:(decide ((os.getD j 0:Int)<(0:Int)))
      ·
       have zj:=oF zc;refine lB 64 zc (lL hs [.m 65 64,.m 66 7,.v 67 (qP b1 1),.o 68 (qS A ((l).length) c) 1 1 1,.v 69 (nV ((l).length))] ?_);cases zd:(decide ((((l).length:Nat):Int)≤(os.getD j 0:Int)))
       ·
        have zk:=oF zd;refine lB 70 zd (lL hs [.v 71 qF] (lN (cIF (cK (kQ (lIn 72 ((j:Nat)+1) (j+1) ?_))))));refine lL hs [.m 59 72] (lD ?_);intro a_ ka;refine ⟨_,_,?_,⟨j+1,zr,rfl,rfl,hs.to _ _,oM,(fun i hi=>by by_cases e:i=j;(subst e;omega);exact hou i oM)⟩,ka.to _ kR⟩
        omega
       have zk:=oT zd;exact lB 70 zd (lL hs [.v 71 qT] (lN (cIT (cSL (lL hs [.v 2 (iV 1)] (lN (kX (hs.ret [] (iV 1) (congrArg (Value.int .i64) (chkTp_arg hsh (by rw[hgo,List.drop_eq_nil_of_le oM];rfl) (fun h_=>by have:=h_ j oM;omega)).symm)))))))))
      have zj:=oT zc;refine lB 64 zc (lL hs [.m 65 64] (lG 66 ?_));exact lG 67 (lG 68 (lG 69 (lG 70 (lL hs [.v 71 qT] (lN (cIT (cSL (lL hs [.v 2 (iV 1)] (lN (kX (hs.ret [] (iV 1) (congrArg (Value.int .i64) (chkTp_arg hsh (by rw[hgo,List.drop_eq_nil_of_le oM];rfl) (fun h_=>by have:=h_ j oM;omega)).symm))))))))))))
     have zg:=oT za;refine lB 36 za (lN (cQ (cIT (cK (cQ (kZ (cSL (lL hs [.m 37 35] (lX 38 A ((l).length) c 9 (k:Nat) k ((hs.f.2.1).ok oM) ?_)))))))));refine lH 39 (.agg #[iV ((l.getD k stp0).op),iV ((l.getD k stp0).a),iV ((l.getD k stp0).b),iV ((l.getD k stp0).n),.bool (ineg ((l.getD k stp0).q).num),uV (lo (iabs ((l.getD k stp0).q).num)),.string (hi (iabs ((l.getD k stp0).q).num)),uV (lo (qd ((l.getD k stp0).q))),.string (hi (qd ((l.getD k stp0).q)))]) hs ((hs.f.2.1).el k oM) (lA 5 110 ([iV 0,iV 0,iV 0,iV 0,qF,uV 0,eS,uV 0,eS]) hs (fun zs _ _ hs=>lL hs [.m 4 37] (lP 0 0 ([iV ((l.getD k stp0).op),iV ((l.getD k stp0).a),iV ((l.getD k stp0).b),iV ((l.getD k stp0).n),.bool (ineg ((l.getD k stp0).q).num),uV (lo (iabs ((l.getD k stp0).q).num)),.string (hi (iabs ((l.getD k stp0).q).num)),uV (lo (qd ((l.getD k stp0).q))),.string (hi (qd ((l.getD k stp0).q)))]) hs (fun _ hs=>lN (cQ (cSL (lL hs [.o 40 (.agg #[iV inp,qS A ((l).length) c,qS O ((os).length) d]) 2 0 3,.m 41 4] (lC 42 hs (tFormed inp A c l O d os k oM oM (hq k oM) _ _ hs.g hs.f.2.1 hs.f.1) ?_))))))));rintro _ _ _ hs rfl;cases zf:(decide (Formed inp k (l.getD k stp0)))
     ·
      have zl:=oF zf;exact lL hs [.v 43 qT] (lN (cIT (cSL (lL hs [.v 2 (iV 2)] (lN (kX (hs.ret [] (iV 2) (congrArg (Value.int .i64) ((chkTp_go hsh (by rw[hgo,goS_bad oM (by simp;omega) ‹¬Formed inp k (l.getD k stp0)›];decide)).trans (hgo.trans (goS_bad oM (by simp;omega) ‹¬Formed inp k (l.getD k stp0)›))).symm))))))))
     have zl:=oT zf;refine lL hs [.v 43 qF] (lN (cIF (cK (cSL (lL hs [.m 44 3,.m 45 4,.o 46 (.agg #[iV ((l.getD k stp0).op),iV ((l.getD k stp0).a),iV ((l.getD k stp0).b),iV ((l.getD k stp0).n),.bool (ineg ((l.getD k stp0).q).num),uV (lo (iabs ((l.getD k stp0).q).num)),.string (hi (iabs ((l.getD k stp0).q).num)),uV (lo (qd ((l.getD k stp0).q))),.string (hi (qd ((l.getD k stp0).q)))]) 0 0 9,.m 47 3] (lCl 48 1 hs (fun _ g_ f_ sg_=>tWeight (l.getD k stp0) (sB b8) ((l).length) ((l).length) L hlL k inp ‹Formed inp k (l.getD k stp0)› hWt oM _ _ g_ (SlO.of_flat (sz:=1) (f:=i64c) (d:=0) (b:=b8) (o:=0) (l:=L) (fun _=>rfl) sg_)) ?_))))));rintro _ _ zt hs rfl;have hws:=hWt.weight ‹Formed inp k (l.getD k stp0)›;have hgs:(L.set k (weightS (l.getD k stp0) L)).getD k 0=weightS (l.getD k stp0) L:=by rw[List.getD_eq_getElem?_getD,List.getElem?_set_self oM];rfl
     refine lX 49 (sB b8) ((l).length) ((l).length) 1 (k:Nat) k rfl (lW 1 L i64c 1 k (weightS (l.getD k stp0) L) hs oM (fun _ hs=>?_));have zo:((L).set k (weightS (l.getD k stp0) L)).length=((l).length):=by rw[List.length_set];exact hlL
     replace hs:=hs.to [⟨zs,110,[iV ((l.getD k stp0).op),iV ((l.getD k stp0).a),iV ((l.getD k stp0).b),iV ((l.getD k stp0).n),.bool (ineg ((l.getD k stp0).q).num),uV (lo (iabs ((l.getD k stp0).q).num)),.string (hi (iabs ((l.getD k stp0).q).num)),uV (lo (qd ((l.getD k stp0).q))),.string (hi (qd ((l.getD k stp0).q)))]⟩,⟨b8,3,((L).set k (weightS (l.getD k stp0) L)).flatMap i64c⟩,⟨b1,36,[iV inp,qS A ((l).length) c,qS O ((os).length) d]⟩] [];refine lNS (lL hs [.m 50 3,.m 51 4] (lX 52 (sB b8) ((l).length) ((l).length) 1 (k:Nat) k rfl ?_));refine lQ 53 1 ((L).set k (weightS (l.getD k stp0) L)) i64c 1 0 k (iV (((L).set k (weightS (l.getD k stp0) L)).getD k 0)) hs oM ?_;cases ze:(decide ((65536:Int)<(((L).set k (weightS (l.getD k stp0) L)).getD k 0:Int)))
     ·
      have zm:=oF ze;refine lB 54 ze (lN (cIF (cK (kQ (lIn 55 ((k:Nat)+1) (k+1) ?_)))));refine lL hs [.m 35 55] (lD ?_);intro a_ ka;replace hs:=hs.drop 1 0;refine ⟨_,_,?_,⟨k+1,(L).set k (weightS (l.getD k stp0) L),zt,rfl,rfl,hs.to _ _,oM,zo,(hWt.snoc oM hws.1 oM),(hgo.trans ((goS_step oM (by simp;omega) ‹Formed inp k (l.getD k stp0)› (by rw[weight_take ‹Formed inp k (l.getD k stp0)›];omega)).trans (by rw[weight_take ‹Formed inp k (l.getD k stp0)›,take_set_snoc oM])))⟩,ka.to _ kR⟩
      omega
     have zm:=oT ze;exact lB 54 ze (lN (cIT (cSL (lL hs [.v 2 (iV 18)] (lN (kX (hs.ret [] (iV 18) (congrArg (Value.int .i64) ((chkTp_go hsh (by rw[hgo,goS_over oM (by simp;omega) ‹Formed inp k (l.getD k stp0)› (by rw[weight_take ‹Formed inp k (l.getD k stp0)›];omega)];decide)).trans (hgo.trans (goS_over oM (by simp;omega) ‹Formed inp k (l.getD k stp0)› (by rw[weight_take ‹Formed inp k (l.getD k stp0)›];omega)))).symm))))))))
    have phb7:=oT hb7;exact lB 26 hb7 (lL hs [.v 27 qT] (lN (cIT (cSL (lL hs [.v 2 (iV 5)] (lN (kX (hs.ret [] (iV 5) (congrArg (Value.int .i64) (chkTp_shape oM).symm)))))))))
   have phb6:=oT hb6;refine lB 20 hb6 (lL hs [.v 21 qT,.m 22 21] (lG 23 ?_));exact lG 24 (lG 25 (lG 26 (lL hs [.v 27 qT] (lN (cIT (cSL (lL hs [.v 2 (iV 5)] (lN (kX (hs.ret [] (iV 5) (congrArg (Value.int .i64) (chkTp_shape oM).symm)))))))))))
  have phb5:=oT hb5;refine lB 14 hb5 (lL hs [.v 15 qT,.m 16 15] (lG 17 ?_));refine lG 18 (lG 19 (lG 20 (lL hs [.v 21 qT,.m 22 21] (lG 23 ?_))));exact lG 24 (lG 25 (lG 26 (lL hs [.v 27 qT] (lN (cIT (cSL (lL hs [.v 2 (iV 5)] (lN (kX (hs.ret [] (iV 5) (congrArg (Value.int .i64) (chkTp_shape oM).symm)))))))))))
 have phb4:=oT hb4;refine lB 10 hb4 (lL hs [.m 11 10] (lG 12 ?_));refine lG 13 (lG 14 (lL hs [.v 15 qT,.m 16 15] (lG 17 ?_)));refine lG 18 (lG 19 (lG 20 (lL hs [.v 21 qT,.m 22 21] (lG 23 ?_))));exact lG 24 (lG 25 (lG 26 (lL hs [.v 27 qT] (lN (cIT (cSL (lL hs [.v 2 (iV 5)] (lN (kX (hs.ret [] (iV 5) (congrArg (Value.int .i64) (chkTp_shape oM).symm)))))))))))
section
variable {sm:Bool} {inp:Int} {l:List Stp} {os:List Int} {at_:List Rat}
end
theorem rKids (op:Int)(w:World)(h:Hp)(g:G w h):CV 50 #[iV op] w h (iV (ari op)):=by
 have hs:=sS g;refine go Tryz.func50 [(0,iV op)] rfl (cSL (lL hs [.v 2 (iV 0)] (lN (cQ (cSL (lL hs [.m 3 0] (lN (kZ (cQ (cSL ?_))))))))));cases hb1:((op:Int) == (1:Int))
 ·
  have phb1:=neOfBeq hb1;refine lB 5 hb1 (lL hs [.m 4 5] (lN (cIF (kQ ?_))));cases hb2:((op:Int) == (2:Int))
  ·
   have phb2:=neOfBeq hb2;refine lB 6 hb2 (lL hs [.m 4 6] (lN (cIF (cQ (cSL ?_)))));cases hb3:((op:Int) == (7:Int))
   ·
    have phb3:=neOfBeq hb3;refine lB 8 hb3 (lL hs [.m 7 8] (lN (cIF (cSL ?_))));cases hb4:((op:Int) == (8:Int))
    ·
     have phb4:=neOfBeq hb4;refine lB 9 hb4 (lL hs [.m 7 9] (lN (cIF (cSL ?_))));cases hb5:((op:Int) == (9:Int))
     ·
      have phb5:=neOfBeq hb5;refine lB 10 hb5 (lL hs [.m 7 10] (lN (cIF (cSL ?_))));cases hb6:((op:Int) == (10:Int))
      ·
       have phb6:=neOfBeq hb6;refine lB 11 hb6 (lL hs [.m 7 11] (lN (cIF (kQ ?_))));cases hb7:((op:Int) == (11:Int))
       ·
        have phb7:=neOfBeq hb7;refine lB 12 hb7 (lL hs [.m 7 12] (lN (cIF (cQ (cSL ?_)))));cases hb8:((op:Int) == (3:Int))
        ·
         have phb8:=neOfBeq hb8;refine lB 14 hb8 (lL hs [.m 13 14] (lN (cIF (cSL ?_))));cases hb9:((op:Int) == (4:Int))
         ·
          have phb9:=neOfBeq hb9;refine lB 15 hb9 (lL hs [.m 13 15] (lN (cIF (cSL ?_))));cases za:((op:Int) == (5:Int))
          ·
           have ze:=neOfBeq za;refine lB 16 za (lL hs [.m 13 16] (lN (cIF (cSL ?_))));cases zb:((op:Int) == (6:Int))
           ·
            have zf:=neOfBeq zb;refine lB 17 zb (lL hs [.m 13 17] (lN (cIF (cSL ?_))));cases zc:((op:Int) == (12:Int))
            ·
             have zg:=neOfBeq zc;refine lB 18 zc (lL hs [.m 13 18] (lN (cIF (kQ ?_))));cases zd:((op:Int) == (13:Int))
             ·
              have zi:=neOfBeq zd;exact lB 19 zd (lL hs [.m 13 19] (lN (cIF (cK (cSL (lL hs [.v 2 (iV (-1))] (lN (kX (hs.ret [] (iV (-1)) (congrArg (Value.int .i64) (by have:=ari_cases op;omega)))))))))))
             have zi:=eq_of_beq zd;exact lB 19 zd (lL hs [.m 13 19] (lN (cIT (cSL (lL hs [.v 2 (iV 2)] (lN (kX (hs.ret [] (iV 2) (congrArg (Value.int .i64) (by have:=ari_cases op;omega))))))))))
            have zg:=eq_of_beq zc;exact lB 18 zc (lL hs [.m 13 18] (lN (cIT (cK (cIT (cSL (lL hs [.v 2 (iV 2)] (lN (kX (hs.ret [] (iV 2) (congrArg (Value.int .i64) (by have:=ari_cases op;omega))))))))))))
           have zf:=eq_of_beq zb;exact lB 17 zb (lL hs [.m 13 17] (lN (cIT (cK (cIT (cSL (lL hs [.v 2 (iV 2)] (lN (kX (hs.ret [] (iV 2) (congrArg (Value.int .i64) (by have:=ari_cases op;omega))))))))))))
          have ze:=eq_of_beq za;exact lB 16 za (lL hs [.m 13 16] (lN (cIT (cK (cIT (cSL (lL hs [.v 2 (iV 2)] (lN (kX (hs.ret [] (iV 2) (congrArg (Value.int .i64) (by have:=ari_cases op;omega))))))))))))
         have phb9:=eq_of_beq hb9;exact lB 15 hb9 (lL hs [.m 13 15] (lN (cIT (cK (cIT (cSL (lL hs [.v 2 (iV 2)] (lN (kX (hs.ret [] (iV 2) (congrArg (Value.int .i64) (by have:=ari_cases op;omega))))))))))))
        have phb8:=eq_of_beq hb8;exact lB 14 hb8 (lL hs [.m 13 14] (lN (cIT (cK (cIT (cSL (lL hs [.v 2 (iV 2)] (lN (kX (hs.ret [] (iV 2) (congrArg (Value.int .i64) (by have:=ari_cases op;omega))))))))))))
       have phb7:=eq_of_beq hb7;exact lB 12 hb7 (lL hs [.m 7 12] (lN (cIT (cSL (lL hs [.v 2 (iV 1)] (lN (kX (hs.ret [] (iV 1) (congrArg (Value.int .i64) (by have:=ari_cases op;omega))))))))))
      have phb6:=eq_of_beq hb6;exact lB 11 hb6 (lL hs [.m 7 11] (lN (cIT (cK (cIT (cSL (lL hs [.v 2 (iV 1)] (lN (kX (hs.ret [] (iV 1) (congrArg (Value.int .i64) (by have:=ari_cases op;omega))))))))))))
     have phb5:=eq_of_beq hb5;exact lB 10 hb5 (lL hs [.m 7 10] (lN (cIT (cK (cIT (cSL (lL hs [.v 2 (iV 1)] (lN (kX (hs.ret [] (iV 1) (congrArg (Value.int .i64) (by have:=ari_cases op;omega))))))))))))
    have phb4:=eq_of_beq hb4;exact lB 9 hb4 (lL hs [.m 7 9] (lN (cIT (cK (cIT (cSL (lL hs [.v 2 (iV 1)] (lN (kX (hs.ret [] (iV 1) (congrArg (Value.int .i64) (by have:=ari_cases op;omega))))))))))))
   have phb3:=eq_of_beq hb3;exact lB 8 hb3 (lL hs [.m 7 8] (lN (cIT (cK (cIT (cSL (lL hs [.v 2 (iV 1)] (lN (kX (hs.ret [] (iV 1) (congrArg (Value.int .i64) (by have:=ari_cases op;omega))))))))))))
  have phb2:=eq_of_beq hb2;exact lB 6 hb2 (lL hs [.m 4 6] (lN (cIT (cSL (lL hs [.v 2 (iV 0)] (lN (kX (hs.ret [] (iV 0) (congrArg (Value.int .i64) (by have:=ari_cases op;omega))))))))))
 have phb1:=eq_of_beq hb1;exact lB 5 hb1 (lL hs [.m 4 5] (lN (cIT (cK (cIT (cSL (lL hs [.v 2 (iV 0)] (lN (kX (hs.ret [] (iV 0) (congrArg (Value.int .i64) (by have:=ari_cases op;omega))))))))))))
theorem rIntSgz (z:Int)(A:Option Addr)(c:Nat)(w:World)(h:Hp)(g:G w h)(hA:S3 A (lim (iabs z)) h):CV 162 #[.agg #[.bool (ineg z),.slice A ((lim (iabs z)).length) c]] w h (iV z.sign):=by
 have hs:=((sS g).aS hA);have hlz:0<(lim (iabs z)).length↔0<iabs z:=lim_pos
 unfold iabs at hlz
 refine go Tryz.func162 [(0,.agg #[.bool (ineg z),qS A ((lim (iabs z)).length) c])] rfl (cSL (lA 1 95 ([.bool (ineg z),qS A ((lim (iabs z)).length) c]) hs (fun b1 w2 h3 hs=>lL hs [.v 2 (iV 0)] (lN (cQ (kZ (cSL (lL hs [.v 4 (qP b1 1),.o 5 (qS A ((lim (iabs z)).length) c) 0 1 1,.v 6 (nV ((lim (iabs z)).length))] ?_))))))));cases hb4:((((lim (iabs z)).length:Nat):Int) == (0:Int))
 ·
  have phb4:=neOfBeq hb4;refine lB 7 hb4 (lL hs [.m 3 7] (lN (cIF (cSL (lL hs [.v 9 (pB b1),.o 10 (.bool (ineg z)) 0 0 1,.m 8 10] (lN ?_))))));cases hb5:(ineg z)
  ·
   try rw[hb5] at hs
   try rw[hb5]
   have phb5:=ineg_false hb5;exact cIF (cK (cSL (lL hs [.v 2 (iV 1)] (lN (kX (hs.ret [] (iV 1) (congrArg (Value.int .i64) (by first|(rw[show z=0 by (unfold iabs at *;omega)];rfl)|exact (Int.sign_eq_neg_one_of_neg oM).symm|exact (Int.sign_eq_one_of_pos (by unfold iabs at *;omega)).symm))))))))
  try rw[hb5] at hs
  try rw[hb5]
  have phb5:=ineg_true hb5;exact cIT (cSL (lL hs [.v 2 (iV (-1))] (lN (kX (hs.ret [] (iV (-1)) (congrArg (Value.int .i64) (by first|(rw[show z=0 by (unfold iabs at *;omega)];rfl)|exact (Int.sign_eq_neg_one_of_neg oM).symm|exact (Int.sign_eq_one_of_pos (by unfold iabs at *;omega)).symm)))))))
 have phb4:=eq_of_beq hb4;exact lB 7 hb4 (lL hs [.m 3 7] (lN (cIT (cSL (lL hs [.v 2 (iV 0)] (lN (kX (hs.ret [] (iV 0) (congrArg (Value.int .i64) (by first|(rw[show z=0 by (unfold iabs at *;omega)];rfl)|exact (Int.sign_eq_neg_one_of_neg oM).symm|exact (Int.sign_eq_one_of_pos (by unfold iabs at *;omega)).symm))))))))))
theorem rSgz (z:Int)(A:Option Addr)(c n:Nat)(D:Option Addr)(d:Nat)(hc:(lim (iabs z)).length≤c)(hd:(lim n).length≤d)(w:World)(h:Hp)(g:G w h)(hA:S3 A (lim (iabs z)) h)(hD:S3 D (lim n) h):CV 107 #[.agg #[.bool (ineg z),.slice A ((lim (iabs z)).length) c,.slice D ((lim n).length) d]] w h (iV z.sign):=by
 have hs:=(((sS g).aS hA).aS hD);refine go Tryz.func107 [(0,.agg #[.bool (ineg z),qS A ((lim (iabs z)).length) c,qS D ((lim n).length) d])] rfl (cSL (lA 1 97 ([.bool (ineg z),qS A ((lim (iabs z)).length) c,qS D ((lim n).length) d]) hs (fun b1 w2 h3 hs=>lL hs [.v 2 (iV 0)] (lNS (lL hs [.v 3 (pB b1),.o 4 (.agg #[.bool (ineg z),qS A ((lim (iabs z)).length) c]) 0 0 2] (lC 5 hs (rIntSgz z A c _ _ hs.g hs.f.2.1) ?_))))));rintro _ w4 h5 hs rfl;exact lL hs [.m 2 5] (lN (kX (hs.ret [] (iV z.sign) rfl)))
theorem rZero (z:Int)(A:Option Addr)(c n:Nat)(D:Option Addr)(d:Nat)(hc:(lim (iabs z)).length≤c)(hd:(lim n).length≤d)(w:World)(h:Hp)(g:G w h)(hA:S3 A (lim (iabs z)) h)(hD:S3 D (lim n) h):CV 103 #[.agg #[.bool (ineg z),.slice A ((lim (iabs z)).length) c,.slice D ((lim n).length) d]] w h (.bool (decide (n=0∨z=0))):=by
 have hs:=(((sS g).aS hA).aS hD);have hln:0<(lim n).length↔0<n:=lim_pos;refine go Tryz.func103 [(0,.agg #[.bool (ineg z),qS A ((lim (iabs z)).length) c,qS D ((lim n).length) d])] rfl (cSL (lA 1 97 ([.bool (ineg z),qS A ((lim (iabs z)).length) c,qS D ((lim n).length) d]) hs (fun b1 w2 h3 hs=>lL hs [.v 2 qF] (lNS (lL hs [.v 3 (qP b1 2),.o 4 (qS D ((lim n).length) d) 0 2 1,.v 5 (nV ((lim n).length))] ?_)))));cases hb4:((((lim n).length:Nat):Int) == (0:Int))
 ·
  have phb4:=neOfBeq hb4;refine lB 6 hb4 (lL hs [.m 7 6,.o 8 (.agg #[.bool (ineg z),qS A ((lim (iabs z)).length) c,qS D ((lim n).length) d]) 0 0 3] (lC 9 hs (rSgz z A c n D d hc hd _ _ hs.g hs.f.2.1 hs.f.1) ?_));rintro _ w5 h6 hs rfl;have hsg:z.sign=0↔z=0:=Int.sign_eq_zero_iff_zero;cases hb7:((z.sign:Int) == (0:Int))
  ·
   have phb7:=neOfBeq hb7;exact lB 10 hb7 (lL hs [.v 11 qF,.m 2 11] (lN (kX (hs.ret [] qF (congrArg Value.bool (decide_eq_false oM).symm)))))
  have phb7:=eq_of_beq hb7;exact lB 10 hb7 (lL hs [.v 11 qT,.m 2 11] (lN (kX (hs.ret [] qT (congrArg Value.bool (decide_eq_true oM).symm)))))
 have phb4:=eq_of_beq hb4;refine lB 6 hb4 (lL hs [.m 7 6] (lG 8 ?_));exact lG 9 (lG 10 (lL hs [.v 11 qT,.m 2 11] (lN (kX (hs.ret [] qT (congrArg Value.bool (decide_eq_true oM).symm))))))
def weighS (op n sum:Int):Int:=if op=11 then 2*sum else if op=8∧n≠0 then sum*(if n<0 then 0-n else n) else sum
theorem mulb {a n:Int}(h:0≤a∧a≤1000000)(hn : -12≤n∧n≤12) : -12000000≤a*n∧a*n≤12000000:=by
  have h1:(a*n).natAbs≤1000000*12:=by rw[Int.natAbs_mul];exact Nat.mul_le_mul oM oM
  omega
theorem rWeigh (op n sum:Int)(hs0:0≤sum∧sum≤1000000)(hn:op=8 → -12≤n∧n≤12)(w:World)(h:Hp)(g:G w h):CV 102 #[iV op,iV n,iV sum] w h (iV (weighS op n sum)):=by
 have hs:=sS g;have hmn:min (sum:Int) (1073741824:Int)=sum:=by omega
 have hq1:=fun h8:op=8=>mulb hs0 (hn h8)
 have hq2:=fun h8:op=8=>mulb (n:=0-n) hs0 (by have:=hn h8;omega)
 rw[←hmn] at hq1 hq2
 have hq3:n≤0→(min (sum:Int) (1073741824:Int))*n≤0∧0≤(min (sum:Int) (1073741824:Int))*(0-n):=fun h_=>⟨Int.mul_nonpos_of_nonneg_of_nonpos oM h_,Int.mul_nonneg oM oM⟩
 have hq4:0≤n→0≤(min (sum:Int) (1073741824:Int))*n:=fun h_=>Int.mul_nonneg oM h_
 refine go Tryz.func102 [(0,iV op),(1,iV n),(2,iV sum)] rfl (cSL (lL hs [.v 6 (iV 0)] (lN (cQ (kZ (cSL (lL hs [.m 8 0] ?_)))))));cases hb1:((op:Int) == (11:Int))
 ·
  have phb1:=neOfBeq hb1;refine lB 9 hb1 (lL hs [.m 7 9] (lN (cIF (cSL (lL hs [.m 13 0] ?_)))));cases hb2:((op:Int) == (8:Int))
  ·
   have phb2:=neOfBeq hb2;refine lB 14 hb2 (lL hs [.m 15 14] (lG 16 ?_));refine lG 17 (lL hs [.v 18 qF,.m 12 18] (lN (cIF (cK (cSL (lL hs [.m 33 2] (lV 34 (iV (min (sum:Int) (1073741824:Int))) ?_ (hr:=rint (n:=(if (1073741824:Int)<(sum:Int) then (1073741824:Int) else (sum:Int))) kR (by simp only[imin2])))))))));exact lL hs [.m 6 34] (lN (kX (hs.ret [] (iV (min (sum:Int) (1073741824:Int))) (congrArg (Value.int .i64) (by unfold weighS;first|(rw[if_pos oM];omega)|(rw[if_neg oM,if_pos oM,if_pos oM];rw[hmn] at *;omega)|(rw[if_neg oM,if_pos oM,if_neg oM];rw[hmn] at *;omega)|(rw[if_neg oM,if_neg oM];omega))))))
  have phb2:=eq_of_beq hb2;refine lB 14 hb2 (lL hs [.m 15 14,.m 16 1] ?_);cases hb3:((n:Int) != (0:Int))
  ·
   have phb3:=eqOfBne hb3;refine lB 17 hb3 (lL hs [.v 18 qF,.m 12 18] (lN (cIF (cK (cSL (lL hs [.m 33 2] (lV 34 (iV (min (sum:Int) (1073741824:Int))) ?_ (hr:=rint (n:=(if (1073741824:Int)<(sum:Int) then (1073741824:Int) else (sum:Int))) kR (by simp only[imin2])))))))));exact lL hs [.m 6 34] (lN (kX (hs.ret [] (iV (min (sum:Int) (1073741824:Int))) (congrArg (Value.int .i64) (by unfold weighS;first|(rw[if_pos oM];omega)|(rw[if_neg oM,if_pos oM,if_pos oM];rw[hmn] at *;omega)|(rw[if_neg oM,if_pos oM,if_neg oM];rw[hmn] at *;omega)|(rw[if_neg oM,if_neg oM];omega))))))
  have phb3:=neOfBne hb3;refine lB 17 hb3 (lL hs [.v 18 qT,.m 12 18] (lN (cIT (cQ (cSL (lL hs [.m 19 1] ?_))))));cases hb4:(decide ((n:Int)<(0:Int)))
  ·
   have phb4:=oF hb4;refine lB 20 hb4 (lN (cIF (cK (cQ (cSL (lL hs [.m 23 1] ?_))))));have ⟨hb5,phb5⟩:=dF (p:=(n:Int)<(0:Int)) oM;refine lB 24 hb5 (lL hs [.m 25 24,.m 26 1] ?_);cases hb6:(decide ((1073741824:Int)<(n:Int)))
   ·
    have phb6:=oF hb6;refine lB 27 hb6 (lL hs [.v 28 qF] (lN (cIF (cK (kQ (lL hs [.m 29 2] (lV 30 (iV (min (sum:Int) (1073741824:Int))) ?_ (hr:=rint (n:=(if (1073741824:Int)<(sum:Int) then (1073741824:Int) else (sum:Int))) kR (by simp only[imin2])))))))));refine lL hs [.m 31 1] (lI 32 ((min (sum:Int) (1073741824:Int))*n) ?_);refine lL hs [.m 2 32] (lNS (lL hs [.m 33 2] (lV 34 (iV (min ((min (sum:Int) (1073741824:Int))*n:Int) (1073741824:Int))) ?_ (hr:=rint (n:=(if (1073741824:Int)<((min (sum:Int) (1073741824:Int))*n:Int) then (1073741824:Int) else ((min (sum:Int) (1073741824:Int))*n:Int))) kR (by simp only[imin2])))));exact lL hs [.m 6 34] (lN (kX (hs.ret [] (iV (min ((min (sum:Int) (1073741824:Int))*n:Int) (1073741824:Int))) (congrArg (Value.int .i64) (by unfold weighS;first|(rw[if_pos oM];omega)|(rw[if_neg oM,if_pos oM,if_pos oM];rw[hmn] at *;omega)|(rw[if_neg oM,if_pos oM,if_neg oM];rw[hmn] at *;omega)|(rw[if_neg oM,if_neg oM];omega))))))
   have phb6:=oT hb6;refine lB 27 hb6 (lL hs [.v 28 qT] (lN (cIT (kQ (lL hs [.v 1 (iV 1073741824)] (lN (kQ (lL hs [.m 29 2] (lV 30 (iV (min (sum:Int) (1073741824:Int))) ?_ (hr:=rint (n:=(if (1073741824:Int)<(sum:Int) then (1073741824:Int) else (sum:Int))) kR (by simp only[imin2])))))))))));refine lL hs [.m 31 1] (lI 32 ((min (sum:Int) (1073741824:Int))*1073741824) ?_);refine lL hs [.m 2 32] (lNS (lL hs [.m 33 2] (lV 34 (iV (min ((min (sum:Int) (1073741824:Int))*1073741824:Int) (1073741824:Int))) ?_ (hr:=rint (n:=(if (1073741824:Int)<((min (sum:Int) (1073741824:Int))*1073741824:Int) then (1073741824:Int) else ((min (sum:Int) (1073741824:Int))*1073741824:Int))) kR (by simp only[imin2])))));exact lL hs [.m 6 34] (lN (kX (hs.ret [] (iV (min ((min (sum:Int) (1073741824:Int))*1073741824:Int) (1073741824:Int))) (congrArg (Value.int .i64) (by unfold weighS;first|(rw[if_pos oM];omega)|(rw[if_neg oM,if_pos oM,if_pos oM];rw[hmn] at *;omega)|(rw[if_neg oM,if_pos oM,if_neg oM];rw[hmn] at *;omega)|(rw[if_neg oM,if_neg oM];omega))))))
  have phb4:=oT hb4;refine lB 20 hb4 (lN (cIT (kQ (lL hs [.m 21 1] (lI 22 (0-n) ?_)))));refine lL hs [.m 1 22] (lN (cQ (cSL (lL hs [.m 23 1] ?_))));cases hb7:(decide ((0-n:Int)<(0:Int)))
  ·
   have phb7:=oF hb7;refine lB 24 hb7 (lL hs [.m 25 24,.m 26 1] ?_);cases hb8:(decide ((1073741824:Int)<(0-n:Int)))
   ·
    have phb8:=oF hb8;refine lB 27 hb8 (lL hs [.v 28 qF] (lN (cIF (cK (kQ (lL hs [.m 29 2] (lV 30 (iV (min (sum:Int) (1073741824:Int))) ?_ (hr:=rint (n:=(if (1073741824:Int)<(sum:Int) then (1073741824:Int) else (sum:Int))) kR (by simp only[imin2])))))))));refine lL hs [.m 31 1] (lI 32 ((min (sum:Int) (1073741824:Int))*(0-n)) ?_);refine lL hs [.m 2 32] (lNS (lL hs [.m 33 2] (lV 34 (iV (min ((min (sum:Int) (1073741824:Int))*(0-n):Int) (1073741824:Int))) ?_ (hr:=rint (n:=(if (1073741824:Int)<((min (sum:Int) (1073741824:Int))*(0-n):Int) then (1073741824:Int) else ((min (sum:Int) (1073741824:Int))*(0-n):Int))) kR (by simp only[imin2])))));exact lL hs [.m 6 34] (lN (kX (hs.ret [] (iV (min ((min (sum:Int) (1073741824:Int))*(0-n):Int) (1073741824:Int))) (congrArg (Value.int .i64) (by unfold weighS;first|(rw[if_pos oM];omega)|(rw[if_neg oM,if_pos oM,if_pos oM];rw[hmn] at *;omega)|(rw[if_neg oM,if_pos oM,if_neg oM];rw[hmn] at *;omega)|(rw[if_neg oM,if_neg oM];omega))))))
   have phb8:=oT hb8;refine lB 27 hb8 (lL hs [.v 28 qT] (lN (cIT (kQ (lL hs [.v 1 (iV 1073741824)] (lN (kQ (lL hs [.m 29 2] (lV 30 (iV (min (sum:Int) (1073741824:Int))) ?_ (hr:=rint (n:=(if (1073741824:Int)<(sum:Int) then (1073741824:Int) else (sum:Int))) kR (by simp only[imin2])))))))))));refine lL hs [.m 31 1] (lI 32 ((min (sum:Int) (1073741824:Int))*1073741824) ?_);refine lL hs [.m 2 32] (lNS (lL hs [.m 33 2] (lV 34 (iV (min ((min (sum:Int) (1073741824:Int))*1073741824:Int) (1073741824:Int))) ?_ (hr:=rint (n:=(if (1073741824:Int)<((min (sum:Int) (1073741824:Int))*1073741824:Int) then (1073741824:Int) else ((min (sum:Int) (1073741824:Int))*1073741824:Int))) kR (by simp only[imin2])))));exact lL hs [.m 6 34] (lN (kX (hs.ret [] (iV (min ((min (sum:Int) (1073741824:Int))*1073741824:Int) (1073741824:Int))) (congrArg (Value.int .i64) (by unfold weighS;first|(rw[if_pos oM];omega)|(rw[if_neg oM,if_pos oM,if_pos oM];rw[hmn] at *;omega)|(rw[if_neg oM,if_pos oM,if_neg oM];rw[hmn] at *;omega)|(rw[if_neg oM,if_neg oM];omega))))))
  have phb7:=oT hb7;refine lB 24 hb7 (lL hs [.m 25 24] (lG 26 ?_));refine lG 27 (lL hs [.v 28 qT] (lN (cIT (kQ (lL hs [.v 1 (iV 1073741824)] (lN (kQ (lL hs [.m 29 2] (lV 30 (iV (min (sum:Int) (1073741824:Int))) ?_ (hr:=rint (n:=(if (1073741824:Int)<(sum:Int) then (1073741824:Int) else (sum:Int))) kR (by simp only[imin2])))))))))));refine lL hs [.m 31 1] (lI 32 ((min (sum:Int) (1073741824:Int))*1073741824) ?_);refine lL hs [.m 2 32] (lNS (lL hs [.m 33 2] (lV 34 (iV (min ((min (sum:Int) (1073741824:Int))*1073741824:Int) (1073741824:Int))) ?_ (hr:=rint (n:=(if (1073741824:Int)<((min (sum:Int) (1073741824:Int))*1073741824:Int) then (1073741824:Int) else ((min (sum:Int) (1073741824:Int))*1073741824:Int))) kR (by simp only[imin2])))));exact lL hs [.m 6 34] (lN (kX (hs.ret [] (iV (min ((min (sum:Int) (1073741824:Int))*1073741824:Int) (1073741824:Int))) (congrArg (Value.int .i64) (by unfold weighS;first|(rw[if_pos oM];omega)|(rw[if_neg oM,if_pos oM,if_pos oM];rw[hmn] at *;omega)|(rw[if_neg oM,if_pos oM,if_neg oM];rw[hmn] at *;omega)|(rw[if_neg oM,if_neg oM];omega))))))
 have phb1:=eq_of_beq hb1;refine lB 9 hb1 (lL hs [.m 7 9] (lN (cIT (kQ (lL hs [.m 10 2] (lI 11 (2*sum) ?_))))));refine lL hs [.m 2 11] (lNS (lL hs [.m 33 2] (lV 34 (iV (min (2*sum:Int) (1073741824:Int))) ?_ (hr:=rint (n:=(if (1073741824:Int)<(2*sum:Int) then (1073741824:Int) else (2*sum:Int))) kR (by simp only[imin2])))));exact lL hs [.m 6 34] (lN (kX (hs.ret [] (iV (min (2*sum:Int) (1073741824:Int))) (congrArg (Value.int .i64) (by unfold weighS;first|(rw[if_pos oM];omega)|(rw[if_neg oM,if_pos oM,if_pos oM];rw[hmn] at *;omega)|(rw[if_neg oM,if_pos oM,if_neg oM];rw[hmn] at *;omega)|(rw[if_neg oM,if_neg oM];omega))))))
theorem rRight (inp:Int)(A:Option Addr)(c:Nat)(ts:List RSt)(ss:List OSt)(O:Option Addr)(d:Nat)(os:List Int)(i:Nat)(hik:i<ss.length)(hl:ss.length≤1000000)(w:World)(h:Hp)(g:G w h)(hA:SlO 7 rsc rst0 h A ts)(hT:RSs h ts ss)(hO:Si O os h):CV 101 #[.agg #[iV inp,.slice A ts.length c,.slice O os.length d],nV i] w h (.bool (decide (Formed inp i (ss.getD i ost0).stp))):=by
 have hs:=((((sS g).aS hA).add (K:=fun h_=>RSs h_ ts ss) hT).aS hO);have hlt:=(hs.f.2.1).len;have hz:=((hs.f.2.1).at_ i hik).z
 have hzq:(odn (ss.getD i ost0)=0∨(ss.getD i ost0).q.num=0)↔(ss.getD i ost0).q.num=0:=or_iff_right_of_imp (fun h_=>by
     have:(ss.getD i ost0).has=false:=by
       have h2:=odn_pos (o:=(ss.getD i ost0));rw[h_,lim_zero] at h2;cases h3:(ss.getD i ost0).has;rfl;rw[h3] at h2;simp at h2
     rw[hz this];rfl)
 refine go Tryz.func101 [(0,.agg #[iV inp,qS A ts.length c,qS O os.length d]),(1,nV i)] rfl (cSL (lA 2 25 ([iV inp,qS A ts.length c,qS O os.length d]) hs (fun b1 w2 h3 hs=>lL hs [.v 4 qF] (lNS (lL hs [.v 7 (qP b1 1),.o 8 (qS A ts.length c) 0 1 1,.m 9 1] (lX 10 A ts.length c 7 (i:Nat) i ((hs.f.r.1).ok oM) ?_))))));obtain ⟨Aqx,cqx,Dqx,dqx,eqx,hcqx,hdqx,hAqx,hDqx⟩:=((hs.f.2.1).at_ i oM).opn;replace hs:=hs.aP hAqx hDqx;refine lHe 11 (.agg #[iV ((ts.getD i rst0).op),iV ((ts.getD i rst0).a),iV ((ts.getD i rst0).b),iV ((ts.getD i rst0).n),.bool ((ts.getD i rst0).t.1),(ts.getD i rst0).t.2.1,(ts.getD i rst0).t.2.2]) hs ((hs.f.q.1).el i oM) eqx (lA 5 99 ([iV 0,iV 0,iV 0,iV 0,qF,sZ,sZ]) hs (fun b4 w5 h6 hs=>lP 0 0 ([iV ((ss.getD i ost0).op),iV ((ss.getD i ost0).a),iV ((ss.getD i ost0).b),iV ((ss.getD i ost0).n),.bool (ineg (ss.getD i ost0).q.num),qS Aqx ((lim (iabs (ss.getD i ost0).q.num)).length) cqx,qS Dqx ((lim (odn (ss.getD i ost0))).length) dqx]) hs (fun w7 hs=>lNS (lL hs [.v 12 (pB b4),.o 13 (iV ((ss.getD i ost0).op)) 0 0 1] (lC 14 hs (rKids (ss.getD i ost0).op _ _ hs.g) ?_)))));rintro _ w8 h9 hs rfl;have hac:=ari_cases (ss.getD i ost0).op;refine lL hs [.m 6 14] (lN (cQ (kZ (CG.join (fun Γ w_=>∃ (zF:Bool) (h_:Hp),Γ=[(1,nV i),(2,pB b1),(4,qF),(5,pB b4),(6,iV (ari (ss.getD i ost0).op)),(15,.bool zF)]∧SS w h w_ h_ [⟨b4,99,[iV ((ss.getD i ost0).op),iV ((ss.getD i ost0).a),iV ((ss.getD i ost0).b),iV ((ss.getD i ost0).n),.bool (ineg (ss.getD i ost0).q.num),qS Aqx ((lim (iabs (ss.getD i ost0).q.num)).length) cqx,qS Dqx ((lim (odn (ss.getD i ost0))).length) dqx]⟩,⟨b1,25,[iV inp,qS A ts.length c,qS O os.length d]⟩] [] [S3 Dqx (lim (odn (ss.getD i ost0))),S3 Aqx (lim (iabs (ss.getD i ost0).q.num)),Si O os,fun h_=>RSs h_ ts ss,fun h_=>SlO 7 rsc rst0 h_ A ts]∧(zF=true→¬(0≤ari (ss.getD i ost0).op∧((ss.getD i ost0).op=1∨(ss.getD i ost0).q.num=0)∧((ss.getD i ost0).op=8∨(ss.getD i ost0).op=2∨(ss.getD i ost0).n=0)))∧(zF=false→(0≤ari (ss.getD i ost0).op∧((ss.getD i ost0).op=1∨(ss.getD i ost0).q.num=0)∧((ss.getD i ost0).op=8∨(ss.getD i ost0).op=2∨(ss.getD i ost0).n=0)))) ?_ ?_))))
 ·
  refine kQ (lL hs [.m 16 6] ?_);cases zc:(decide ((ari (ss.getD i ost0).op:Int)<(0:Int)))
  ·
   have zP:=oF zc;refine lB 17 zc (lL hs [.m 18 17,.v 19 (pB b4),.o 20 (iV ((ss.getD i ost0).op)) 0 0 1] ?_);cases zd:(((ss.getD i ost0).op:Int) != (1:Int))
   ·
    have zQ:=eqOfBne zd;refine lB 21 zd (lL hs [.m 22 21] (lG 23 ?_));refine lG 24 (lG 25 (lG 26 (lL hs [.v 27 qF,.v 28 qF,.m 29 28,.v 30 (pB b4),.o 31 (iV ((ss.getD i ost0).op)) 0 0 1] ?_)));have zJ:(((ss.getD i ost0).op:Int) != (8:Int))=true:=bneT oM;have phb12:=neOfBne zJ;refine lB 32 zJ (lL hs [.m 33 32,.v 34 (pB b4),.o 35 (iV ((ss.getD i ost0).op)) 0 0 1] ?_);have zK:(((ss.getD i ost0).op:Int) != (2:Int))=true:=bneT oM;have phb13:=neOfBne zK;refine lB 36 zK (lL hs [.v 37 qT,.m 38 37,.v 39 (qP b4 3),.o 40 (iV ((ss.getD i ost0).n)) 0 3 1] ?_);cases ze:(((ss.getD i ost0).n:Int) != (0:Int))
    ·
     have zR:=eqOfBne ze;refine lB 41 ze (lL hs [.v 42 qF,.v 43 qF,.m 15 43] (lD ?_));intro a_ ka;exact ⟨_,⟨false,h9,rfl,hs.to _ _,(fun h_=>absurd h_ kD),(fun _=>by omega)⟩,ka.to _ kR⟩
    have zR:=neOfBne ze;refine lB 41 ze (lL hs [.v 42 qT,.v 43 qT,.m 15 43] (lD ?_));intro a_ ka;exact ⟨_,⟨true,h9,rfl,hs.to _ _,(fun _=>by omega),(fun h_=>absurd h_ kD)⟩,ka.to _ kR⟩
   have zQ:=neOfBne zd;refine lB 21 zd (lL hs [.m 22 21,.v 23 (qP b4 4),.o 24 (.agg #[.bool (ineg (ss.getD i ost0).q.num),qS Aqx ((lim (iabs (ss.getD i ost0).q.num)).length) cqx,qS Dqx ((lim (odn (ss.getD i ost0))).length) dqx]) 0 4 3] (lC 25 hs (rZero (ss.getD i ost0).q.num Aqx cqx (odn (ss.getD i ost0)) Dqx dqx hcqx hdqx _ _ hs.g hs.f.2.1 hs.f.1) ?_));rintro _ _ zG hs rfl;cases zL:(decide (odn (ss.getD i ost0)=0∨(ss.getD i ost0).q.num=0))
   ·
    have zS:=oF zL;refine lL hs [.v 26 qT,.v 27 qT,.v 28 qT,.m 29 28] (lG 30 ?_);refine lG 31 (lG 32 (lG 33 (lG 34 (lG 35 (lG 36 (lG 37 (lG 38 (lG 39 (lG 40 (lG 41 (lG 42 (lL hs [.v 43 qT,.m 15 43] (lD ?_)))))))))))));intro a_ ka;exact ⟨_,⟨true,zG,rfl,hs.to _ _,(fun _=>by omega),(fun h_=>absurd h_ kD)⟩,ka.to _ kR⟩
   have zS:=oT zL;refine lL hs [.v 26 qF,.v 27 qF,.v 28 qF,.m 29 28,.v 30 (pB b4),.o 31 (iV ((ss.getD i ost0).op)) 0 0 1] ?_;cases zf:(((ss.getD i ost0).op:Int) != (8:Int))
   ·
    have zT:=eqOfBne zf;refine lB 32 zf (lL hs [.m 33 32] (lG 34 ?_));refine lG 35 (lG 36 (lL hs [.v 37 qF,.m 38 37] (lG 39 ?_)));refine lG 40 (lG 41 (lL hs [.v 42 qF,.v 43 qF,.m 15 43] (lD ?_)));intro a_ ka;exact ⟨_,⟨false,zG,rfl,hs.to _ _,(fun h_=>absurd h_ kD),(fun _=>by omega)⟩,ka.to _ kR⟩
   have zT:=neOfBne zf;refine lB 32 zf (lL hs [.m 33 32,.v 34 (pB b4),.o 35 (iV ((ss.getD i ost0).op)) 0 0 1] ?_);cases zg:(((ss.getD i ost0).op:Int) != (2:Int))
   ·
    have zU:=eqOfBne zg;refine lB 36 zg (lL hs [.v 37 qF,.m 38 37] (lG 39 ?_));refine lG 40 (lG 41 (lL hs [.v 42 qF,.v 43 qF,.m 15 43] (lD ?_)));intro a_ ka;exact ⟨_,⟨false,zG,rfl,hs.to _ _,(fun h_=>absurd h_ kD),(fun _=>by omega)⟩,ka.to _ kR⟩
   have zU:=neOfBne zg;refine lB 36 zg (lL hs [.v 37 qT,.m 38 37,.v 39 (qP b4 3),.o 40 (iV ((ss.getD i ost0).n)) 0 3 1] ?_);cases zi:(((ss.getD i ost0).n:Int) != (0:Int))
   ·
    have zW:=eqOfBne zi;refine lB 41 zi (lL hs [.v 42 qF,.v 43 qF,.m 15 43] (lD ?_));intro a_ ka;exact ⟨_,⟨false,zG,rfl,hs.to _ _,(fun h_=>absurd h_ kD),(fun _=>by omega)⟩,ka.to _ kR⟩
   have zW:=neOfBne zi;refine lB 41 zi (lL hs [.v 42 qT,.v 43 qT,.m 15 43] (lD ?_));intro a_ ka;exact ⟨_,⟨true,zG,rfl,hs.to _ _,(fun _=>by omega),(fun h_=>absurd h_ kD)⟩,ka.to _ kR⟩
  have zP:=oT zc;refine lB 17 zc (lL hs [.m 18 17] (lG 19 ?_));refine lG 20 (lG 21 (lG 22 (lG 23 (lG 24 (lG 25 (lG 26 (lG 27 (lL hs [.v 28 qT,.m 29 28] (lG 30 ?_)))))))));refine lG 31 (lG 32 (lG 33 (lG 34 (lG 35 (lG 36 (lG 37 (lG 38 (lG 39 (lG 40 (lG 41 (lG 42 (lL hs [.v 43 qT,.m 15 43] (lD ?_)))))))))))));intro a_ ka;exact ⟨_,⟨true,h9,rfl,hs.to _ _,(fun _=>by omega),(fun h_=>absurd h_ kD)⟩,ka.to _ kR⟩
 rintro _ _ ⟨zF,za,rfl,hs,yr,hF15⟩;cases zj:(zF)
 ·
  try rw[zj] at hs
  try rw[zj]
  refine cIF ?_;have yw:=hF15 aM;refine CG.join (fun Γ w_=>∃ (zH:Bool) (h_:Hp),Γ=[(1,nV i),(4,qF),(5,pB b4),(6,iV (ari (ss.getD i ost0).op)),(44,.bool zH)]∧SS w h w_ h_ [⟨b4,99,[iV ((ss.getD i ost0).op),iV ((ss.getD i ost0).a),iV ((ss.getD i ost0).b),iV ((ss.getD i ost0).n),.bool (ineg (ss.getD i ost0).q.num),qS Aqx ((lim (iabs (ss.getD i ost0).q.num)).length) cqx,qS Dqx ((lim (odn (ss.getD i ost0))).length) dqx]⟩,⟨b1,25,[iV inp,qS A ts.length c,qS O os.length d]⟩] [] [S3 Dqx (lim (odn (ss.getD i ost0))),S3 Aqx (lim (iabs (ss.getD i ost0).q.num)),Si O os,fun h_=>RSs h_ ts ss,fun h_=>SlO 7 rsc rst0 h_ A ts]∧(zH=true→¬(((ss.getD i ost0).op=2→0≤(ss.getD i ost0).n∧(ss.getD i ost0).n<inp)∧((ss.getD i ost0).op=8 → -12≤(ss.getD i ost0).n∧(ss.getD i ost0).n≤12)))∧(zH=false→(((ss.getD i ost0).op=2→0≤(ss.getD i ost0).n∧(ss.getD i ost0).n<inp)∧((ss.getD i ost0).op=8 → -12≤(ss.getD i ost0).n∧(ss.getD i ost0).n≤12)))) ?_ ?_
  ·
   refine kQ (lL hs [.v 45 (pB b4),.o 46 (iV ((ss.getD i ost0).op)) 0 0 1] ?_);cases zk:(((ss.getD i ost0).op:Int) == (2:Int))
   ·
    have ya:=neOfBeq zk;refine lB 47 zk (lL hs [.m 48 47] (lG 49 ?_));refine lG 50 (lG 51 (lG 52 (lG 53 (lG 54 (lG 55 (lG 56 (lG 57 (lG 58 (lL hs [.v 59 qF,.m 60 59,.v 61 (pB b4),.o 62 (iV ((ss.getD i ost0).op)) 0 0 1] ?_)))))))));cases zl:(((ss.getD i ost0).op:Int) == (8:Int))
    ·
     have yb:=neOfBeq zl;refine lB 63 zl (lL hs [.m 64 63] (lG 65 ?_));refine lG 66 (lG 67 (lG 68 (lG 69 (lG 70 (lG 71 (lG 72 (lL hs [.v 73 qF,.v 74 qF,.m 44 74] (lD ?_))))))));intro a_ ka;exact ⟨_,⟨false,za,rfl,hs.to _ _,(fun h_=>absurd h_ kD),(fun _=>by omega)⟩,ka.to _ kR⟩
    have yb:=eq_of_beq zl;refine lB 63 zl (lL hs [.m 64 63,.v 65 (qP b4 3),.o 66 (iV ((ss.getD i ost0).n)) 0 3 1] ?_);cases zm:(decide (((ss.getD i ost0).n:Int)<(-12:Int)))
    ·
     have yc:=oF zm;refine lB 67 zm (lL hs [.m 68 67,.v 69 (qP b4 3),.o 70 (iV ((ss.getD i ost0).n)) 0 3 1] ?_);cases zn:(decide ((12:Int)<((ss.getD i ost0).n:Int)))
     ·
      have yd:=oF zn;refine lB 71 zn (lL hs [.v 72 qF,.v 73 qF,.v 74 qF,.m 44 74] (lD ?_));intro a_ ka;exact ⟨_,⟨false,za,rfl,hs.to _ _,(fun h_=>absurd h_ kD),(fun _=>by omega)⟩,ka.to _ kR⟩
     have yd:=oT zn;refine lB 71 zn (lL hs [.v 72 qT,.v 73 qT,.v 74 qT,.m 44 74] (lD ?_));intro a_ ka;exact ⟨_,⟨true,za,rfl,hs.to _ _,(fun _=>by omega),(fun h_=>absurd h_ kD)⟩,ka.to _ kR⟩
    have yc:=oT zm;refine lB 67 zm (lL hs [.m 68 67] (lG 69 ?_));refine lG 70 (lG 71 (lL hs [.v 72 qT,.v 73 qT,.v 74 qT,.m 44 74] (lD ?_)));intro a_ ka;exact ⟨_,⟨true,za,rfl,hs.to _ _,(fun _=>by omega),(fun h_=>absurd h_ kD)⟩,ka.to _ kR⟩
   have ya:=eq_of_beq zk;refine lB 47 zk (lL hs [.m 48 47,.v 49 (qP b4 3),.o 50 (iV ((ss.getD i ost0).n)) 0 3 1] ?_);cases zo:(decide (((ss.getD i ost0).n:Int)<(0:Int)))
   ·
    have ye:=oF zo;refine lB 51 zo (lL hs [.m 52 51,.v 53 (qP b4 3),.o 54 (iV ((ss.getD i ost0).n)) 0 3 1,.v 55 (pB b1),.o 56 (iV inp) 1 0 1] ?_);cases zp:(decide ((inp:Int)≤((ss.getD i ost0).n:Int)))
    ·
     have yf:=oF zp;refine lB 57 zp (lL hs [.v 58 qF,.v 59 qF,.m 60 59,.v 61 (pB b4),.o 62 (iV ((ss.getD i ost0).op)) 0 0 1] ?_);have zM:(((ss.getD i ost0).op:Int) == (8:Int))=false:=beqF oM;have phb54:=neOfBeq zM;refine lB 63 zM (lL hs [.m 64 63] (lG 65 ?_));refine lG 66 (lG 67 (lG 68 (lG 69 (lG 70 (lG 71 (lG 72 (lL hs [.v 73 qF,.v 74 qF,.m 44 74] (lD ?_))))))));intro a_ ka;exact ⟨_,⟨false,za,rfl,hs.to _ _,(fun h_=>absurd h_ kD),(fun _=>by omega)⟩,ka.to _ kR⟩
    have yf:=oT zp;refine lB 57 zp (lL hs [.v 58 qT,.v 59 qT,.m 60 59] (lG 61 ?_));refine lG 62 (lG 63 (lG 64 (lG 65 (lG 66 (lG 67 (lG 68 (lG 69 (lG 70 (lG 71 (lG 72 (lG 73 (lL hs [.v 74 qT,.m 44 74] (lD ?_)))))))))))));intro a_ ka;exact ⟨_,⟨true,za,rfl,hs.to _ _,(fun _=>by omega),(fun h_=>absurd h_ kD)⟩,ka.to _ kR⟩
   have ye:=oT zo;refine lB 51 zo (lL hs [.m 52 51] (lG 53 ?_));refine lG 54 (lG 55 (lG 56 (lG 57 (lL hs [.v 58 qT,.v 59 qT,.m 60 59] (lG 61 ?_)))));refine lG 62 (lG 63 (lG 64 (lG 65 (lG 66 (lG 67 (lG 68 (lG 69 (lG 70 (lG 71 (lG 72 (lG 73 (lL hs [.v 74 qT,.m 44 74] (lD ?_)))))))))))));intro a_ ka;exact ⟨_,⟨true,za,rfl,hs.to _ _,(fun _=>by omega),(fun h_=>absurd h_ kD)⟩,ka.to _ kR⟩
  rintro _ _ ⟨zH,zb,rfl,hs,ys,hF44⟩;cases zq:(zH)
  ·
   try rw[zq] at hs
   try rw[zq]
   refine cIF ?_;have yx:=hF44 aM;refine CG.join (fun Γ w_=>∃ (zI:Bool) (h_:Hp),Γ=[(1,nV i),(4,qF),(5,pB b4),(6,iV (ari (ss.getD i ost0).op)),(75,.bool zI)]∧SS w h w_ h_ [⟨b4,99,[iV ((ss.getD i ost0).op),iV ((ss.getD i ost0).a),iV ((ss.getD i ost0).b),iV ((ss.getD i ost0).n),.bool (ineg (ss.getD i ost0).q.num),qS Aqx ((lim (iabs (ss.getD i ost0).q.num)).length) cqx,qS Dqx ((lim (odn (ss.getD i ost0))).length) dqx]⟩,⟨b1,25,[iV inp,qS A ts.length c,qS O os.length d]⟩] [] [S3 Dqx (lim (odn (ss.getD i ost0))),S3 Aqx (lim (iabs (ss.getD i ost0).q.num)),Si O os,fun h_=>RSs h_ ts ss,fun h_=>SlO 7 rsc rst0 h_ A ts]∧(zI=true→¬((0<ari (ss.getD i ost0).op→0≤(ss.getD i ost0).a∧(ss.getD i ost0).a<i)∧(ari (ss.getD i ost0).op=0→(ss.getD i ost0).a=0)))∧(zI=false→((0<ari (ss.getD i ost0).op→0≤(ss.getD i ost0).a∧(ss.getD i ost0).a<i)∧(ari (ss.getD i ost0).op=0→(ss.getD i ost0).a=0)))) ?_ ?_
   ·
    refine kQ (lL hs [.m 76 6] ?_);cases zr:(decide ((0:Int)<(ari (ss.getD i ost0).op:Int)))
    ·
     have yg:=oF zr;refine lB 77 zr (lL hs [.m 78 77] (lG 79 ?_));refine lG 80 (lG 81 (lG 82 (lG 83 (lG 84 (lG 85 (lG 86 (lG 87 (lL hs [.v 88 qF,.m 89 88,.m 90 6] ?_))))))));cases zs:((ari (ss.getD i ost0).op:Int) == (0:Int))
     ·
      have yi:=neOfBeq zs;refine lB 91 zs (lL hs [.m 92 91] (lG 93 ?_));refine lG 94 (lG 95 (lL hs [.v 96 qF,.v 97 qF,.m 75 97] (lD ?_)));intro a_ ka;exact ⟨_,⟨false,zb,rfl,hs.to _ _,(fun h_=>absurd h_ kD),(fun _=>by omega)⟩,ka.to _ kR⟩
     have yi:=eq_of_beq zs;refine lB 91 zs (lL hs [.m 92 91,.v 93 (qP b4 1),.o 94 (iV ((ss.getD i ost0).a)) 0 1 1] ?_);cases zt:(((ss.getD i ost0).a:Int) != (0:Int))
     ·
      have yj:=eqOfBne zt;refine lB 95 zt (lL hs [.v 96 qF,.v 97 qF,.m 75 97] (lD ?_));intro a_ ka;exact ⟨_,⟨false,zb,rfl,hs.to _ _,(fun h_=>absurd h_ kD),(fun _=>by omega)⟩,ka.to _ kR⟩
     have yj:=neOfBne zt;refine lB 95 zt (lL hs [.v 96 qT,.v 97 qT,.m 75 97] (lD ?_));intro a_ ka;exact ⟨_,⟨true,zb,rfl,hs.to _ _,(fun _=>by omega),(fun h_=>absurd h_ kD)⟩,ka.to _ kR⟩
    have yg:=oT zr;refine lB 77 zr (lL hs [.m 78 77,.v 79 (qP b4 1),.o 80 (iV ((ss.getD i ost0).a)) 0 1 1] ?_);cases zu:(decide (((ss.getD i ost0).a:Int)<(0:Int)))
    ·
     have yk:=oF zu;refine lB 81 zu (lL hs [.m 82 81,.v 83 (qP b4 1),.o 84 (iV ((ss.getD i ost0).a)) 0 1 1,.m 85 1] ?_);cases zv:(decide ((i:Int)≤((ss.getD i ost0).a:Int)))
     ·
      have yl:=oF zv;refine lB 86 zv (lL hs [.v 87 qF,.v 88 qF,.m 89 88,.m 90 6] ?_);have zN:((ari (ss.getD i ost0).op:Int) == (0:Int))=false:=beqF oM;have phb75:=neOfBeq zN;refine lB 91 zN (lL hs [.m 92 91] (lG 93 ?_));refine lG 94 (lG 95 (lL hs [.v 96 qF,.v 97 qF,.m 75 97] (lD ?_)));intro a_ ka;exact ⟨_,⟨false,zb,rfl,hs.to _ _,(fun h_=>absurd h_ kD),(fun _=>by omega)⟩,ka.to _ kR⟩
     have yl:=oT zv;refine lB 86 zv (lL hs [.v 87 qT,.v 88 qT,.m 89 88] (lG 90 ?_));refine lG 91 (lG 92 (lG 93 (lG 94 (lG 95 (lG 96 (lL hs [.v 97 qT,.m 75 97] (lD ?_)))))));intro a_ ka;exact ⟨_,⟨true,zb,rfl,hs.to _ _,(fun _=>by omega),(fun h_=>absurd h_ kD)⟩,ka.to _ kR⟩
    have yk:=oT zu;refine lB 81 zu (lL hs [.m 82 81] (lG 83 ?_));refine lG 84 (lG 85 (lG 86 (lL hs [.v 87 qT,.v 88 qT,.m 89 88] (lG 90 ?_))));refine lG 91 (lG 92 (lG 93 (lG 94 (lG 95 (lG 96 (lL hs [.v 97 qT,.m 75 97] (lD ?_)))))));intro a_ ka;exact ⟨_,⟨true,zb,rfl,hs.to _ _,(fun _=>by omega),(fun h_=>absurd h_ kD)⟩,ka.to _ kR⟩
   rintro _ _ ⟨zI,_,rfl,hs,yt,hF75⟩;cases zw:(zI)
   ·
    try rw[zw] at hs
    try rw[zw]
    refine cIF (cK (cSL ?_));have yA:=hF75 aM;refine lL hs [.m 98 6] ?_;cases zx:((ari (ss.getD i ost0).op:Int) == (2:Int))
    ·
     have ym:=neOfBeq zx;refine lB 99 zx (lL hs [.m 100 99] (lG 101 ?_));refine lG 102 (lG 103 (lL hs [.v 104 qF,.m 105 104] (lG 106 ?_)));refine lG 107 (lG 108 (lG 109 (lL hs [.v 110 qF,.m 111 110,.m 112 6] ?_)));cases zA:(decide ((ari (ss.getD i ost0).op:Int)<(2:Int)))
     ·
      have yn:=oF zA;refine lB 113 zA (lL hs [.m 114 113] (lG 115 ?_));exact lG 116 (lG 117 (lL hs [.v 118 qF,.v 119 qF,.m 4 119] (lN (kX (hs.ret [] qF (congrArg Value.bool (decide_eq_false (by dsimp only[Formed,Refers,OSt.stp];omega)).symm))))))
     have yn:=oT zA;refine lB 113 zA (lL hs [.m 114 113,.v 115 (qP b4 2),.o 116 (iV ((ss.getD i ost0).b)) 0 2 1] ?_);cases zB:(((ss.getD i ost0).b:Int) == (0:Int))
     ·
      have yo:=neOfBeq zB;exact lB 117 zB (lL hs [.v 118 qF,.v 119 qF,.m 4 119] (lN (kX (hs.ret [] qF (congrArg Value.bool (decide_eq_false (by dsimp only[Formed,Refers,OSt.stp];omega)).symm)))))
     have yo:=eq_of_beq zB;exact lB 117 zB (lL hs [.v 118 qT,.v 119 qT,.m 4 119] (lN (kX (hs.ret [] qT (congrArg Value.bool (decide_eq_true (by dsimp only[Formed,Refers,OSt.stp];omega)).symm)))))
    have ym:=eq_of_beq zx;refine lB 99 zx (lL hs [.m 100 99,.v 101 (qP b4 2),.o 102 (iV ((ss.getD i ost0).b)) 0 2 1] ?_);cases zD:(decide ((0:Int)≤((ss.getD i ost0).b:Int)))
    ·
     have yp:=oF zD;refine lB 103 zD (lL hs [.v 104 qF,.m 105 104] (lG 106 ?_));refine lG 107 (lG 108 (lG 109 (lL hs [.v 110 qF,.m 111 110,.m 112 6] ?_)));have ⟨yu,phb89⟩:=dF (p:=(ari (ss.getD i ost0).op:Int)<(2:Int)) oM;refine lB 113 yu (lL hs [.m 114 113] (lG 115 ?_));exact lG 116 (lG 117 (lL hs [.v 118 qF,.v 119 qF,.m 4 119] (lN (kX (hs.ret [] qF (congrArg Value.bool (decide_eq_false (by dsimp only[Formed,Refers,OSt.stp];omega)).symm))))))
    have yp:=oT zD;refine lB 103 zD (lL hs [.v 104 qT,.m 105 104,.v 106 (qP b4 2),.o 107 (iV ((ss.getD i ost0).b)) 0 2 1,.m 108 1] ?_);cases zE:(decide (((ss.getD i ost0).b:Int)<(i:Int)))
    ·
     have yq:=oF zE;refine lB 109 zE (lL hs [.v 110 qF,.m 111 110,.m 112 6] ?_);have ⟨yv,phb91⟩:=dF (p:=(ari (ss.getD i ost0).op:Int)<(2:Int)) oM;refine lB 113 yv (lL hs [.m 114 113] (lG 115 ?_));exact lG 116 (lG 117 (lL hs [.v 118 qF,.v 119 qF,.m 4 119] (lN (kX (hs.ret [] qF (congrArg Value.bool (decide_eq_false (by dsimp only[Formed,Refers,OSt.stp];omega)).symm))))))
    have yq:=oT zE;refine lB 109 zE (lL hs [.v 110 qT,.m 111 110] (lG 112 ?_));exact lG 113 (lG 114 (lG 115 (lG 116 (lG 117 (lG 118 (lL hs [.v 119 qT,.m 4 119] (lN (kX (hs.ret [] qT (congrArg Value.bool (decide_eq_true (by dsimp only[Formed,Refers,OSt.stp];omega)).symm))))))))))
   try rw[zw] at hs
   try rw[zw]
   refine cIT (cSL ?_);have yA:=yt aM;exact lL hs [.v 4 qF] (lN (kX (hs.ret [] qF (congrArg Value.bool (decide_eq_false (by dsimp only[Formed,Refers,OSt.stp];omega)).symm))))
  try rw[zq] at hs
  try rw[zq]
  refine cIT (cSL ?_);have yx:=ys aM;exact lL hs [.v 4 qF] (lN (kX (hs.ret [] qF (congrArg Value.bool (decide_eq_false (by dsimp only[Formed,Refers,OSt.stp];omega)).symm))))
 try rw[zj] at hs
 try rw[zj]
 refine cIT (cSL ?_);have yw:=yr aM;exact lL hs [.v 4 qF] (lN (kX (hs.ret [] qF (congrArg Value.bool (decide_eq_false (by dsimp only[Formed,Refers,OSt.stp];omega)).symm))))
theorem rCheckTape (inp:Int)(A:Option Addr)(c:Nat)(ts:List RSt)(ss:List OSt)(O:Option Addr)(d:Nat)(os:List Int)(hl:ss.length≤1000000)(ho:os.length≤1000000)(w:World)(h:Hp)(g:G w h)(hA:SlO 7 rsc rst0 h A ts)(hT:RSs h ts ss)(hO:Si O os h):CV 48 #[.agg #[iV inp,.slice A ts.length c,.slice O os.length d]] w h (iV (chkTp inp (ss.map OSt.stp) os)):=by
 have hs:=((((sS g).aS hA).add (K:=fun h_=>RSs h_ ts ss) hT).aS hO);have hlt:=(hs.f.2.1).len;refine go Tryz.func48 [(0,.agg #[iV inp,qS A ts.length c,qS O os.length d])] rfl (cSL (lA 1 25 ([iV inp,qS A ts.length c,qS O os.length d]) hs (fun b1 w2 h3 hs=>lL hs [.v 2 (iV 0)] (lN (cQ (cSL (lL hs [.v 8 (pB b1),.o 9 (iV inp) 0 0 1] ?_)))))));cases hb4:(decide ((inp:Int)<(0:Int)))
 ·
  have phb4:=oF hb4;refine lB 10 hb4 (lL hs [.m 11 10,.v 12 (pB b1),.o 13 (iV inp) 0 0 1] ?_);cases hb5:(decide ((1000:Int)<(inp:Int)))
  ·
   have phb5:=oF hb5;refine lB 14 hb5 (lL hs [.v 15 qF,.m 16 15,.v 17 (qP b1 1),.o 18 (qS A ts.length c) 0 1 1,.v 19 (nV ts.length)] ?_);cases hb6:(decide ((65536:Int)<(ts.length:Int)))
   ·
    have phb6:=oF hb6;refine lB 20 hb6 (lL hs [.v 21 qF,.m 22 21,.v 23 (qP b1 2),.o 24 (qS O os.length d) 0 2 1,.v 25 (nV os.length)] ?_);cases hb7:(decide ((300:Int)<(os.length:Int)))
    ·
     have phb7:=oF hb7;refine lB 26 hb7 (lL hs [.v 27 qF] (lN (cIF (cK (cSL (lL hs [.v 3 (sZ)] (lN (cQ (cSL (lL hs [.v 4 (iV 0)] (lN (kZ ?_))))))))))));replace hs:=hs.nil 3 1;refine cTo [(1,pB b1),(4,iV 0),(3,sZ)] ?_;have hsh:0≤inp∧inp≤1000∧(ss.map OSt.stp).length≤65536∧os.length≤300:=by rw[List.length_map];omega
     refine CG.loop (fun μ_ Γ w_=>∃ (k:Nat) (waA:Option Addr) (wac:Nat) (L:List Int) (h_:Hp),μ_=ss.length-k∧Γ=[(1,pB b1),(4,nV k),(3,qS waA ((L).length) wac)]∧SS w h w_ h_ [⟨b1,25,[iV inp,qS A ts.length c,qS O os.length d]⟩] [⟨3,1,waA,wac,(L).length,(L).flatMap i64c⟩] [Si O os,fun h_=>RSs h_ ts ss,fun h_=>SlO 7 rsc rst0 h_ A ts]∧k≤ss.length∧L.length=k∧Wts L k∧goS inp (ss.map OSt.stp) []=goS inp ((ss.map OSt.stp).drop k) L) _ ⟨0,none,0,[],h3,rfl,rfl,hs.to _ _,Nat.zero_le _,rfl,fun j hj=>absurd hj (Nat.not_lt_zero j),rfl⟩ ?_;rintro _ _ w8 ⟨k,waA,wac,L,h9,hm10,rfl,hs,hk,hll,hWt,hgo⟩;refine cQ (cSL (lL hs [.m 28 4,.v 29 (qP b1 1),.o 30 (qS A ts.length c) 0 1 1,.v 31 (nV ts.length)] ?_));cases zc:(decide ((k:Int)<(ts.length:Int)))
     ·
      have zo:=oF zc;refine lB 32 zc (lN (cIF (CG.exit ?_)))
      show CG _ _ _ _ _ _ _ _
      refine cQ (cSL (lL hs [.v 7 (iV 0)] (lN (kZ ?_))));refine cTo _ (CG.loop (fun μ_ Γ w_=>∃ (j:Nat) (h_:Hp),μ_=os.length-j∧Γ=[(1,pB b1),(7,nV j)]∧SS w h w_ h_ [⟨b1,25,[iV inp,qS A ts.length c,qS O os.length d]⟩] [⟨3,1,waA,wac,(L).length,(L).flatMap i64c⟩] [Si O os,fun h_=>RSs h_ ts ss,fun h_=>SlO 7 rsc rst0 h_ A ts]∧j≤os.length∧(∀ i,i<j→0≤os.getD i 0∧os.getD i 0<ss.length)) _ ⟨0,h9,rfl,rfl,hs.to _ _,Nat.zero_le _,fun j hj=>absurd hj (Nat.not_lt_zero j)⟩ ?_);rintro _ _ _ ⟨j,_,hm14,rfl,hs,hj,hou⟩;refine cQ (cSL (lL hs [.m 84 7,.v 85 (qP b1 2),.o 86 (qS O os.length d) 0 2 1,.v 87 (nV os.length)] ?_));cases zd:(decide ((j:Int)<(os.length:Int)))
      ·
       have zp:=oF zd;refine lB 88 zd (lN (cIF (CG.exit ?_)))
       show CG _ _ _ _ _ _ _ _
       exact cSL (lL hs [.v 2 (iV 0)] (lN (kX (hs.ret [] (iV 0) (congrArg (Value.int .i64) (chkTp_ok hsh (by rw[hgo,List.drop_eq_nil_of_le (by rw[List.length_map];omega)];rfl) (fun i hi=>by rw[List.length_map];exact hou i oM)).symm)))))
      have zp:=oT zd;refine lB 88 zd (lN (cIT (cK (cQ (kZ (cQ (cR 17 [] mixed hs al_nil ?_)))))));refine eV 0 91 (qP b1 2) (eO 1 92 [(0,2,1)] (qS O os.length d) hs (eV 2 93 (nV j) (eX 3 94 O os.length d 1 (j:Nat) j ((hs.f.1).ok oM) (eH 4 95 (iV (os.getD j 0)) hs ((hs.f.1).el j oM) ?_))));cases ze:(decide ((os.getD j 0:Int)<(0:Int)))
      ·
       have zq:=oF ze;refine eB 5 96 ze (eV 6 97 qF (eV 7 98 (qP b1 2) (eO 8 99 [(0,2,1)] (qS O os.length d) hs (eV 9 100 (nV j) (eX 10 101 O os.length d 1 (j:Nat) j ((hs.f.1).ok oM) (eH 11 102 (iV (os.getD j 0)) hs ((hs.f.1).el j oM) (eV 12 103 (qP b1 1) (eO 13 104 [(0,1,1)] (qS A ts.length c) hs (eV 14 105 (nV ts.length) ?_)))))))));cases zf:(decide ((ts.length:Int)≤(os.getD j 0:Int)))
       ·
        have zr:=oF zf;refine eB 15 106 zf (eV 16 107 qF (eD0 hs (fun _ zD hs=>tN (cIF (cK (kQ (lL hs [.m 89 7] (lIn 90 ((j:Nat)+1) (j+1) ?_))))))));refine lL hs [.m 7 90] (lD ?_);intro a_ ka;refine ⟨_,_,?_,⟨j+1,zD,rfl,rfl,hs.to _ _,oM,(fun i hi=>by by_cases e:i=j;(subst e;omega);exact hou i oM)⟩,ka.to _ kR⟩
        omega
       have zr:=oT zf;exact eB 15 106 zf (eV 16 107 qT (eD0 hs (fun _ _ hs=>tN (cIT (cSL (lL hs [.v 2 (iV 1)] (lN (kX (hs.ret [] (iV 1) (congrArg (Value.int .i64) (chkTp_arg hsh (by rw[hgo,List.drop_eq_nil_of_le (by rw[List.length_map];omega)];rfl) (fun h_=>by have:=h_ j oM;rw[List.length_map] at this;omega)).symm))))))))))
      have zq:=oT ze;exact eB 5 96 ze (eV 6 97 qT (eG 7 98 (eG 8 99 (eG 9 100 (eG 10 101 (eG 11 102 (eG 12 103 (eG 13 104 (eG 14 105 (eG 15 106 (eV 16 107 qT (eD0 hs (fun _ _ hs=>tN (cIT (cSL (lL hs [.v 2 (iV 1)] (lN (kX (hs.ret [] (iV 1) (congrArg (Value.int .i64) (chkTp_arg hsh (by rw[hgo,List.drop_eq_nil_of_le (by rw[List.length_map];omega)];rfl) (fun h_=>by have:=h_ j oM;rw[List.length_map] at this;omega)).symm))))))))))))))))))))
     have zo:=oT zc;refine lB 32 zc (lN (cIT (cK (cQ (kZ (cQ (cSL (lL hs [.o 35 (.agg #[iV inp,qS A ts.length c,qS O os.length d]) 0 0 3,.m 36 4] (lC 37 hs (rRight inp A c ts ss O d os k oM oM _ _ hs.g hs.f.r.1 hs.f.2.1 hs.f.1) ?_)))))))));rintro _ _ _ hs rfl;cases zn:(decide (Formed inp k (ss.getD k ost0).stp))
     ·
      have zs:=oF zn;exact lL hs [.v 38 qT] (lN (cIT (cSL (lL hs [.v 2 (iV 2)] (lN (kX (hs.ret [] (iV 2) (congrArg (Value.int .i64) ((chkTp_go hsh (by rw[hgo,goS_bad (by rw[List.length_map];omega) hll (by rw[stp_getD oM];exact ‹¬Formed inp k (ss.getD k ost0).stp›)];decide)).trans (hgo.trans (goS_bad (by rw[List.length_map];omega) hll (by rw[stp_getD oM];exact ‹¬Formed inp k (ss.getD k ost0).stp›)))).symm))))))))
     have zs:=oT zn;refine lL hs [.v 38 qF] (lN (cIF (cK (cSL (lL hs [.v 39 (qP b1 1),.o 40 (qS A ts.length c) 0 1 1,.m 41 4] (lX 42 A ts.length c 7 (k:Nat) k ((hs.f.r.1).ok oM) ?_))))));obtain ⟨Aqx,cqx,Dqx,dqx,eqx,hcqx,hdqx,hAqx,hDqx⟩:=((hs.f.2.1).at_ k oM).opn;replace hs:=hs.aP hAqx hDqx;refine lHe 43 (.agg #[iV ((ts.getD k rst0).op),iV ((ts.getD k rst0).a),iV ((ts.getD k rst0).b),iV ((ts.getD k rst0).n),.bool ((ts.getD k rst0).t.1),(ts.getD k rst0).t.2.1,(ts.getD k rst0).t.2.2]) hs ((hs.f.q.1).el k oM) eqx (lA 5 99 ([iV 0,iV 0,iV 0,iV 0,qF,sZ,sZ]) hs (fun zb _ _ hs=>lP 0 0 ([iV ((ss.getD k ost0).op),iV ((ss.getD k ost0).a),iV ((ss.getD k ost0).b),iV ((ss.getD k ost0).n),.bool (ineg (ss.getD k ost0).q.num),qS Aqx ((lim (iabs (ss.getD k ost0).q.num)).length) cqx,qS Dqx ((lim (odn (ss.getD k ost0))).length) dqx]) hs (fun _ hs=>lNS (lL hs [.v 6 (iV 1)] (lN (cQ (cSL (lL hs [.v 44 (pB zb),.o 45 (iV ((ss.getD k ost0).op)) 0 0 1] (lC 46 hs (rKids (ss.getD k ost0).op _ _ hs.g) ?_)))))))));rintro _ _ _ hs rfl;have hac:=ari_cases (ss.getD k ost0).op;obtain ⟨f0,f1,f2,f3,f4,f5,f6⟩:=‹Formed inp k (ss.getD k ost0).stp›
     dsimp only[Refers,OSt.stp] at f0 f1 f2 f3 f4 f5 f6
     have hwa:=fun h0=>hWt (ss.getD k ost0).a.toNat h0
     have hwb:=fun h0=>hWt (ss.getD k ost0).b.toNat h0
     have hws:=hWt.weight ‹Formed inp k (ss.getD k ost0).stp›;refine lN (kZ (cSL ?_));cases zg:((ari (ss.getD k ost0).op:Int) == (1:Int))
     ·
      have zt:=neOfBeq zg;refine lB 48 zg (lL hs [.m 47 48] (lN (cIF (cSL ?_))));cases zi:((ari (ss.getD k ost0).op:Int) == (2:Int))
      ·
       have zu:=neOfBeq zi;refine lB 60 zi (lL hs [.m 59 60] (lN (cIF (cK (cQ (cSL ?_))))));have hX37:(1:Int)=weightS (ss.getD k ost0).stp L:=by rw[weigh_o hWt ‹Formed inp k (ss.getD k ost0).stp›];(try unfold weighS);first|(rw[if_pos (show ari (ss.getD k ost0).op=0 by omega)])|(rw[if_neg (show ¬ari (ss.getD k ost0).op=0 by omega),if_neg (show ¬ari (ss.getD k ost0).op=2 by omega)])|(rw[if_neg (show ¬ari (ss.getD k ost0).op=0 by omega),if_pos (show ari (ss.getD k ost0).op=2 by omega),if_neg (show ¬(ss.getD k ost0).op=11 by omega),if_neg (show ¬((ss.getD k ost0).op=8∧(ss.getD k ost0).n≠0) by omega)];omega)
       refine lV 78 (iV (weightS (ss.getD k ost0).stp L)) ?_ (hr:=rint (n:=(1:Int)) kR hX37);cases zj:(decide ((65536:Int)<(weightS (ss.getD k ost0).stp L:Int)))
       ·
        have zv:=oF zj;refine lB 79 zj (lN (cIF (cK (kQ (lL hs [.m 80 3] ?_)))));have hX39:(1:Int)=weightS (ss.getD k ost0).stp L:=by rw[weigh_o hWt ‹Formed inp k (ss.getD k ost0).stp›];(try unfold weighS);first|(rw[if_pos (show ari (ss.getD k ost0).op=0 by omega)])|(rw[if_neg (show ¬ari (ss.getD k ost0).op=0 by omega),if_neg (show ¬ari (ss.getD k ost0).op=2 by omega)])|(rw[if_neg (show ¬ari (ss.getD k ost0).op=0 by omega),if_pos (show ari (ss.getD k ost0).op=2 by omega),if_neg (show ¬(ss.getD k ost0).op=11 by omega),if_neg (show ¬((ss.getD k ost0).op=8∧(ss.getD k ost0).n≠0) by omega)];omega)
        refine lV 81 (iV (weightS (ss.getD k ost0).stp L)) ?_ (hr:=rint (n:=(1:Int)) kR hX39);refine lR 82 3 1 ([iV (weightS (ss.getD k ost0).stp L)]) hs (fun zE _ _ hs=>lY 83 0 3 1 wac waA L i64c (weightS (ss.getD k ost0).stp L) 8 zE (iV 0) hs hs.f.1 (fun zF zG _ zH hs=>lL hs [.m 3 83] (lN (kQ (lL hs [.m 33 4] (lIn 34 ((k:Nat)+1) (k+1) ?_))))));refine lL hs [.m 4 34] (lD ?_);intro a_ ka;replace hs:=hs.tl.tl.tl;replace hs:=hs.drop 1 0;refine ⟨_,_,?_,⟨k+1,zF,zG,L++[weightS (ss.getD k ost0).stp L],zH,rfl,rfl,hs.to _ _,oM,(by simp;omega),(Wts.app hWt hll hws.1 oM),(hgo.trans ((goS_step (by rw[List.length_map];omega) hll (by rw[stp_getD oM];exact ‹Formed inp k (ss.getD k ost0).stp›) (by rw[stp_getD oM];omega)).trans (by rw[stp_getD oM])))⟩,ka.to _ kR⟩
        omega
       have zv:=oT zj;exact lB 79 zj (lN (cIT (cSL (lL hs [.v 2 (iV 18)] (lN (kX (hs.ret [] (iV 18) (congrArg (Value.int .i64) ((chkTp_go hsh (by rw[hgo,goS_over (by rw[List.length_map];omega) hll (by rw[stp_getD oM];exact ‹Formed inp k (ss.getD k ost0).stp›) (by rw[stp_getD oM];omega)];decide)).trans (hgo.trans (goS_over (by rw[List.length_map];omega) hll (by rw[stp_getD oM];exact ‹Formed inp k (ss.getD k ost0).stp›) (by rw[stp_getD oM];omega)))).symm))))))))
      have zu:=eq_of_beq zi;refine lB 60 zi (lL hs [.m 59 60] (lN (cIT (cR 17 [] mixed hs al_nil ?_))));refine eV 0 61 (pB zb) (eO 1 62 [(0,0,1)] (iV ((ss.getD k ost0).op)) hs (eV 2 63 (qP zb 3) (eO 3 64 [(0,3,1)] (iV ((ss.getD k ost0).n)) hs (eV 4 65 (qS waA ((L).length) wac) (eV 5 66 (qP zb 1) (eO 6 67 [(0,1,1)] (iV ((ss.getD k ost0).a)) hs ?_))))));obtain ⟨za,zw⟩:=hs.rowA 0 (A:=waA) (c:=wac) (m:=(L).length) (ty:=3) (sz:=1) (cs:=(L).flatMap i64c) oM;subst zw;refine eX 7 68 (sB za) ((L).length) wac 1 ((ss.getD k ost0).a) ((ss.getD k ost0).a.toNat) rfl (eRq (ty:=3) (sz:=1) (c:=wac) (m:=(L).length) (b:=za) (cs:=(L).flatMap i64c) 8 69 0 (iV (L.getD ((ss.getD k ost0).a.toNat) 0)) (i64c (L.getD ((ss.getD k ost0).a.toNat) 0)) hs (row_el (f:=i64c) (sz:=1) (fun _=>rfl) 0 L ((ss.getD k ost0).a.toNat) oM) (eV 9 70 (qS (sB za) ((L).length) wac) (eV 10 71 (qP zb 2) (eO 11 72 [(0,2,1)] (iV ((ss.getD k ost0).b)) hs (eX 12 73 (sB za) ((L).length) wac 1 ((ss.getD k ost0).b) ((ss.getD k ost0).b.toNat) rfl (eRq (ty:=3) (sz:=1) (c:=wac) (m:=(L).length) (b:=za) (cs:=(L).flatMap i64c) 13 74 0 (iV (L.getD ((ss.getD k ost0).b.toNat) 0)) (i64c (L.getD ((ss.getD k ost0).b.toNat) 0)) hs (row_el (f:=i64c) (sz:=1) (fun _=>rfl) 0 L ((ss.getD k ost0).b.toNat) oM) (eI 14 75 ((L.getD ((ss.getD k ost0).a.toNat) 0)+(L.getD ((ss.getD k ost0).b.toNat) 0)) (eV 15 76 (iV (min ((L.getD ((ss.getD k ost0).a.toNat) 0)+(L.getD ((ss.getD k ost0).b.toNat) 0):Int) (1073741824:Int))) ?_ (hv:=fun _=>rint (n:=(if (1073741824:Int)<((L.getD ((ss.getD k ost0).a.toNat) 0)+(L.getD ((ss.getD k ost0).b.toNat) 0):Int) then (1073741824:Int) else ((L.getD ((ss.getD k ost0).a.toNat) 0)+(L.getD ((ss.getD k ost0).b.toNat) 0):Int))) kR (by simp only[imin2]))))))))));refine eC 16 77 hs (fun _ _ hs=>rWeigh (ss.getD k ost0).op (ss.getD k ost0).n (min ((L.getD ((ss.getD k ost0).a.toNat) 0)+(L.getD ((ss.getD k ost0).b.toNat) 0):Int) (1073741824:Int)) oM oM _ _ hs.g) ?_;rintro _ _ _ _ _ hs rfl;refine eD0 hs (fun _ _ hs=>tV 17 6 (iV (weighS (ss.getD k ost0).op (ss.getD k ost0).n (min ((L.getD ((ss.getD k ost0).a.toNat) 0)+(L.getD ((ss.getD k ost0).b.toNat) 0):Int) (1073741824:Int)))) (tN (cTo [(1,pB b1),(4,nV k),(3,qS (sB za) ((L).length) wac),(6,iV (weighS (ss.getD k ost0).op (ss.getD k ost0).n (min ((L.getD ((ss.getD k ost0).a.toNat) 0)+(L.getD ((ss.getD k ost0).b.toNat) 0):Int) (1073741824:Int))))] ?_)));refine cQ (cSL ?_);have hX59:(weighS (ss.getD k ost0).op (ss.getD k ost0).n (min ((L.getD ((ss.getD k ost0).a.toNat) 0)+(L.getD ((ss.getD k ost0).b.toNat) 0):Int) (1073741824:Int)):Int)=weightS (ss.getD k ost0).stp L:=by rw[weigh_o hWt ‹Formed inp k (ss.getD k ost0).stp›];(try unfold weighS);first|(rw[if_pos (show ari (ss.getD k ost0).op=0 by omega)])|(rw[if_neg (show ¬ari (ss.getD k ost0).op=0 by omega),if_neg (show ¬ari (ss.getD k ost0).op=2 by omega)])|(rw[if_neg (show ¬ari (ss.getD k ost0).op=0 by omega),if_pos (show ari (ss.getD k ost0).op=2 by omega),if_neg (show ¬(ss.getD k ost0).op=11 by omega),if_neg (show ¬((ss.getD k ost0).op=8∧(ss.getD k ost0).n≠0) by omega)];omega)
      refine lV 78 (iV (weightS (ss.getD k ost0).stp L)) ?_ (hr:=rint (n:=(weighS (ss.getD k ost0).op (ss.getD k ost0).n (min ((L.getD ((ss.getD k ost0).a.toNat) 0)+(L.getD ((ss.getD k ost0).b.toNat) 0):Int) (1073741824:Int)):Int)) kR hX59);cases zk:(decide ((65536:Int)<(weightS (ss.getD k ost0).stp L:Int)))
      ·
       have zx:=oF zk;refine lB 79 zk (lN (cIF (cK (kQ (lL hs [.m 80 3] ?_)))));have hX61:(weighS (ss.getD k ost0).op (ss.getD k ost0).n (min ((L.getD ((ss.getD k ost0).a.toNat) 0)+(L.getD ((ss.getD k ost0).b.toNat) 0):Int) (1073741824:Int)):Int)=weightS (ss.getD k ost0).stp L:=by rw[weigh_o hWt ‹Formed inp k (ss.getD k ost0).stp›];(try unfold weighS);first|(rw[if_pos (show ari (ss.getD k ost0).op=0 by omega)])|(rw[if_neg (show ¬ari (ss.getD k ost0).op=0 by omega),if_neg (show ¬ari (ss.getD k ost0).op=2 by omega)])|(rw[if_neg (show ¬ari (ss.getD k ost0).op=0 by omega),if_pos (show ari (ss.getD k ost0).op=2 by omega),if_neg (show ¬(ss.getD k ost0).op=11 by omega),if_neg (show ¬((ss.getD k ost0).op=8∧(ss.getD k ost0).n≠0) by omega)];omega)
       refine lV 81 (iV (weightS (ss.getD k ost0).stp L)) ?_ (hr:=rint (n:=(weighS (ss.getD k ost0).op (ss.getD k ost0).n (min ((L.getD ((ss.getD k ost0).a.toNat) 0)+(L.getD ((ss.getD k ost0).b.toNat) 0):Int) (1073741824:Int)):Int)) kR hX61);refine lR 82 3 1 ([iV (weightS (ss.getD k ost0).stp L)]) hs (fun zI _ _ hs=>lY 83 0 3 1 wac (sB za) L i64c (weightS (ss.getD k ost0).stp L) 8 zI (iV 0) hs hs.f.1 (fun zJ zK _ zL hs=>lL hs [.m 3 83] (lN (kQ (lL hs [.m 33 4] (lIn 34 ((k:Nat)+1) (k+1) ?_))))));refine lL hs [.m 4 34] (lD ?_);intro a_ ka;replace hs:=hs.tl.tl.tl;replace hs:=hs.drop 1 0;refine ⟨_,_,?_,⟨k+1,zJ,zK,L++[weightS (ss.getD k ost0).stp L],zL,rfl,rfl,hs.to _ _,oM,(by simp;omega),(Wts.app hWt hll hws.1 oM),(hgo.trans ((goS_step (by rw[List.length_map];omega) hll (by rw[stp_getD oM];exact ‹Formed inp k (ss.getD k ost0).stp›) (by rw[stp_getD oM];omega)).trans (by rw[stp_getD oM])))⟩,ka.to _ kR⟩
       omega
      have zx:=oT zk;exact lB 79 zk (lN (cIT (cSL (lL hs [.v 2 (iV 18)] (lN (kX (hs.ret [] (iV 18) (congrArg (Value.int .i64) ((chkTp_go hsh (by rw[hgo,goS_over (by rw[List.length_map];omega) hll (by rw[stp_getD oM];exact ‹Formed inp k (ss.getD k ost0).stp›) (by rw[stp_getD oM];omega)];decide)).trans (hgo.trans (goS_over (by rw[List.length_map];omega) hll (by rw[stp_getD oM];exact ‹Formed inp k (ss.getD k ost0).stp›) (by rw[stp_getD oM];omega)))).symm))))))))
     have zt:=eq_of_beq zg;refine lB 48 zg (lL hs [.m 47 48] (lN (cIT (cR 10 [] mixed hs al_nil ?_))));refine eV 0 49 (pB zb) (eO 1 50 [(0,0,1)] (iV ((ss.getD k ost0).op)) hs (eV 2 51 (qP zb 3) (eO 3 52 [(0,3,1)] (iV ((ss.getD k ost0).n)) hs (eV 4 53 (qS waA ((L).length) wac) (eV 5 54 (qP zb 1) (eO 6 55 [(0,1,1)] (iV ((ss.getD k ost0).a)) hs ?_))))));obtain ⟨zm,zA⟩:=hs.rowA 0 (A:=waA) (c:=wac) (m:=(L).length) (ty:=3) (sz:=1) (cs:=(L).flatMap i64c) oM;subst zA;refine eX 7 56 (sB zm) ((L).length) wac 1 ((ss.getD k ost0).a) ((ss.getD k ost0).a.toNat) rfl (eRq (ty:=3) (sz:=1) (c:=wac) (m:=(L).length) (b:=zm) (cs:=(L).flatMap i64c) 8 57 0 (iV (L.getD ((ss.getD k ost0).a.toNat) 0)) (i64c (L.getD ((ss.getD k ost0).a.toNat) 0)) hs (row_el (f:=i64c) (sz:=1) (fun _=>rfl) 0 L ((ss.getD k ost0).a.toNat) oM) (eC 9 58 hs (fun _ _ hs=>rWeigh (ss.getD k ost0).op (ss.getD k ost0).n (L.getD ((ss.getD k ost0).a.toNat) 0) oM oM _ _ hs.g) ?_));rintro _ _ _ _ _ hs rfl;refine eD0 hs (fun _ _ hs=>tV 10 6 (iV (weighS (ss.getD k ost0).op (ss.getD k ost0).n (L.getD ((ss.getD k ost0).a.toNat) 0))) (tN (cQ (cSL ?_))));have hX81:(weighS (ss.getD k ost0).op (ss.getD k ost0).n (L.getD ((ss.getD k ost0).a.toNat) 0):Int)=weightS (ss.getD k ost0).stp L:=by rw[weigh_o hWt ‹Formed inp k (ss.getD k ost0).stp›];(try unfold weighS);first|(rw[if_pos (show ari (ss.getD k ost0).op=0 by omega)])|(rw[if_neg (show ¬ari (ss.getD k ost0).op=0 by omega),if_neg (show ¬ari (ss.getD k ost0).op=2 by omega)])|(rw[if_neg (show ¬ari (ss.getD k ost0).op=0 by omega),if_pos (show ari (ss.getD k ost0).op=2 by omega),if_neg (show ¬(ss.getD k ost0).op=11 by omega),if_neg (show ¬((ss.getD k ost0).op=8∧(ss.getD k ost0).n≠0) by omega)];omega)
     refine lV 78 (iV (weightS (ss.getD k ost0).stp L)) ?_ (hr:=rint (n:=(weighS (ss.getD k ost0).op (ss.getD k ost0).n (L.getD ((ss.getD k ost0).a.toNat) 0):Int)) kR hX81);cases zl:(decide ((65536:Int)<(weightS (ss.getD k ost0).stp L:Int)))
     ·
      have zB:=oF zl;refine lB 79 zl (lN (cIF (cK (kQ (lL hs [.m 80 3] ?_)))));have hX83:(weighS (ss.getD k ost0).op (ss.getD k ost0).n (L.getD ((ss.getD k ost0).a.toNat) 0):Int)=weightS (ss.getD k ost0).stp L:=by rw[weigh_o hWt ‹Formed inp k (ss.getD k ost0).stp›];(try unfold weighS);first|(rw[if_pos (show ari (ss.getD k ost0).op=0 by omega)])|(rw[if_neg (show ¬ari (ss.getD k ost0).op=0 by omega),if_neg (show ¬ari (ss.getD k ost0).op=2 by omega)])|(rw[if_neg (show ¬ari (ss.getD k ost0).op=0 by omega),if_pos (show ari (ss.getD k ost0).op=2 by omega),if_neg (show ¬(ss.getD k ost0).op=11 by omega),if_neg (show ¬((ss.getD k ost0).op=8∧(ss.getD k ost0).n≠0) by omega)];omega)
      refine lV 81 (iV (weightS (ss.getD k ost0).stp L)) ?_ (hr:=rint (n:=(weighS (ss.getD k ost0).op (ss.getD k ost0).n (L.getD ((ss.getD k ost0).a.toNat) 0):Int)) kR hX83);refine lR 82 3 1 ([iV (weightS (ss.getD k ost0).stp L)]) hs (fun zM _ _ hs=>lY 83 0 3 1 wac (sB zm) L i64c (weightS (ss.getD k ost0).stp L) 8 zM (iV 0) hs hs.f.1 (fun zN zP _ zQ hs=>lL hs [.m 3 83] (lN (kQ (lL hs [.m 33 4] (lIn 34 ((k:Nat)+1) (k+1) ?_))))));refine lL hs [.m 4 34] (lD ?_);intro a_ ka;replace hs:=hs.tl.tl.tl;replace hs:=hs.drop 1 0;refine ⟨_,_,?_,⟨k+1,zN,zP,L++[weightS (ss.getD k ost0).stp L],zQ,rfl,rfl,hs.to _ _,oM,(by simp;omega),(Wts.app hWt hll hws.1 oM),(hgo.trans ((goS_step (by rw[List.length_map];omega) hll (by rw[stp_getD oM];exact ‹Formed inp k (ss.getD k ost0).stp›) (by rw[stp_getD oM];omega)).trans (by rw[stp_getD oM])))⟩,ka.to _ kR⟩
      omega
     have zB:=oT zl;exact lB 79 zl (lN (cIT (cSL (lL hs [.v 2 (iV 18)] (lN (kX (hs.ret [] (iV 18) (congrArg (Value.int .i64) ((chkTp_go hsh (by rw[hgo,goS_over (by rw[List.length_map];omega) hll (by rw[stp_getD oM];exact ‹Formed inp k (ss.getD k ost0).stp›) (by rw[stp_getD oM];omega)];decide)).trans (hgo.trans (goS_over (by rw[List.length_map];omega) hll (by rw[stp_getD oM];exact ‹Formed inp k (ss.getD k ost0).stp›) (by rw[stp_getD oM];omega)))).symm))))))))
    have phb7:=oT hb7;exact lB 26 hb7 (lL hs [.v 27 qT] (lN (cIT (cSL (lL hs [.v 2 (iV 5)] (lN (kX (hs.ret [] (iV 5) (congrArg (Value.int .i64) (chkTp_shape (by rw[List.length_map];omega)).symm)))))))))
   have phb6:=oT hb6;refine lB 20 hb6 (lL hs [.v 21 qT,.m 22 21] (lG 23 ?_));exact lG 24 (lG 25 (lG 26 (lL hs [.v 27 qT] (lN (cIT (cSL (lL hs [.v 2 (iV 5)] (lN (kX (hs.ret [] (iV 5) (congrArg (Value.int .i64) (chkTp_shape (by rw[List.length_map];omega)).symm)))))))))))
  have phb5:=oT hb5;refine lB 14 hb5 (lL hs [.v 15 qT,.m 16 15] (lG 17 ?_));refine lG 18 (lG 19 (lG 20 (lL hs [.v 21 qT,.m 22 21] (lG 23 ?_))));exact lG 24 (lG 25 (lG 26 (lL hs [.v 27 qT] (lN (cIT (cSL (lL hs [.v 2 (iV 5)] (lN (kX (hs.ret [] (iV 5) (congrArg (Value.int .i64) (chkTp_shape (by rw[List.length_map];omega)).symm)))))))))))
 have phb4:=oT hb4;refine lB 10 hb4 (lL hs [.m 11 10] (lG 12 ?_));refine lG 13 (lG 14 (lL hs [.v 15 qT,.m 16 15] (lG 17 ?_)));refine lG 18 (lG 19 (lG 20 (lL hs [.v 21 qT,.m 22 21] (lG 23 ?_))));exact lG 24 (lG 25 (lG 26 (lL hs [.v 27 qT] (lN (cIT (cSL (lL hs [.v 2 (iV 5)] (lN (kX (hs.ret [] (iV 5) (congrArg (Value.int .i64) (chkTp_shape (by rw[List.length_map];omega)).symm)))))))))))
end Go.Proofs.YtmkcmnhnmajheaaGreatDoor
