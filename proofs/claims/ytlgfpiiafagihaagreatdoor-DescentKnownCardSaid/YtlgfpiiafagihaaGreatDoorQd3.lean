/- Laws and contracts that the card of this claim stands on, part 4. No condition of ours. -/
import Derived.Test.YtlgfpiiafagihaaGreatDoorQd0
import Derived.Test.YtlgfpiiafagihaaGreatDoorQd1
import Derived.Test.YtlgfpiiafagihaaGreatDoorQd2
set_option maxRecDepth 100000
set_option maxHeartbeats 4000000
namespace Go.Proofs.YtlgfpiiafagihaaGreatDoor
open Go.RowKit
open Go.RowKit Go.Shelf
theorem DD (a b:Rat)(ha:LQ 100000000 a)(hb:LQ 100000000 b)(hwa:a.den=1)(hwb:b.den≠1)(w:World)(h:Hp)(g:G w h):CV 75 #[qv a,qv b] w h (iV (dx a b)):=by
 have hs:=sS g;have ha_:=ha;have hb_:=hb;obtain ⟨ha1,ha2⟩:=ha_;obtain ⟨hb1,hb2⟩:=hb_;have hx1:=dw a.num b.den;have hx2:=dw b.num a.den;refine go Tryz.func75 [(0,qv a),(1,qv b)] rfl (aE (lA 2 28 (qc a) hs (fun b1 w2 h3 hs=>lA 3 28 (qc b) hs (fun b4 w5 h6 hs=>lL hs [.v 4 (iV 0)] (af (cQ (cR 13 [] mixed hs aq ?_)))))));refine eO 0 5 [(1,0,5)] (qv a) hs (ak 1 6 hs (fun _ _ hs=>dL a aM aM _ _ hs.g) (fun w7 h8 hs=>eV 2 7 qT (eO 3 8 [(0,0,5)] (qv b) hs (ak 4 9 hs (fun _ _ hs=>e9 b aM aM _ _ hs.g) (fun w9 _ hs=>eV 5 10 qF (eV 6 11 qF (eO 7 12 [(1,0,5)] (qv a) hs (eO 9 14 [(0,0,5)] (qv b) hs (ak 8 13 hs (fun _ _ hs=>d6 a aM _ _ hs.g) (fun _ _ hs=>ak 10 15 hs (fun _ _ hs=>d6 b aM _ _ hs.g) (fun _ _ hs=>?_)))))))))));cases za:(((a.num).sign:Int) != ((b.num).sign:Int))
 ·
  have zb:=aI za;refine eB 11 16 za (eV 12 17 qF (bM hs (fun _ _ hs=>tN (cM (cK (cQ (cR 11 [] mixed hs aq ?_)))))));exact eV 0 23 (pB b1) (eO 1 24 [(1,0,3)] (iv a.num) hs (eO 2 25 [(0,0,5)] (qv b) hs (eV 5 28 (pB b4) (eO 6 29 [(0,0,3)] (iv b.num) hs (eO 7 30 [(1,0,5)] (qv a) hs (ak 3 26 hs (fun _ _ hs=>eM b aM _ _ hs.g) (fun _ _ hs=>ak 4 27 hs (fun _ _ hs=>gc a.num b.den bK _ _ hs.g) (fun _ _ hs=>ak 8 31 hs (fun _ _ hs=>eM a aM _ _ hs.g) (fun _ _ hs=>ak 9 32 hs (fun _ _ hs=>gc b.num a.den bK _ _ hs.g) (fun _ _ hs=>ak 10 33 hs (fun _ _ hs=>sj (a.num*(b.den:Int)) (b.num*(a.den:Int)) bK bK _ _ hs.g) (fun _ _ hs=>bM hs (fun _ _ hs=>tV 11 4 (iV (dG (a.num*(b.den:Int)) (b.num*(a.den:Int)))) (tN (kX (hs.ret [] (iV (dG (a.num*(b.den:Int)) (b.num*(a.den:Int)))) (congrArg (Value.int .i64) (by first|rfl|exact fg hwa hwb|exact fU ‹_›)))))))))))))))))
 have zb:=aJ za;exact eB 11 16 za (eV 12 17 qT (bM hs (fun _ _ hs=>tN (bS (aa hs [.v 18 (pB b1),.o 19 (iv a.num) 1 0 3,.v 20 (pB b4),.o 21 (iv b.num) 0 0 3] (ag 22 hs (sj a.num b.num bK bK _ _ hs.g) (fun _ _ hs=>lL hs [.m 4 22] (ae hs [] (iV (dG a.num b.num)) (congrArg (Value.int .i64) (by first|rfl|exact fg hwa hwb|exact fU ‹_›))))))))))
theorem mX (a b:Rat)(ha:LQ 100000000 a)(hb:LQ 100000000 b)(w:World)(h:Hp)(g:G w h):CV 75 #[qv a,qv b] w h (iV (dx a b)):=by
 by_cases h1:a.den=1
 ·by_cases h2:b.den=1
  ·exact Do a b ha hb h1 h2 w h g
  ·exact DD a b ha hb h1 h2 w h g
 ·exact Cl a b ha hb h1 w h g
theorem jz {a b:Rat}:dx a b<0↔a<b:=by
 unfold dx dG
 rw[Rat.lt_iff]
 split
 ·simp;assumption
 ·split<;>simp<;>omega
theorem fH {a b:Rat}:dx a b>0↔b<a:=by
 unfold dx dG
 rw[Rat.lt_iff]
 split
 ·simp;omega
 ·split<;>simp<;>omega
def mkR (n d:Int):Rat:=mkRat (if d<0 then -n else n) (ab d)
theorem FB (a b:Rat)(ha:LQ 100000000 a)(hb:LQ 100000000 b)(w:World)(h:Hp)(g:G w h):CV 153 #[qv a,qv b] w h (qv (if a<b then b else a)):=by
 have hs:=sS g;refine go Tryz.func153 [(0,qv a),(1,qv b)] rfl (aE (lA 2 28 (qc a) hs (fun b1 w2 h3 hs=>lA 3 28 (qc b) hs (fun b4 w5 h6 hs=>lA 4 28 ([qF,uV 0,eS,uV 0,eS]) hs (fun b7 w8 h9 hs=>af (aa hs [.o 5 (qv b) 1 0 5,.o 6 (qv a) 2 0 5] (ag 7 hs (mX b a aM aM _ _ hs.g) (fun _ _ hs=>?_))))))));cases za:(decide ((0:Int)<(dx b a:Int)))
 ·
  have zb:=oF za;exact lB 8 za (aj (cK (aa hs [.o 10 (qv a) 2 0 5] (lP 0 0 (qc a) hs (fun _ hs=>ae hs [(0,0,5)] (qv a) (by rw[if_neg (fun h_=>by have:=fH.2 h_;omega)]))))))
 have zb:=oT za;exact lB 8 za (ao (aa hs [.o 9 (qv b) 1 0 5] (lP 0 0 (qc b) hs (fun _ hs=>ae hs [(0,0,5)] (qv b) (by rw[if_pos (fH.1 oM)])))))
theorem DT (n d:Int)(hd:d<0)(hla:(wds (ab n)).length≤1000000000)(hlb:(wds (ab d)).length≤1000000000)(w:World)(h:Hp)(g:G w h)(tb:Tab h):CV 25 #[iv n,iv d] w h (.tuple #[qv (mkR n d),.bool true]):=by
 have hs:=((sS g).aB tb);have hds:=Int.sign_eq_neg_one_of_neg hd;have hd0:0<ab d:=by unfold ab;omega
 have hln:(wds (ab (-n))).length≤1000000000:=by unfold ab;rw[Int.natAbs_neg];exact hla
 refine go Tryz.func25 [(0,iv n),(1,iv d)] rfl (aE (lA 2 26 (ic n) hs (fun b1 w2 h3 hs=>lA 3 26 (ic d) hs (fun b4 w5 h6 hs=>lA 4 28 ([qF,uV 0,eS,uV 0,eS]) hs (fun b7 w8 h9 hs=>lL hs [.v 5 qF] (af (aa hs [.o 6 (iv d) 1 0 3] (ag 7 hs (jD d bK _ _ hs.g) (fun _ _ hs=>?_)))))))));have za:(((d).sign:Int) == (0:Int))=false:=ft oM;have phb12:=ah za;refine lB 8 za (aj (cK (cQ (aa hs [.o 10 (iv d) 1 0 3] (ag 11 hs (jD d bK _ _ hs.g) (fun _ _ hs=>?_))))));have ⟨zb,phb15⟩:=dT (p:=((d).sign:Int)<(0:Int)) oM;refine lB 12 zb (ao (kQ (lL hs [.o 13 (iv n) 2 0 3] (ag 14 hs (FP n bK _ _ hs.g) (fun _ _ hs=>lP 2 0 (ic (-n)) hs (fun _ hs=>af (cR 4 [] mixed hs aq ?_)))))));exact eO 0 15 [(2,0,3)] (iv (-n)) hs (eO 1 16 [(1,0,3)] (iv d) hs (ak 2 17 hs (fun _ _ hs=>rH d _ _ hs.g) (fun _ _ hs=>ak 3 18 hs (fun _ _ hs=>hJ (-n) (ab d) bK bK bK _ _ hs.g hs.f.1) (fun _ _ hs=>bM hs (fun _ _ hs=>tP 4 0 0 (qc (mkRat (-n) (ab d))) hs (fun _ hs=>tV 5 5 qT (tN (kX (hs.ret [(0,0,5)] (.tuple #[qv (mkRat (-n) (ab d)),qT]) (by unfold mkR;rw[if_pos hd]))))))))))
theorem Eh (n d:Int)(hd:0<d)(hla:(wds (ab n)).length≤1000000000)(hlb:(wds (ab d)).length≤1000000000)(w:World)(h:Hp)(g:G w h)(tb:Tab h):CV 25 #[iv n,iv d] w h (.tuple #[qv (mkR n d),.bool true]):=by
 have hs:=((sS g).aB tb);have hds:=Int.sign_eq_one_of_pos hd;have hd0:0<ab d:=by unfold ab;omega
 refine go Tryz.func25 [(0,iv n),(1,iv d)] rfl (aE (lA 2 26 (ic n) hs (fun b1 w2 h3 hs=>lA 3 26 (ic d) hs (fun b4 w5 h6 hs=>lA 4 28 ([qF,uV 0,eS,uV 0,eS]) hs (fun b7 w8 h9 hs=>lL hs [.v 5 qF] (af (aa hs [.o 6 (iv d) 1 0 3] (ag 7 hs (jD d bK _ _ hs.g) (fun _ _ hs=>?_)))))))));have za:(((d).sign:Int) == (0:Int))=false:=ft oM;have phb12:=ah za;refine lB 8 za (aj (cK (cQ (aa hs [.o 10 (iv d) 1 0 3] (ag 11 hs (jD d bK _ _ hs.g) (fun _ _ hs=>?_))))));have ⟨zb,phb15⟩:=dF (p:=((d).sign:Int)<(0:Int)) oM;refine lB 12 zb (aj (cK (cQ (cR 4 [] mixed hs aq ?_))));exact eO 0 15 [(2,0,3)] (iv n) hs (eO 1 16 [(1,0,3)] (iv d) hs (ak 2 17 hs (fun _ _ hs=>rH d _ _ hs.g) (fun _ _ hs=>ak 3 18 hs (fun _ _ hs=>hJ n (ab d) bK bK bK _ _ hs.g hs.f.1) (fun _ _ hs=>bM hs (fun _ _ hs=>tP 4 0 0 (qc (mkRat n (ab d))) hs (fun _ hs=>tV 5 5 qT (tN (kX (hs.ret [(0,0,5)] (.tuple #[qv (mkRat n (ab d)),qT]) (by unfold mkR;rw[if_neg oM]))))))))))
theorem GF (n d:Int)(hd:d≠0)(hla:(wds (ab n)).length≤1000000000)(hlb:(wds (ab d)).length≤1000000000)(w:World)(h:Hp)(g:G w h)(tb:Tab h):CV 25 #[iv n,iv d] w h (.tuple #[qv (mkR n d),.bool true]):=by
 rcases Int.lt_trichotomy d 0 with h1|h1|h1
 ·exact DT n d h1 hla hlb w h g tb
 ·exact absurd h1 hd
 ·exact Eh n d h1 hla hlb w h g tb
theorem kz (a b:Rat)(ha:LQ 100000000 a)(hb:LQ 100000000 b)(hz:b.num≠0)(w:World)(h:Hp)(g:G w h)(tb:Tab h):CV 47 #[qv a,qv b] w h (.tuple #[qv (a/b),.bool true]):=by
 have hs:=((sS g).aB tb);have ha_:=ha;have hb_:=hb;obtain ⟨ha1,ha2⟩:=ha_;obtain ⟨hb1,hb2⟩:=hb_;have hzs:((b.num).sign == (0:Int))=false:=by simpa using hz
 obtain ⟨hi1,hi2⟩:=qp b hz;have hsl:(wds (ab (ci (decide ((b.num).sign<(0:Int))) b.den))).length≤100000000:=by rw[eu];exact hb2
 have hli:LQ 100000000 b⁻¹:=⟨by rw[hi1];exact hsl,by rw[hi2];exact hb1⟩;have hli2:LQ 1000000000 b⁻¹:=hli.mono oM;refine go Tryz.func47 [(0,qv a),(1,qv b)] rfl (aE (lA 2 28 (qc a) hs (fun b1 w2 h3 hs=>lA 3 28 (qc b) hs (fun b4 w5 h6 hs=>lA 4 28 ([qF,uV 0,eS,uV 0,eS]) hs (fun b7 w8 h9 hs=>lL hs [.v 5 qF] (af (aa hs [.o 6 (qv b) 1 0 5] (ag 7 hs (d6 b aM _ _ hs.g) (fun _ _ hs=>lV 8 qF ?_ (hr:=rb (e:=((b.num).sign == (0:Int))) kR hzs))))))))));refine aj (cK (cQ (cR 12 [] mixed hs aq ?_)));exact eO 0 10 [(2,0,5)] (qv a) hs (eO 1 11 [(1,0,5)] (qv b) hs (eO 4 14 [(1,0,5)] (qv b) hs (eV 7 17 (pB b4) (eO 8 18 [(1,0,3)] (iv b.num) hs (ak 2 12 hs (fun _ _ hs=>d6 b aM _ _ hs.g) (fun _ _ hs=>eV 3 13 (.bool (decide (((b.num).sign:Int)<(0:Int)))) (ak 5 15 hs (fun _ _ hs=>eM b aM _ _ hs.g) (fun _ _ hs=>ak 6 16 hs (fun _ _ hs=>eE (decide (((b.num).sign:Int)<(0:Int))) b.den bK _ _ hs.g) (fun _ _ hs=>ak 9 19 hs (fun _ _ hs=>rH b.num _ _ hs.g) (fun _ _ hs=>ak 10 20 hs (fun _ _ hs=>ji b⁻¹ (ci (decide (((b.num).sign:Int)<(0:Int))) b.den) (ab b.num) hi1 hi2.symm aM _ _ hs.g) (fun _ _ hs=>ak 11 21 hs (fun _ _ hs=>iO a (b⁻¹) aM aM _ _ hs.g hs.f.1) (fun _ _ hs=>bM hs (fun _ _ hs=>tP 12 0 0 (qc (a*(b⁻¹))) hs (fun _ hs=>tV 13 5 qT (tN (kX (hs.ret [(0,0,5)] (.tuple #[qv (a*(b⁻¹)),qT]) (by rw[Rat.div_def]))))))))))))))))))
theorem Fl (a:Rat)(hb:LQ 100000000 (0:Rat))(w:World)(h:Hp)(g:G w h):CV 47 #[qv a,qv (0:Rat)] w h (.tuple #[qv 0,.bool false]):=by
 have hs:=sS g;have hzs:((0:Rat).num).sign=0:=rfl;refine go Tryz.func47 [(0,qv a),(1,qv (0:Rat))] rfl (aE (lA 2 28 (qc a) hs (fun b1 w2 h3 hs=>lA 3 28 (qc (0:Rat)) hs (fun b4 w5 h6 hs=>lA 4 28 ([qF,uV 0,eS,uV 0,eS]) hs (fun b7 w8 h9 hs=>lL hs [.v 5 qF] (af (aa hs [.o 6 (qv (0:Rat)) 1 0 5] (ag 7 hs (d6 (0:Rat) aM _ _ hs.g) (fun _ _ hs=>?_)))))))));have za:((((0:Rat).num).sign:Int) == (0:Int))=true:=pj oM;have phb12:=eq_of_beq za;exact lB 8 za (ao (aa hs [.v 9 (.agg #[qF,uV 0,eS,uV 0,eS])] (lP 0 0 ([qF,uV 0,eS,uV 0,eS]) hs (fun _ hs=>lL hs [.v 5 qF] (ae hs [(0,0,5)] (.tuple #[.agg #[qF,uV 0,eS,uV 0,eS],qF]) rfl)))))
theorem sa (n d:Int)(hd:d≠0):(mkR n d).num=ci (aD n != aD d) (ab n/Nat.gcd (ab n) (ab d))∧(mkR n d).den=ab d/Nat.gcd (ab n) (ab d)∧0<Nat.gcd (ab n) (ab d):=by
  have hd0:0<ab d:=by unfold ab;omega
  have hz:ab (if d<0 then -n else n)=ab n:=by unfold ab;split<;>omega
  obtain ⟨h1,h2,h3,h4⟩:=fI (if d<0 then -n else n) (ab d) hd0;rw[hz] at h1 h2 h3 h4
  refine ⟨?_,h2,h4⟩;have hs:=oC _ _ h3;rw[hz] at hs
  show (mkRat _ _).num=_
  rw[h1,←hs]
  by_cases hn:n=0
  · have hk:ab n/Nat.gcd (ab n) (ab d)=0:=by rw[hn];exact Nat.zero_div _
    rw[hk]
    unfold ci
    simp
  · have e:decide ((if d<0 then -n else n).sign<0)=(aD n != aD d):=by
      unfold aD
      rcases Int.lt_trichotomy n 0 with a|a|a
      · rcases Int.lt_trichotomy d 0 with b|b|b
        · rw[if_pos b,Int.sign_eq_one_of_pos oM];simp[a,b]
        · exact absurd b hd
        · rw[if_neg oM,Int.sign_eq_neg_one_of_neg a];simp[a,show ¬d<0 by omega]
      · exact absurd a hn
      · rcases Int.lt_trichotomy d 0 with b|b|b
        · rw[if_pos b,Int.sign_eq_neg_one_of_neg oM];simp[show ¬n<0 by omega,b]
        · exact absurd b hd
        · rw[if_neg oM,Int.sign_eq_one_of_pos a];simp[show ¬n<0 by omega,show ¬d<0 by omega]
    rw[e]
theorem rN {z:Int}(h0 : -9223372036854775808≤z)(h1:z<9223372036854775808):(lim (ab z)).length≤2:=gd (by unfold ab;omega)
theorem CX {P:Program}{Γ:bW}{o:Oper}{t u:TypeId}{x y:Operand}{k ky:IntKind}{a n:Nat}(ho:o.op=.binOp .shr t x y u)(hx:ev Γ x=.int k (a:Int))(hy:ev Γ y=.int ky (n:Int))(hn:n≤k.bits)(w:World) :
  (execOp (ev Γ) o).run P w=.ok (.value (.int k ((a/2^n:Nat):Int))) w:=by
 have:=Fi (P:=P) ho hx hy hn w;rw[show ((a:Int)/2^n)=((a/2^n:Nat):Int) by simp] at this
 exact this
theorem uj {P:Program}{Γ:bW}{o:Oper}{t u:TypeId}{x y:Operand}{ky:IntKind}{a n:Nat}(ho:o.op=.binOp .shl t x y u)(hx:ev Γ x=.int .u32 (a:Int))(hy:ev Γ y=.int ky (n:Int))(hn:n≤32)(hf:a*2^n<4294967296)(w:World) :
  (execOp (ev Γ) o).run P w=.ok (.value (.int .u32 ((a*2^n:Nat):Int))) w:=by
 have:=GA (P:=P) ho hx hy hn w;rw[show ((a:Int)*2^n)=((a*2^n:Nat):Int) by simp,GB hf] at this
 exact this
theorem sf (a:Nat)(A:Option Addr)(c:Nat)(hc:(lim a).length≤c)(hLa:(lim a).length≤4000000000)(w:World)(h:Hp)(g:G w h)(hA:S3 A (lim a) h):CR 70 #[.slice A ((lim a).length) c] w h (fun v h1=>∃ A,v=.slice A ((nb a+7)/8) ((nb a+7)/8)∧SlO 1 lc 0 h1 A (fd a ((nb a+7)/8))):=by
 have hs:=((sS g).aS hA);have hna:=pg a;refine go Tryz.func70 [(0,qS A ((lim a).length) c)] rfl (aa hs [.v 2 (sZ)] (aT (lL hs [.m 6 0] (ag 7 hs (uw a A c hc hLa _ _ hs.g hs.f.1) (fun w1 h2 hs=>bB 8 ((nb a:Nat)+7) ((nb a)+7) (lV 9 (nV (((nb a)+7)/8)) ?_ (hr:=ay (dQ (t:=3) (u:=3) (x:=.tmp 8) (y:=.const (iV 8)) (k:=.i64) (a:=(((nb a)+7:Nat):Int)) (b:=(8:Int)) kR kR kR oM _) (dH ((nb a)+7) 8 oM))))))));refine lL hs [.m 3 9] (aT (lL hs [.m 10 3] (lK 11 5 (((nb a)+7)/8:Nat) 1 1 (.int .u8 0) lc 0 hs (fun b3 w4 h5 hs=>?_))));have hl6:(List.replicate (((nb a)+7)/8:Nat) 0).length=(((nb a)+7)/8:Nat):=by simp
 refine lL hs [.m 4 11] (af (aa hs [.v 5 (iV 0)] (bj ?_)));refine bx _ (CG.loop (fun μ_ Γ w_=>∃ (i:Nat) (l:List Nat) (h_:Hp),μ_=((nb a+7)/8)-i∧Γ=[(0,qS A ((lim a).length) c),(2,sZ),(3,nV (((nb a)+7)/8)),(4,qS (sB b3) (((nb a)+7)/8:Nat) (((nb a)+7)/8:Nat)),(5,nV i)]∧SS w h w_ h_ [⟨b3,5,(l).flatMap lc⟩] [] [S3 A (lim a)]∧i≤((nb a+7)/8)∧l.length=((nb a+7)/8)∧(∀ j,j<i→l.getD (((nb a+7)/8)-1-j) 0=a/256^j%256)) _ ⟨0,List.replicate (((nb a)+7)/8:Nat) 0,h5,rfl,rfl,hs.to _ _,Nat.zero_le _,hl6,(fun j hj=>absurd hj oM)⟩ ?_);rintro _ _ w7 ⟨i,l,h8,hm9,rfl,hs,hi,hll,hg⟩;have hai:=(Ld.lim a).get (i/4);refine cQ (aa hs [.m 12 5,.m 13 3] ?_);cases za:(decide ((i:Int)<((((nb a)+7)/8:Nat):Int)))
 ·
  have zb:=oF za;refine lB 14 za (aj (CG.exit ?_))
  show CG _ _ _ _ _ _ _ _
  refine aa hs [.m 34 4,.m 2 34] (lN (kX ?_));have him:i=((nb a+7)/8):=by omega
  have hlb:l=fd a ((nb a+7)/8):=pV hll (fun j hj=>hg j oM);rw[hlb] at hs
  obtain ⟨_,hs,sg12,lo13,bc14⟩:=hs.pub 0;replace hs:=(hs.to [] []).aS (SlO.of_flat (sz:=1) (f:=lc) (d:=0) (b:=b3) (o:=0) (l:=fd a ((nb a+7)/8)) (fun _=>rfl) sg12);exact hs.ret [] (qS (sB b3) (((nb a)+7)/8:Nat) (((nb a)+7)/8:Nat)) (⟨sB b3,rfl,hs.f.1⟩)
 have zb:=oT za;refine lB 14 za (ao (cK (cQ (kZ (kQ (lL hs [.m 17 4,.m 18 3] (bB 19 ((((nb a)+7)/8:Nat)-1) ((((nb a)+7)/8:Nat)-1) ?_)))))));refine lL hs [.m 20 5] (bB 21 (((((nb a)+7)/8:Nat)-1:Nat)-(i:Nat)) (((((nb a)+7)/8:Nat)-1:Nat)-i) ?_);refine lL hs [.m 22 0,.m 23 5] (lV 24 (nV (i/4)) ?_ (hr:=ay (dQ (t:=3) (u:=3) (x:=.tmp 23) (y:=.const (iV 4)) (k:=.i64) (a:=(i:Int)) (b:=(4:Int)) kR kR kR oM _) (dH i 4 oM)));refine lX 25 A ((lim a).length) c 1 (i/4:Nat) (i/4) ((hs.f.1).ok oM) (lH 26 (mW ((lim a).getD (i/4) 0)) hs ((hs.f.1).el (i/4) oM) (lL hs [.m 27 5] (lV 28 (nV (i%4)) ?_ (hr:=ay (fD (t:=3) (u:=3) (x:=.tmp 27) (y:=.const (iV 4)) (k:=.i64) (a:=(i:Int)) (b:=(4:Int)) kR kR kR oM _) (dD i 4)))));refine bB 29 (8*(i%4:Nat)) (8*(i%4)) (lV 30 (mV (8*(i%4))) ?_ (hr:=rU (((8*(i%4):Nat):Int)) kR (bG oM oM)));refine lV 31 (mW ((lim a).getD (i/4) 0/2^(8*(i%4)))) ?_ (hr:=CX (t:=178) (u:=179) (x:=.tmp 26) (y:=.tmp 30) (k:=.u32) (ky:=.u64) (a:=(lim a).getD (i/4) 0) (n:=8*(i%4)) kR kR kR (show 8*(i%4)≤32 by omega) _);refine lV 32 (.int .u8 ((lim a).getD (i/4) 0/2^(8*(i%4))%256:Nat)) ?_ (hr:=ay (n:=IntKind.wrap .u8 (((lim a).getD (i/4) 0/2^(8*(i%4)):Nat):Int)) kR (x9 _));refine lX 33 (sB b3) (((nb a)+7)/8:Nat) (((nb a)+7)/8:Nat) 1 (((((nb a)+7)/8:Nat)-1:Nat)-i:Nat) (((((nb a)+7)/8:Nat)-1:Nat)-i:Nat) rfl (lW 0 l lc 1 (((((nb a)+7)/8:Nat)-1:Nat)-i:Nat) ((lim a).getD (i/4) 0/2^(8*(i%4))%256:Nat) hs oM (fun _ hs=>?_));have zc:((l).set (((((nb a)+7)/8:Nat)-1:Nat)-i:Nat) ((lim a).getD (i/4) 0/2^(8*(i%4))%256:Nat)).length=(((nb a)+7)/8:Nat):=by rw[List.length_set];exact hll
 replace hs:=hs.to [⟨b3,5,((l).set (((((nb a)+7)/8:Nat)-1:Nat)-i:Nat) ((lim a).getD (i/4) 0/2^(8*(i%4))%256:Nat)).flatMap lc⟩] [];refine lN (kQ (lL hs [.m 15 5] (bB 16 ((i:Nat)+1) (i+1) ?_)));refine lL hs [.m 5 16] (lD ?_);intro a_ ka;refine ⟨_,_,?_,⟨i+1,(l).set (((((nb a)+7)/8:Nat)-1:Nat)-i:Nat) ((lim a).getD (i/4) 0/2^(8*(i%4))%256:Nat),h8,rfl,rfl,hs.to _ _,oM,zc,(fZ hll oM hg (tg a i))⟩,ka.to _ kR⟩
 omega
theorem rK {n m:Nat}(h:n<256^m):∀ j,j<(m+3)/4→(List.replicate ((m+3)/4) 0).getD j 0=eW n (m-0) j:=fun j hj=>by
 rw[Nat.sub_zero,wj h];simp[hj]
theorem rC {l:List Nat}{n m i x:Nat}(hi:i<m)(hl:l.length=(m+3)/4)(hv:∀ j,j<(m+3)/4→l.getD j 0=eW n (m-i) j)(hx:x=eW n (m-1-i) ((m-1-i)/4)) :
  ∀ j,j<(m+3)/4→(l.set ((m-1-i)/4) x).getD j 0=eW n (m-(i+1)) j:=by
 intro j hj;rw[show m-(i+1)=m-1-i by omega]
 by_cases e:j=(m-1-i)/4
 ·subst e
  have:(m-1-i)/4<l.length:=by omega
  simp[this,hx]
 ·rw[l5,if_neg e,show m-1-i+1=m-i by omega,←hv j hj]
  simp only[List.getD_eq_getElem?_getD]
  rw[List.getElem?_set_ne (Ne.symm e)]
theorem q4 {n k:Nat}:eW n (k+1) (k/4) ||| (n/256^k%256)*2^(8*(k%4))=eW n k (k/4):=by rw[l5 n k (k/4),if_pos rfl]
theorem mg {b k:Nat}(hb:b<256):b*2^(8*(k%4))<4294967296:=by
 have:k%4=0∨k%4=1∨k%4=2∨k%4=3:=by omega
 rcases this with e|e|e|e<;>rw[e]<;>omega
theorem vj {l:List Nat}{n m:Nat}(hn:n<256^m)(hl:l.length=(m+3)/4)(hv:∀ j,j<(m+3)/4→l.getD j 0=eW n (m-m) j):am 4294967296 l=n∧Ld l:=by
 constructor
 ·rw[←js]
  refine gM l n (fun j hj=>by rw[hv j oM,Nat.sub_self,ry]) ?_;refine Nat.lt_of_lt_of_le hn ?_;rw[hl,show (256:Nat)=2^8 by rfl,show (4294967296:Nat)=2^32 by rfl,←Nat.pow_mul,←Nat.pow_mul];exact Nat.pow_le_pow_right oM oM
 ·intro x hx
  obtain ⟨j,hj,rfl⟩:=List.mem_iff_getElem.1 hx;have:=hv j oM;have e:l[j]=l.getD j 0:=by simp[hj]
  rw[e,this];exact ne _ _ _
theorem uq (n m:Nat)(A:Option Addr)(cap:Nat)(hc:m≤cap)(hm:m≤1099511627776)(hn:n<256^m)(w:World)(h:Hp)(g:G w h)(hA:SlO 1 lc 0 h A (fd n m)):CR 172 #[.slice A m cap] w h (fun v h1=>RN h1 v n):=by
 have hs:=((sS g).aS hA);have hbl:=jc n m;refine go Tryz.func172 [(0,qS A m cap)] rfl (aa hs [.v 2 (sZ)] (aT (lL hs [.m 6 0,.v 7 (nV m)] (bB 8 ((m:Nat)+3) (m+3) ?_))));refine lV 9 (nV ((m+3)/4)) ?_ (hr:=ay (dQ (t:=3) (u:=3) (x:=.tmp 8) (y:=.const (iV 4)) (k:=.i64) (a:=((m+3:Nat):Int)) (b:=(4:Int)) kR kR kR oM _) (dH (m+3) 4 oM));refine lK 10 178 ((m+3)/4) 1 4 (uW 0) fW 0 hs (fun b1 w2 h3 hs=>?_);have hl4:(List.replicate ((m+3)/4) 0).length=((m+3)/4):=by simp
 refine lL hs [.m 3 10] (af (aa hs [.v 4 (iV 0)] (bj ?_)));refine bx _ (CG.loop (fun μ_ Γ w_=>∃ (i:Nat) (l:List Nat) (h_:Hp),μ_=m-i∧Γ=[(0,qS A m cap),(2,sZ),(3,qS (sB b1) ((m+3)/4) ((m+3)/4)),(4,nV i)]∧SS w h w_ h_ [⟨b1,178,(l).flatMap fW⟩] [] [fun h_=>SlO 1 lc 0 h_ A (fd n m)]∧i≤m∧l.length=(m+3)/4∧(∀ j,j<(m+3)/4→l.getD j 0=eW n (m-i) j)) _ ⟨0,List.replicate ((m+3)/4) 0,h3,rfl,rfl,hs.to _ _,Nat.zero_le _,hl4,(rK hn)⟩ ?_);rintro _ _ w5 ⟨i,l,h6,hm7,rfl,hs,hi,hll,hv⟩;refine cQ (aa hs [.m 11 4,.m 12 0,.v 13 (nV m)] ?_);cases hb8:(decide ((i:Int)<(m:Int)))
 ·
  have phb8:=oF hb8;refine lB 14 hb8 (aj (CG.exit ?_))
  show CG _ _ _ _ _ _ _ _
  refine aa hs [.m 42 3] ?_;have him:i=m:=by omega
  rw[him] at hv
  obtain ⟨hf1,hf2⟩:=vj hn hll hv;obtain ⟨h9,hs,sg10,lo11,bc12⟩:=hs.pub 0;replace hs:=(hs.to [] []).aS (SlO.of_flat (sz:=1) (f:=fW) (d:=0) (b:=b1) (o:=0) (l:=l) (fun _=>rfl) sg10);exact ag 43 hs (uU (sB b1) ((m+3)/4) l ((m+3)/4) hll oM oM _ _ hs.g hs.f.1) (fun _ _ hs=>lL hs [.m 2 43] (ae hs [] (qS (sB b1) (tl l ((m+3)/4)) ((m+3)/4)) (RN.trim hf2 hf1 hll oM hs.f.1)))
 have phb8:=oT hb8;refine lB 14 hb8 (ao (cK (cQ (kZ (aa hs [.m 17 0,.v 18 (nV m)] (bB 19 ((m:Nat)-1) (m-1) ?_))))));refine lL hs [.m 20 4] (bB 21 ((m-1:Nat)-(i:Nat)) ((m-1)-i) ?_);refine lL hs [.m 5 21] (lN (cR 19 [] mixed hs aq ?_));refine eV 0 22 (qS (sB b1) ((m+3)/4) ((m+3)/4)) (eV 1 23 (nV ((m-1)-i)) (eV 2 24 (nV (((m-1)-i)/4)) ?_ (hv:=fun _=>ay (dQ (t:=3) (u:=3) (x:=.tmp 23) (y:=.const (iV 4)) (k:=.i64) (a:=(((m-1)-i:Nat):Int)) (b:=(4:Int)) kR kR kR oM _) (dH ((m-1)-i) 4 oM))));refine eV 3 25 (qS (sB b1) ((m+3)/4) ((m+3)/4)) (eV 4 26 (nV ((m-1)-i)) (eV 5 27 (nV (((m-1)-i)/4)) ?_ (hv:=fun _=>ay (dQ (t:=3) (u:=3) (x:=.tmp 26) (y:=.const (iV 4)) (k:=.i64) (a:=(((m-1)-i:Nat):Int)) (b:=(4:Int)) kR kR kR oM _) (dH ((m-1)-i) 4 oM))));refine eX 6 28 (sB b1) ((m+3)/4) ((m+3)/4) 1 (((m-1)-i)/4:Nat) (((m-1)-i)/4:Nat) rfl (eQ 7 29 0 l fW 1 0 (((m-1)-i)/4:Nat) (mW ((l).getD (((m-1)-i)/4:Nat) 0)) hs oM (eV 8 30 (qS A m cap) (eV 9 31 (nV i) (eX 10 32 A m cap 1 (i:Nat) i ((hs.f.1).ok oM) ?_))));have hvk:=hv ((m-1-i)/4) oM;have hor:l.getD ((m-1-i)/4) 0 ||| (n/256^(m-1-i)%256)*2^(8*((m-1-i)%4))=eW n (m-1-i) ((m-1-i)/4):=by rw[hvk,show m-i=m-1-i+1 by omega];exact q4
 have hlt:l.getD ((m-1-i)/4) 0<4294967296:=by rw[hvk];exact ne _ _ _
 have hvk:=hv ((m-1-i)/4) oM;have hor:l.getD ((m-1-i)/4) 0 ||| (n/256^(m-1-i)%256)*2^(8*((m-1-i)%4))=eW n (m-1-i) ((m-1-i)/4):=by rw[hvk,show m-i=m-1-i+1 by omega];exact q4
 have hlt:l.getD ((m-1-i)/4) 0<4294967296:=by rw[hvk];exact ne _ _ _
 refine HS 11 33 (.int .u8 ((fd n m).getD i 0:Nat)) hs ((hs.f.1).el i oM) (by rw[gy n m _ oM]) (eV 12 34 (mW (n/256^(m-1-i)%256)) ?_ (hv:=fun _=>rT (((n/256^(m-1-i)%256:Nat):Int)) kR (pe oM oM)));refine eV 13 35 (nV ((m-1)-i)) (eV 14 36 (nV (((m-1)-i)%4)) ?_ (hv:=fun _=>ay (fD (t:=3) (u:=3) (x:=.tmp 35) (y:=.const (iV 4)) (k:=.i64) (a:=(((m-1)-i:Nat):Int)) (b:=(4:Int)) kR kR kR oM _) (dD ((m-1)-i) 4)));refine li 15 37 (8*(((m-1)-i)%4:Nat)) (8*(((m-1)-i)%4:Nat)) (eV 16 38 (mV (8*(((m-1)-i)%4:Nat))) ?_ (hv:=fun _=>rU (((8*(((m-1)-i)%4:Nat):Nat):Int)) kR (bG oM oM)));refine eV 17 39 (mW ((n/256^(m-1-i)%256)*2^(8*((m-1-i)%4)))) ?_ (hv:=fun _=>uj (t:=178) (u:=179) (x:=.tmp 34) (y:=.tmp 38) (ky:=.u64) (a:=n/256^(m-1-i)%256) (n:=8*((m-1-i)%4)) kR kR kR oM (mg oM) _);refine eV 18 40 (mW (eW n (m-1-i) ((m-1-i)/4))) ?_ (hv:=fun _=>ay (DP (t:=178) (u:=178) (x:=.tmp 29) (y:=.tmp 39) (a:=l.getD ((m-1-i)/4) 0) (b:=(n/256^(m-1-i)%256)*2^(8*((m-1-i)%4))) kR kR kR hlt (mg oM) _) (congrArg Int.ofNat hor));refine bM hs (fun _ zb hs=>tX 19 41 (sB b1) ((m+3)/4) ((m+3)/4) 1 (((m-1)-i)/4:Nat) (((m-1)-i)/4:Nat) rfl (tW 20 0 l fW 1 (((m-1)-i)/4:Nat) (eW n (m-1-i) ((m-1-i)/4):Nat) hs oM (fun _ hs=>?_)));have za:((l).set (((m-1)-i)/4:Nat) (eW n (m-1-i) ((m-1-i)/4):Nat)).length=((m+3)/4):=by rw[List.length_set];exact hll
 replace hs:=hs.to [⟨b1,178,((l).set (((m-1)-i)/4:Nat) (eW n (m-1-i) ((m-1-i)/4):Nat)).flatMap fW⟩] [];refine tN (kQ (lL hs [.m 15 4] (bB 16 ((i:Nat)+1) (i+1) ?_)));refine lL hs [.m 4 16] (lD ?_);intro a_ ka;refine ⟨_,_,?_,⟨i+1,(l).set (((m-1)-i)/4:Nat) (eW n (m-1-i) ((m-1-i)/4):Nat),zb,rfl,rfl,hs.to _ _,oM,za,(rC oM hll hv rfl)⟩,ka.to _ kR⟩
 omega
def dr (q:Rat):Rat:=if q.num<0 then -q else q
theorem k8 (q:Rat):(dr q).num=((ab q.num:Nat):Int):=by
 unfold dr ab;split
 ·rw[Rat.neg_num];omega
 ·omega
theorem oo (q:Rat):(dr q).den=q.den:=by
 unfold dr;split
 ·rw[Rat.neg_den]
 ·rfl
theorem LQ.ln {q:Rat}(h:LQ 100000000 q):(lim (ab q.num)).length≤300000000:=Nat.le_trans (qu _) (by have:=h.1;omega)
theorem LQ.ld {q:Rat}(h:LQ 100000000 q):(lim q.den).length≤300000000:=Nat.le_trans (qu _) (by have:=h.2;omega)
theorem nl {k:Nat}{q:Rat}(h:LQ k q)(hk:k≤100000000:=by omega):(lim (ab q.num)).length≤300000000:=LQ.ln (h.mono hk)
theorem nD {k:Nat}{q:Rat}(h:LQ k q)(hk:k≤100000000:=by omega):(lim q.den).length≤300000000:=LQ.ld (h.mono hk)
theorem LQ.abs {k:Nat}{q:Rat}(h:LQ k q):LQ k (dr q):=⟨by rw[k8];exact h.1,by rw[oo];exact h.2⟩
theorem LQ.sub {k l:Nat}{a b:Rat}(ha:LQ k a)(hb:LQ l b):LQ (k+l+1) (a-b):=by rw[Rat.sub_eq_add_neg];exact ha.add hb.neg
theorem LQ.inv {k:Nat}{q:Rat}(h:LQ k q):LQ k q⁻¹:=by
 by_cases hz:q.num=0
 ·have:q=0:=by rw[←Rat.num_eq_zero];exact hz
  subst this;rw[Rat.inv_zero];exact h
 ·obtain ⟨h1,h2⟩:=qp q hz
  exact ⟨by rw[h1,eu];exact h.2,by rw[h2];exact h.1⟩
theorem LQ.div {k l:Nat}{a b:Rat}(ha:LQ k a)(hb:LQ l b):LQ (k+l) (a/b):=by rw[Rat.div_def];exact ha.mul hb.inv
theorem LQ.int {z:Int}(h0 : -9223372036854775808≤z)(h1:z≤9223372036854775807):LQ 1 (z:Rat):=⟨by rw[Rat.num_intCast];exact bU.2 (by unfold ab;omega),by rw[Rat.den_intCast];exact bU.2 oM⟩
theorem LQ.lit {z:Int}(h : -9223372036854775808≤z∧z≤9223372036854775807):LQ 1 (z:Rat):=LQ.int h.1 h.2
def c4 (a b:List Rat):Nat→Rat
  | 0=>0
  | k+1=>c4 a b k+a.getD k 0*b.getD k 0
theorem LQ.dot {a b:List Rat}{k l n:Nat}(ha:∀ i,i<n→LQ k (a.getD i 0))(hb:∀ i,i<n→LQ l (b.getD i 0)):∀ i,i≤n→LQ (i*(k+l+1)+1) (c4 a b i)
  | 0,_=>by rw[Nat.zero_mul];exact LQ.lit (z:=0) kD
  | i+1,h=>by
    have h1:=(LQ.dot ha hb i oM).add ((ha i oM).mul (hb i oM));refine LQ.mono h1 ?_;rw[Nat.succ_mul];omega
theorem kU (a:Nat)(A:Option Addr)(c:Nat)(hc:(lim a).length≤c)(b:Nat)(D:Option Addr)(d:Nat)(hd:(lim b).length≤d)(hLa:(lim a).length≤3000000000)(hLb:(lim b).length≤1)(hb:0<b)(w:World)(h:Hp)(g:G w h)(hA:S3 A (lim a) h)(hD:S3 D (lim b) h):CR 72 #[.slice A (lim a).length c,.slice D (lim b).length d] w h (fun v h1=>∃ v1 v2,v=.tuple #[v1,v2]∧RN h1 v1 (a/b)∧RN h1 v2 (a%b)):=by
 have hp:=er.2 hb
 rcases Nat.lt_or_ge a b with h1|h1
 ·exact se a A c hc b D d hd hLa oM h1 w h g hA hD
 ·exact pO a A c hc b D d hd hLa oM h1 oM w h g hA hD
theorem tj (a:Nat)(A:Option Addr)(c:Nat)(hc:(lim a).length≤c)(b:Nat)(D:Option Addr)(d:Nat)(hd:(lim b).length≤d)(hLa:(lim a).length≤3000000000)(hLb:(lim b).length≤1)(w:World)(h:Hp)(g:G w h)(hA:S3 A (lim a) h)(hD:S3 D (lim b) h):CR 71 #[.slice A ((lim a).length) c,.slice D ((lim b).length) d] w h (fun v h1=>RN h1 v (Nat.gcd a b)):=by
 have hs:=(((sS g).aS hA).aS hD);refine go Tryz.func71 [(0,qS A ((lim a).length) c),(1,qS D ((lim b).length) d)] rfl (aa hs [.v 4 (sZ)] (af (kZ ?_)));replace hs:=hs.aS hs.f.1;replace hs:=hs.aS hs.f.r.1;refine bx _ (CG.loop (fun μ_ Γ w_=>∃ (x:Nat) (A1:Option Addr) (c1:Nat) (y:Nat) (A2:Option Addr) (c2:Nat) (h_:Hp),μ_=y∧Γ=[(4,sZ),(0,qS A1 ((lim x).length) c1),(1,qS A2 ((lim y).length) c2)]∧SS w h w_ h_ [] [] [S3 A1 (lim x),S3 A2 (lim y),S3 D (lim b),S3 A (lim a)]∧(lim x).length≤c1∧(lim y).length≤c2∧(lim x).length≤3000000000∧(lim y).length≤1∧Nat.gcd x y=Nat.gcd a b) _ ⟨a,A,c,b,D,d,h,rfl,rfl,hs.to _ _,hc,hd,hLa,hLb,rfl⟩ ?_);rintro _ _ w1 ⟨x,A1,c1,y,A2,c2,h2,hm3,rfl,hs,hc1,hc2,hl1,hl2,hG⟩;refine cQ (aa hs [.m 7 1,.v 8 (nV ((lim y).length))] ?_);cases hb4:(decide ((0:Int)<(((lim y).length:Nat):Int)))
 ·
  have phb4:=oF hb4;refine lB 9 hb4 (aj (CG.exit ?_))
  show CG _ _ _ _ _ _ _ _
  refine aa hs [.m 18 0,.m 4 18] (lN (kX ?_));have hy0:y=0:=Nat.eq_zero_of_not_pos (fun h_=>by have:=er.2 h_;omega);exact hs.ret [] (qS A1 ((lim x).length) c1) (by rw[←hG,hy0,Nat.gcd_zero_right];exact ⟨A1,c1,rfl,hc1,hs.f.1⟩)
 have phb4:=oT hb4;refine lB 9 hb4 (ao (cK (kZ (aa hs [.m 11 0,.m 12 1] (lC 13 hs (kU x A1 c1 hc1 y A2 c2 hc2 oM oM (er.1 oM) _ _ hs.g hs.f.1 hs.f.2.1) ?_)))));rintro _ w5 h6 hs ⟨_,_,rfl,⟨Aq,cq,rfl,hcq,hq⟩,⟨Ar,cr,rfl,hcr,hr⟩⟩;replace hs:=hs.aS hr;have hmd:=Nat.mod_lt x (er.1 (show 0<(lim y).length by omega));have hml:=gf (show x%y≤y by omega);refine lL hs [.m 10 13,.v 14 (qS Aq (lim (x/y)).length cq),.v 15 (qS Ar ((lim (x%y)).length) cr),.m 5 14,.m 6 15] (aT (lL hs [.m 16 1,.m 0 16] (lN (kQ (lL hs [.m 17 6,.m 1 17] (lD ?_))))));intro a_ ka;replace hs:=((hs.tl.tl.tl.aS hs.f.1).aS hs.f.r.1);refine ⟨_,_,?_,⟨y,A2,c2,x%y,Ar,cr,h6,rfl,rfl,hs.to _ _,hc2,hcr,oM,oM,(by rw[lr];exact hG)⟩,ka.to _ kR⟩
 omega
theorem rQ (a:Nat)(A:Option Addr)(c:Nat)(hc:(lim a).length≤c)(b:Nat)(D:Option Addr)(d:Nat)(hd:(lim b).length≤d)(q:Nat)(hq:q=Nat.gcd a b)(hLa:(lim a).length≤3000000000)(hLb:(lim b).length≤1)(w:World)(h:Hp)(g:G w h)(hA:S3 A (lim a) h)(hD:S3 D (lim b) h):CR 71 #[.slice A (lim a).length c,.slice D (lim b).length d] w h (fun v h1=>RN h1 v q):=by
 subst hq;exact tj a A c hc b D d hd hLa hLb w h g hA hD
theorem pp {z:Int}(h0 : -4294967296<z)(h1:z<4294967296):(lim (ab z)).length≤1:=gd (by unfold ab;omega)
theorem Dq (x:Int)(A:Option Addr)(c:Nat)(hc:(lim (ab x)).length≤c)(hLx:(lim (ab x)).length≤2000000000)(y:Int)(D:Option Addr)(d:Nat)(hd:(lim (ab y)).length≤d)(hLy:(lim (ab y)).length≤1)(hd0:y≠0)(w:World)(h:Hp)(g:G w h)(hA:S3 A (lim (ab x)) h)(hD:S3 D (lim (ab y)) h):CR 29 #[.agg #[.bool (aD x),.slice A ((lim (ab x)).length) c],.agg #[.bool (aD y),.slice D ((lim (ab y)).length) d]] w h (fun v h1=>RQ h1 v (mkR x y)):=by
 have hs:=(((sS g).aS hA).aS hD);obtain ⟨hm1,hm2,hq0⟩:=sa x y hd0;obtain ⟨q,hq⟩:∃ q,q=Nat.gcd (ab x) (ab y):=⟨_,rfl⟩;rw[←hq] at hm1 hm2 hq0
 have hql:(lim q).length≤1:=ou (by rw[hq];exact Nat.gcd_le_right _ (by unfold ab;omega)) hLy;refine go Tryz.func29 [(0,.agg #[.bool (aD x),qS A ((lim (ab x)).length) c]),(1,.agg #[.bool (aD y),qS D ((lim (ab y)).length) d])] rfl (aE (lA 2 48 ([.bool (aD x),qS A ((lim (ab x)).length) c]) hs (fun b1 w2 h3 hs=>lA 3 48 ([.bool (aD y),qS D ((lim (ab y)).length) d]) hs (fun b4 w5 h6 hs=>lA 4 50 ([qF,sZ,sZ]) hs (fun b7 w8 h9 hs=>aT (lL hs [.v 10 (qP b1 1),.o 11 (qS A ((lim (ab x)).length) c) 2 1 1,.v 12 (qP b4 1),.o 13 (qS D ((lim (ab y)).length) d) 1 1 1] (lC 14 hs (rQ (ab x) A c hc (ab y) D d hd q hq oM oM _ _ hs.g hs.f.2.1 hs.f.1) ?_)))))));rintro _ _ _ hs ⟨zf,zg,rfl,zc,zk⟩;replace hs:=hs.aS zk;refine lL hs [.m 5 14] (aT (lL hs [.v 16 (qP b1 1),.o 17 (qS A ((lim (ab x)).length) c) 2 1 1,.m 18 5] (lC 19 hs (kU (ab x) A c hc q zf zg zc oM oM hq0 _ _ hs.g hs.f.r.1 hs.f.1) ?_)));rintro _ _ _ hs ⟨_,v2_A16,rfl,⟨zi,zj,rfl,zl,zm⟩,-⟩;replace hs:=hs.aS zm;refine lL hs [.m 15 19,.v 20 (qS zi ((lim ((ab x)/q)).length) zj),.v 21 v2_A16,.m 6 20,.m 7 21] (aT (lL hs [.v 23 (qP b4 1),.o 24 (qS D ((lim (ab y)).length) d) 1 1 1,.m 25 5] (lC 26 hs (kU (ab y) D d hd q zf zg zc oM oM hq0 _ _ hs.g hs.f.r.1 hs.f.2.1) ?_)));rintro _ _ _ hs ⟨_,v2_A22,rfl,⟨za,zb,rfl,zn,zo⟩,-⟩;replace hs:=hs.aS zo;refine lL hs [.m 22 26,.v 27 (qS za ((lim ((ab y)/q)).length) zb),.v 28 v2_A22,.m 8 27,.m 9 28] (aT (lL hs [.v 29 (pB b1),.o 30 (.bool (aD x)) 2 0 1,.v 31 (pB b4),.o 32 (.bool (aD y)) 1 0 1,.v 33 (.bool ((aD x) != (aD y))),.m 34 6] (lC 35 hs (rI ((aD x) != (aD y)) ((ab x)/q) zi zj zl _ _ hs.g hs.f.2.1) ?_)));rintro _ _ _ hs ⟨zd,ze,rfl,zp,zq⟩;replace hs:=hs.aS zq;exact lL hs [.m 36 8,.v 37 (.agg #[.bool (aD (ci ((aD x) != (aD y)) ((ab x)/q))),qS zd ((lim (ab (ci ((aD x) != (aD y)) ((ab x)/q)))).length) ze,qS za ((lim ((ab y)/q)).length) zb])] (lP 0 0 ([.bool (aD (ci ((aD x) != (aD y)) ((ab x)/q))),qS zd ((lim (ab (ci ((aD x) != (aD y)) ((ab x)/q)))).length) ze,qS za ((lim ((ab y)/q)).length) zb]) hs (fun _ hs=>ae hs [(0,0,3)] (.agg #[.bool (aD (ci ((aD x) != (aD y)) ((ab x)/q))),qS zd ((lim (ab (ci ((aD x) != (aD y)) ((ab x)/q)))).length) ze,qS za ((lim ((ab y)/q)).length) zb]) (by unfold RQ;rw[hm1,hm2];exact ⟨_,_,_,_,rfl,zp,zn,hs.f.1,hs.f.2.1⟩)))
theorem tH (x y:Int)(hy0:y≠0)(h0 : -9223372036854775808≤x)(h1:x<9223372036854775808)(h2 : -4294967296<y)(h3:y<4294967296)(w:World)(h:Hp)(g:G w h):CR 7 #[iV x,iV y] w h (fun v h1=>RQ h1 v (mkR x y)):=by
 have hs:=sS g;have hx_:=rN h0 h1;have hy_:=pp h2 h3;refine go Tryz.func7 [(0,iV x),(1,iV y)] rfl (aE (lA 4 50 ([qF,sZ,sZ]) hs (fun b1 w2 h3 hs=>aT (lL hs [.m 5 0] (lC 6 hs (uA x oM oM _ _ hs.g) ?_)))));rintro _ w8 h9 hs ⟨A4,c5,rfl,hc6,hA7⟩;replace hs:=hs.aS hA7;refine lL hs [.m 7 1] (lC 8 hs (uA y oM oM _ _ hs.g) ?_);rintro _ _ _ hs ⟨zl,zm,rfl,ze,zf⟩;replace hs:=hs.aS zf;refine lC 9 hs (Dq x A4 c5 hc6 oM y zl zm ze oM hy0 _ _ hs.g hs.f.2.1 hs.f.1) ?_;rintro _ _ _ hs ⟨za,zb,zc,zd,rfl,zg,zi,zj,zk⟩;replace hs:=hs.aP zj zk;exact lP 0 0 (Gx (mkR x y) za zb zc zd) hs (fun _ hs=>ae hs [(0,0,3)] (rG (mkR x y) za zb zc zd) (by skip;exact ⟨_,_,_,_,rfl,zg,zi,hs.f.2.1,hs.f.1⟩))
theorem FK (a:Nat)(A:Option Addr)(c:Nat)(hc:(lim a).length≤c)(hl:(lim a).length≤300000000)(w:World)(h:Hp)(g:G w h)(hA:S3 A (lim a) h):CV 28 #[.slice A ((lim a).length) c] w h (nv a):=by
 have hs:=((sS g).aS hA);have hnb:=pg a;refine go Tryz.func28 [(0,qS A ((lim a).length) c)] rfl (aE (lA 2 24 ([uV 0,eS]) hs (fun b1 w2 h3 hs=>aT (lL hs [.m 3 0] (lC 4 hs (sf a A c hc oM _ _ hs.g hs.f.1) ?_)))));rintro _ w6 h7 hs ⟨A4,rfl,hA5⟩;replace hs:=hs.aS hA5;exact ag 5 hs (vh a ((nb a+7)/8) A4 ((nb a+7)/8) (nR _) oM (vJ a) _ _ hs.g hs.f.1) (fun w8 h9 hs=>lP 0 0 (nc a) hs (fun _ hs=>ae hs [(0,0,2)] (nv a) rfl))
theorem Ha (z:Int)(A:Option Addr)(c:Nat)(hc:(lim (ab z)).length≤c)(hl:(lim (ab z)).length≤300000000)(w:World)(h:Hp)(g:G w h)(hA:S3 A (lim (ab z)) h):CV 26 #[.agg #[.bool (aD z),.slice A ((lim (ab z)).length) c]] w h (iv z):=by
 have hs:=((sS g).aS hA);have hwl:=xY (ab z);refine go Tryz.func26 [(0,.agg #[.bool (aD z),qS A ((lim (ab z)).length) c])] rfl (aE (lA 1 48 ([.bool (aD z),qS A ((lim (ab z)).length) c]) hs (fun b1 w2 h3 hs=>lA 2 26 ([qF,uV 0,eS]) hs (fun b4 w5 h6 hs=>af (cR 6 [] mixed hs aq ?_)))));exact eV 0 3 (pB b1) (eO 1 4 [(1,0,1)] (.bool (aD z)) hs (eV 2 5 (qP b1 1) (eO 3 6 [(1,1,1)] (qS A ((lim (ab z)).length) c) hs (ak 4 7 hs (fun _ _ hs=>FK (ab z) A c hc (by first|exact hl|exact LQ.ld hq|omega) _ _ hs.g hs.f.1) (fun w7 h8 hs=>ak 5 8 hs (fun _ _ hs=>eE (aD z) (ab z) oM _ _ hs.g) (fun w9 _ hs=>bM hs (fun _ _ hs=>tP 6 0 0 (ic (ci (aD z) (ab z))) hs (fun _ hs=>tN (kX (hs.ret [(0,0,3)] (iv (ci (aD z) (ab z))) (congrArg iv (kV z))))))))))))
theorem tB (q:Rat):mkR q.num ((q.den:Nat):Int)=q:=by
 unfold mkR;rw[if_neg oM];show mkRat q.num q.den=q;rw[Rat.mkRat_self]
theorem Ie (q:Rat)(A1:Option Addr)(c1:Nat)(D1:Option Addr)(d1:Nat)(hc1:(lim (ab q.num)).length≤c1)(hd1:(lim q.den).length≤d1)(hq:LQ 100000000 q)(w:World)(h:Hp)(g:G w h)(hA1:S3 A1 (lim (ab q.num)) h)(hD1:S3 D1 (lim q.den) h)(tb:Tab h):CV 6 #[rG q A1 c1 D1 d1] w h (qv q):=by
 have hs:=((((sS g).aS hA1).aS hD1).aB tb);refine go Tryz.func6 [(0,rG q A1 c1 D1 d1)] rfl (aE (lA 1 50 (Gx q A1 c1 D1 d1) hs (fun b1 w2 h3 hs=>lA 2 28 ([qF,uV 0,eS,uV 0,eS]) hs (fun b4 w5 h6 hs=>af ?_))));have hsr:=hs;exact cR 12 [⟨11,3,.cells (List.toArray [qF,uV 0,eS,uV 0,eS]) 28 (0,0)⟩] mixed hs (bn (ee kR (fun _ _=>by kernel_rfl)) aq) (eV 0 6 (pB b1) (eO 1 7 [(1,0,2)] (.agg #[.bool (aD q.num),qS A1 ((lim (ab q.num)).length) c1]) hs (eV 3 9 (qP b1 2) (eO 4 10 [(1,2,1)] (qS D1 ((lim q.den).length) d1) hs (ak 2 8 hs (fun _ _ hs=>Ha q.num A1 c1 hc1 (LQ.ln hq) _ _ hs.g hs.f.r.1) (fun w7 h8 hs=>ak 5 11 hs (fun _ _ hs=>FK q.den D1 d1 hd1 (by first|exact hl|exact LQ.ld hq|omega) _ _ hs.g hs.f.2.1) (fun w9 _ hs=>ak 6 12 hs (fun _ _ hs=>dg q.den _ _ hs.g) (fun _ _ hs=>ak 7 13 hs (fun _ _ hs=>GF q.num (q.den:Int) (by have:=q.den_pos;omega) (by have:=hq.1;omega) (by show (wds q.den).length≤_;have:=hq.2;omega) _ _ hs.g hs.f.1) (fun _ _ hs=>eV 8 5 (.tuple #[qv (mkR q.num (q.den:Int)),qT]) (eV 9 14 (qv (mkR q.num (q.den:Int))) (eV 10 15 qT (iZ [] hsr hs 28 [qF,uV 0,eS,uV 0,eS] (fun _ _ b17 hs=>tP 12 0 0 (qc (mkR q.num (q.den:Int))) hs (fun _ hs=>tV 13 4 qT (tS (lL hs [.o 16 (qv (mkR q.num (q.den:Int))) 0 0 5] (lP 1 0 (qc (mkR q.num (q.den:Int))) hs (fun _ hs=>ae hs [(1,0,5)] (qv (mkR q.num (q.den:Int))) (congrArg qv (tB q))))))))))))))))))))
theorem p9 (n:Nat)(hl:(wds n).length≤100000000)(w:World)(h:Hp)(g:G w h):CR 138 #[nv n] w h (fun v h1=>RN h1 v n):=by
 have hs:=sS g;have hnb:=kL n;refine go Tryz.func138 [(0,nv n)] rfl (aE (lA 1 24 (nc n) hs (fun b1 w2 h3 hs=>lL hs [.v 2 (sZ)] (aT (lL hs [.o 3 (nv n) 0 0 2] (lC 4 hs (u5 n oM _ _ hs.g) ?_))))));rintro _ w6 h7 hs ⟨A4,rfl,hA5⟩;replace hs:=hs.aS hA5;refine lC 5 hs (uq n ((nb n+7)/8) A4 ((nb n+7)/8) (nR _) oM (vJ n) _ _ hs.g hs.f.1) ?_;rintro _ _ _ hs ⟨A8,c9,rfl,za,zb⟩;replace hs:=hs.aS zb;exact lL hs [.m 2 5] (ae hs [] (qS A8 ((lim n).length) c9) (⟨_,_,rfl,za,hs.f.1⟩))
theorem AH (z:Int):ci (decide (z.sign<(0:Int))) (ab z)=z:=by
 rcases Int.lt_trichotomy z 0 with h|h|h
 ·rw[Int.sign_eq_neg_one_of_neg h];unfold ci ab;simp;omega
 ·subst h;rfl
 ·rw[Int.sign_eq_one_of_pos h];unfold ci ab;simp;omega
theorem x8 (z:Int)(hl:(wds (ab z)).length≤100000000)(w:World)(h:Hp)(g:G w h):CR 136 #[iv z] w h (fun v h1=>RI h1 v z):=by
 have hs:=sS g;refine go Tryz.func136 [(0,iv z)] rfl (aE (lA 1 26 (ic z) hs (fun b1 w2 h3 hs=>lA 2 48 ([qF,sZ]) hs (fun b4 w5 h6 hs=>af (cR 7 [] mixed hs aq ?_)))));refine eO 0 3 [(1,0,3)] (iv z) hs (eO 3 6 [(1,0,3)] (iv z) hs (ak 1 4 hs (fun _ _ hs=>jD z oM _ _ hs.g) (fun w7 h8 hs=>eV 2 5 (.bool (decide ((z.sign:Int)<(0:Int)))) (ak 4 7 hs (fun _ _ hs=>rH z _ _ hs.g) (fun w9 _ hs=>eC 5 8 hs (fun _ _ hs=>p9 (ab z) (by first|exact hq.2|omega) _ _ hs.g) ?_)))));rintro _ _ _ _ _ hs ⟨zg,zi,rfl,zc,zd⟩;replace hs:=hs.aS zd;refine eC 6 9 hs (fun _ _ hs=>rI (decide ((z.sign:Int)<(0:Int))) (ab z) zg zi zc _ _ hs.g hs.f.1) ?_;rintro _ _ _ _ _ hs ⟨za,zb,rfl,ze,zf⟩;replace hs:=hs.aS zf;exact bM hs (fun _ _ hs=>tP 7 0 0 ([.bool (aD (ci (decide ((z.sign:Int)<(0:Int))) (ab z))),qS za ((lim (ab (ci (decide ((z.sign:Int)<(0:Int))) (ab z)))).length) zb]) hs (fun _ hs=>tN (kX (hs.ret [(0,0,2)] (.agg #[.bool (aD (ci (decide ((z.sign:Int)<(0:Int))) (ab z))),qS za ((lim (ab (ci (decide ((z.sign:Int)<(0:Int))) (ab z)))).length) zb]) (by rw[AH] at *;exact ⟨_,_,rfl,ze,hs.f.1⟩)))))
theorem GR (q:Rat)(hq:LQ 100000000 q)(w:World)(h:Hp)(g:G w h):CR 93 #[qv q] w h (fun v h1=>RQ h1 v q):=by
 have hs:=sS g;refine go Tryz.func93 [(0,qv q)] rfl (aE (lA 1 28 (qc q) hs (fun b1 w2 h3 hs=>lA 2 50 ([qF,sZ,sZ]) hs (fun b4 w5 h6 hs=>af (cR 7 [] mixed hs aq ?_)))));refine eO 0 3 [(1,0,5)] (qv q) hs (eO 3 6 [(1,0,5)] (qv q) hs (ak 1 4 hs (fun _ _ hs=>Gy q _ _ hs.g) (fun w7 h8 hs=>eC 2 5 hs (fun _ _ hs=>x8 q.num hq.1 _ _ hs.g) ?_)));rintro _ _ _ _ _ hs ⟨A9,za,rfl,zd,ze⟩;replace hs:=hs.aS ze;refine ak 4 7 hs (fun _ _ hs=>eM q hq _ _ hs.g) (fun _ _ hs=>eC 5 8 hs (fun _ _ hs=>p9 q.den (by first|exact hq.2|omega) _ _ hs.g) ?_);rintro _ _ _ _ _ hs ⟨zb,zc,rfl,zf,zg⟩;replace hs:=hs.aS zg;exact eV 6 9 (rG q A9 za zb zc) (bM hs (fun _ _ hs=>tP 7 0 0 (Gx q A9 za zb zc) hs (fun _ hs=>tN (kX (hs.ret [(0,0,3)] (rG q A9 za zb zc) (⟨_,_,_,_,rfl,zd,zf,hs.f.2.1,hs.f.1⟩))))))
def gn (a b:Rat):Bool:=decide (a=b)
theorem xG {a b:Rat}(h1:bT (ab a.num) (ab b.num)=0)(h2:aD a.num=aD b.num)(h3:bT a.den b.den=0):true=gn a b:=by
 have e1:ab a.num=ab b.num:=by unfold bT at h1;split at h1;omega;split at h1;omega;omega
 have e3:a.den=b.den:=by unfold bT at h3;split at h3;omega;split at h3;omega;omega
 have e2:a.num=b.num:=by rw[←kV a.num,←kV b.num,e1,h2]
 symm
 exact decide_eq_true (Rat.ext e2 e3)
theorem l7 (a:Nat):bT a a=0:=by simp[bT]
theorem na {a b:Rat}(h:bT (ab a.num) (ab b.num)≠0∨aD a.num≠aD b.num∨bT a.den b.den≠0):false=gn a b:=by
 symm
 refine decide_eq_false ?_;rintro rfl
 rcases h with h|h|h
 ·exact h (l7 _)
 ·exact h rfl
 ·exact h (l7 _)
theorem FI (q r:Rat)(hq:LQ 100000000 q)(hr:LQ 100000000 r)(A1:Option Addr)(c1:Nat)(D1:Option Addr)(d1:Nat)(hc1:(lim (ab r.num)).length≤c1)(hd1:(lim r.den).length≤d1)(w:World)(h:Hp)(g:G w h)(hA1:S3 A1 (lim (ab r.num)) h)(hD1:S3 D1 (lim r.den) h):CV 52 #[qv q,rG r A1 c1 D1 d1] w h (.bool (gn q r)):=by
 have hs:=(((sS g).aS hA1).aS hD1);have hpd:0<(lim r.den).length:=er.2 r.den_pos;have hq1:=LQ.ln hq;have hq2:=LQ.ld hq;have hr1:=LQ.ln hr;have hr2:=LQ.ld hr;refine go Tryz.func52 [(0,qv q),(1,rG r A1 c1 D1 d1)] rfl (aE (lA 2 28 (qc q) hs (fun b1 w2 h3 hs=>lA 3 50 (Gx r A1 c1 D1 d1) hs (fun b4 w5 h6 hs=>lL hs [.v 4 qF] (aT (lL hs [.o 6 (qv q) 1 0 5] (lC 7 hs (GR q hq _ _ hs.g) ?_)))))));rintro _ _ _ hs ⟨A7,c8,zd,ze,rfl,hc9,zk,zl,zm⟩;replace hs:=hs.aP zl zm;refine lA 5 50 ([qF,sZ,sZ]) hs (fun zc _ _ hs=>lP 0 0 (Gx q A7 c8 zd ze) hs (fun _ hs=>af (aa hs [.v 8 (qP b4 2),.o 9 (qS D1 ((lim r.den).length) d1) 1 2 1,.v 10 (nV ((lim r.den).length))] ?_)));have zf:((((lim r.den).length:Nat):Int) == (0:Int))=false:=(by simp;exact fun h=>Nat.lt_irrefl 0 (by rw[h] at hpd;exact hpd));have phb21:=ah zf;refine lB 11 zf (aj (cK (aa hs [.v 13 (pB zc),.v 14 (qP zc 1),.o 15 (qS A7 ((lim (ab q.num)).length) c8) 0 1 1,.v 16 (pB b4),.v 17 (qP b4 1),.o 18 (qS A1 ((lim (ab r.num)).length) c1) 1 1 1] (ag 19 hs (jy (ab q.num) A7 c8 hc9 (ab r.num) A1 c1 hc1 oM oM _ _ hs.g hs.f.2.1 hs.f.r.2.1) (fun _ _ hs=>?_)))));cases za:((bT (ab q.num) (ab r.num):Int) == (0:Int))
 ·
  have zi:=ah za;refine lB 20 za (lL hs [.m 21 20] (lG 22 ?_));refine lG 23 (lG 24 (lG 25 (lG 26 (lG 27 (lG 28 (lL hs [.v 29 qF,.m 30 29] (lG 31 ?_)))))));exact lG 32 (lG 33 (lG 34 (lG 35 (lG 36 (lL hs [.v 37 qF,.m 4 37] (ae hs [] qF (congrArg Value.bool (na (by first|(left;assumption)|(right;right;assumption)|(right;left;exact beq_eq_false_iff_ne.1 ‹_›))))))))))
 have zi:=eq_of_beq za;refine lB 20 za (lL hs [.m 21 20,.v 22 (pB zc),.v 23 (pB zc),.o 24 (.bool (aD q.num)) 0 0 1,.v 25 (pB b4),.v 26 (pB b4),.o 27 (.bool (aD r.num)) 1 0 1] ?_);cases zg:((aD q.num) == (aD r.num))
 ·
  refine lB 28 zg (lL hs [.v 29 qF,.m 30 29] (lG 31 ?_));exact lG 32 (lG 33 (lG 34 (lG 35 (lG 36 (lL hs [.v 37 qF,.m 4 37] (ae hs [] qF (congrArg Value.bool (na (by first|(left;assumption)|(right;right;assumption)|(right;left;exact beq_eq_false_iff_ne.1 ‹_›))))))))))
 refine lB 28 zg (lL hs [.v 29 qT,.m 30 29,.v 31 (qP zc 2),.o 32 (qS zd ((lim q.den).length) ze) 0 2 1,.v 33 (qP b4 2),.o 34 (qS D1 ((lim r.den).length) d1) 1 2 1] (ag 35 hs (jy q.den zd ze zk r.den D1 d1 hd1 oM oM _ _ hs.g hs.f.1 hs.f.r.1) (fun _ _ hs=>?_)));cases zb:((bT q.den r.den:Int) == (0:Int))
 ·
  have zj:=ah zb;exact lB 36 zb (lL hs [.v 37 qF,.m 4 37] (ae hs [] qF (congrArg Value.bool (na (by first|(left;assumption)|(right;right;assumption)|(right;left;exact beq_eq_false_iff_ne.1 ‹_›))))))
 have zj:=eq_of_beq zb;exact lB 36 zb (lL hs [.v 37 qT,.m 4 37] (ae hs [] qT (congrArg Value.bool (xG aM (eq_of_beq ‹_›) aM))))
theorem LQ.mkR {n d:Int}(hd:d≠0)(h0 : -9223372036854775808≤n)(h1:n≤9223372036854775807)(h2 : -9223372036854775808≤d)(h3:d≤9223372036854775807):LQ 1 (mkR n d):=by
 unfold Go.Proofs.YtlgfpiiafagihaaGreatDoor.mkR
 have hp:0<ab d:=by unfold ab;omega
 obtain ⟨p1,p2,p3,p4⟩:=fI (if d<0 then -n else n) (ab d) hp;refine ⟨?_,?_⟩
 ·rw[p1];refine bU.2 (Nat.lt_of_le_of_lt (bV _ _ p3) ?_)
  unfold ab;split<;>omega
 ·rw[p2];exact bU.2 (Nat.lt_of_le_of_lt (Nat.div_le_self _ _) (by unfold ab;omega))
theorem oB (q:Rat)(z e:Int)(hq:LQ 100000000 q)(he:e≠0)(hz0 : -9223372036854775808≤z)(hz1:z<9223372036854775808)(he0 : -4294967296<e)(he1:e<4294967296)(w:World)(h:Hp)(g:G w h):CV 13 #[qv q,iV z,iV e] w h (.bool (gn q (mkR z e))):=by
 have hs:=sS g;have hb:LQ 100000000 (mkR z e):=(LQ.mkR he hz0 oM oM oM).mono oM;refine go Tryz.func13 [(0,qv q),(1,iV z),(2,iV e)] rfl (aE (lA 3 28 (qc q) hs (fun b1 w2 h3 hs=>lL hs [.v 6 qF] (af (cR 5 [] mixed hs aq ?_)))));refine eO 0 7 [(0,0,5)] (qv q) hs (eV 1 8 (iV z) (eV 2 9 (iV e) (eC 3 10 hs (fun _ _ hs=>tH z e oM oM oM oM oM _ _ hs.g) ?_)));rintro _ _ _ _ _ hs ⟨A4,c5,A8,c9,rfl,hc6,za,hA7,zb⟩;replace hs:=hs.aP hA7 zb;exact ak 4 11 hs (fun _ _ hs=>FI q (mkR z e) hq hb A4 c5 A8 c9 hc6 za _ _ hs.g hs.f.2.1 hs.f.1) (fun _ _ hs=>bM hs (fun _ _ hs=>tV 5 6 (.bool (gn q (mkR z e))) (tN (kX (hs.ret [] (.bool (gn q (mkR z e))) rfl)))))
def F6 (n:Int)(m:Nat):Nat:=(n%(m:Int)).toNat
def CS (n:Int):Rat:=mkR ((F6 n 9:Int)-4) (((F6 (n.tdiv 9) 2:Nat):Int)+1)
abbrev RT:=Bool × Value × Value
def HE (t:RT):List Value:=[.bool t.1,t.2.1,t.2.2]
def FV:RT:=(false,undef,undef)
abbrev rA (t:RT):Value:=.agg #[.bool t.1,t.2.1,t.2.2]
abbrev Sr (A:Option Addr)(l:List RT):Hp→Prop:=fun h_=>SlO 3 HE FV h_ A l
def G9 (t:RT):Value:=.agg #[.bool t.1,t.2.1,t.2.2]
structure RTs (h:Hp) (ts:List RT) (qs:List Rat):Prop where
  len:ts.length=qs.length
  at_:∀ i,i<qs.length→RQ h (G9 (ts.getD i FV)) (qs.getD i 0)
abbrev Rt (t:List RT)(l:List Rat):Hp→Prop:=fun h_=>RTs h_ t l
theorem cG {α:Type}(l:List α)(x d:α)(i:Nat):(l++[x]).getD i d=if i<l.length then l.getD i d else if i=l.length then x else d:=by
 split
 ·rename_i h;simp[List.getElem?_append_left h]
 ·rename_i h
  split
  ·rename_i h2;subst h2;simp
  ·rename_i h2;simp[List.getElem?_eq_none (show (l++[x]).length≤i by simp;omega)]
theorem pU {α:Type}{l:List α}{k:Nat}(d:α)(h:k<l.length):l.take (k+1)=l.take k++[l.getD k d]:=by
 rw[List.take_add_one];simp[h]
def vc (v:Value):List Value:=[v]
abbrev Sv (A:Option Addr)(l:List Value):Hp→Prop:=fun h_=>SlO 1 vc undef h_ A l
def HM (zs:List Int):Prop:=∀ k,-9223372036854775808≤zs.getD k 0∧zs.getD k 0≤9223372036854775807
structure RVs (h:Hp) (vs:List Value) (qss:List (List Rat)):Prop where
  len:vs.length=qss.length
  at_:∀ i,i<qss.length→∃ A cap,∃ ts:List RT,vs.getD i undef=.slice A ts.length cap∧ts.length≤cap∧SlO 3 HE FV h A ts∧RTs h ts (qss.getD i [])
abbrev Ru (t:List Value)(l:List (List Rat)):Hp→Prop:=fun h_=>RVs h_ t l
structure QVs (h:Hp) (vs:List Value) (qss:List (List Rat)):Prop where
  len:vs.length=qss.length
  at_:∀ i,i<qss.length→SlV 5 qc 0 h (vs.getD i undef) (qss.getD i [])
abbrev Qu (t:List Value)(l:List (List Rat)):Hp→Prop:=fun h_=>QVs h_ t l
theorem QVs.gw {h h':Hp}{vs:List Value}{qss:List (List Rat)}(r:QVs h vs qss)(u:Gw h h'):QVs h' vs qss:=⟨r.len,fun i hi=>(r.at_ i hi).gw u⟩
theorem SS.aQ {t:List Value}{l:List (List Rat)}{w0 w:World}{h0 h:Hp}{B:List Bx}{R:List Rw}{F:List (Hp→Prop)}(s:SS w0 h0 w h B R F)(p:QVs h t l):SS w0 h0 w h B R (Qu t l::F):=s.add (K:=Qu t l) p
theorem xi {α:Type}{d:α}{a b:List α}{k:Nat}(h:∀ i,i<k→a.getD i d=b.getD i d)(h2:a.getD k d=b.getD k d):∀ i,i<k+1→a.getD i d=b.getD i d:=fun i hi=>by
 by_cases e:i=k
 ·rw[e];exact h2
 ·exact h i oM
theorem F3 {α:Type}[DecidableEq α]{d:α}{a b:List α}(hl:a.length=b.length)(h:∀ i,i<a.length→a.getD i d=b.getD i d):Value.bool true=.bool (decide (a=b)):=by
 rw[decide_eq_true];refine List.ext_getElem hl (fun i h1 h2=>?_);have:=h i h1
 simpa [h1,h2] using this
theorem Ez {α:Type}[DecidableEq α]{a b:List α}(hl:a.length≠b.length):Value.bool false=.bool (decide (a=b)):=by
 rw[decide_eq_false];intro e;exact hl (by rw[e])
theorem CM {α:Type}[DecidableEq α]{d:α}{a b:List α}(k:Nat)(h:a.getD k d≠b.getD k d):Value.bool false=.bool (decide (a=b)):=by
 rw[decide_eq_false];intro e;exact h (by rw[e])
theorem rO (A:Option Addr)(ca:Nat)(xs ys:List Int)(D:Option Addr)(cd:Nat)(hl:xs.length≤1000000)(hlp:ys.length≤1000000)(w:World)(h:Hp)(g:G w h)(hA:Si A xs h)(hD:Si D ys h):CV 14 #[.slice A xs.length ca,.slice D ys.length cd] w h (.bool (decide (xs=ys))):=by
 have hs:=(((sS g).aS hA).aS hD);refine go Tryz.func14 [(0,qS A xs.length ca),(1,qS D ys.length cd)] rfl (aa hs [.v 4 qF] (af (aa hs [.m 6 0,.v 7 (nV xs.length),.m 8 1,.v 9 (nV ys.length)] ?_)));cases hb1:((xs.length:Int) != (ys.length:Int))
 ·
  have phb1:=aI hb1;refine lB 10 hb1 (aj (cK (cQ (aa hs [.v 5 (iV 0)] (bj ?_)))));refine bx _ (CG.loop (fun μ_ Γ w_=>∃ (k:Nat) (h_:Hp),μ_=xs.length-k∧Γ=[(0,qS A xs.length ca),(1,qS D ys.length cd),(5,nV k)]∧SS w h w_ h_ [] [] [Si D ys,Si A xs]∧k≤xs.length∧xs.length=ys.length∧(∀ i,i<k→xs.getD i 0=ys.getD i 0)) _ ⟨0,h,rfl,rfl,hs.to _ _,Nat.zero_le _,by omega,fun i hi=>absurd hi (Nat.not_lt_zero i)⟩ ?_);rintro _ _ w2 ⟨k,h3,hm4,rfl,hs,hk,hlqp,hsm⟩;refine cQ (aa hs [.m 11 5,.m 12 0,.v 13 (nV xs.length)] ?_);cases hb5:(decide ((k:Int)<(xs.length:Int)))
  ·
   have phb5:=oF hb5;refine lB 14 hb5 (aj (CG.exit ?_))
   show CG _ _ _ _ _ _ _ _
   exact aa hs [.v 4 qT] (ae hs [] qT (F3 hlqp (fun i hi=>hsm i oM)))
  have phb5:=oT hb5;refine lB 14 hb5 (ao (cK (cQ (kZ (cQ (cR 9 [] mixed hs aq ?_))))));refine eV 0 17 (qS A xs.length ca) (eV 1 18 (nV k) (eX 2 19 A xs.length ca 1 (k:Nat) k ((hs.f.2.1).ok oM) (eH 3 20 (iV (xs.getD k 0)) hs ((hs.f.2.1).el k oM) (eV 4 21 (qS D ys.length cd) (eV 5 22 (nV k) (eX 6 23 D ys.length cd 1 (k:Nat) k ((hs.f.1).ok oM) (eH 7 24 (iV (ys.getD k 0)) hs ((hs.f.1).el k oM) ?_)))))));cases hb6:((xs.getD k 0:Int) != (ys.getD k 0:Int))
  ·
   have phb6:=aI hb6;refine eB 8 25 hb6 (bM hs (fun w7 h8 hs=>tN (cM (cK (kQ (lL hs [.m 15 5] (bB 16 ((k:Nat)+1) (k+1) ?_)))))));refine lL hs [.m 5 16] (lD ?_);intro a_ ka;refine ⟨_,_,?_,⟨k+1,h8,rfl,rfl,hs.to _ _,oM,hlqp,(xi hsm oM)⟩,ka.to _ kR⟩
   omega
  have phb6:=aJ hb6;exact eB 8 25 hb6 (bM hs (fun _ _ hs=>tN (bS (aa hs [.v 4 qF] (ae hs [] qF (CM k oM))))))
 have phb1:=aJ hb1;exact lB 10 hb1 (ao (aa hs [.v 4 qF] (ae hs [] qF (Ez oM))))
def pr (a b:Rat):Rat:=if a<b then b else a
theorem CY (a:Rat)(ha:LQ 100000000 a)(w:World)(h:Hp)(g:G w h):CV 128 #[qv a] w h (qv (dr a)):=by
 have hs:=sS g;refine go Tryz.func128 [(0,qv a)] rfl (aE (lA 1 28 (qc a) hs (fun b1 w2 h3 hs=>lA 2 28 ([qF,uV 0,eS,uV 0,eS]) hs (fun b4 w5 h6 hs=>af (cR 7 [] mixed hs aq ?_)))));exact eV 0 3 (pB b1) (eO 1 4 [(1,0,3)] (iv a.num) hs (eV 4 7 (qP b1 3) (eO 5 8 [(1,3,2)] (nv (qd a)) hs (ak 2 5 hs (fun _ _ hs=>rH a.num _ _ hs.g) (fun w7 h8 hs=>ak 3 6 hs (fun _ _ hs=>dg (ab a.num) _ _ hs.g) (fun w9 _ hs=>eV 6 9 (.agg #[.bool (aD (((ab a.num):Nat):Int)),uV (lo (ab (((ab a.num):Nat):Int))),.string (hi (ab (((ab a.num):Nat):Int))),uV (lo (qd a)),.string (hi (qd a))]) (bM hs (fun _ _ hs=>tP 7 0 0 ([.bool (aD (((ab a.num):Nat):Int)),uV (lo (ab (((ab a.num):Nat):Int))),.string (hi (ab (((ab a.num):Nat):Int))),uV (lo (qd a)),.string (hi (qd a))]) hs (fun _ hs=>tN (kX (hs.ret [(0,0,5)] (.agg #[.bool (aD (((ab a.num):Nat):Int)),uV (lo (ab (((ab a.num):Nat):Int))),.string (hi (ab (((ab a.num):Nat):Int))),uV (lo (qd a)),.string (hi (qd a))]) (gV (k8 a) (by unfold qd;rw[oo])))))))))))))
theorem F5 (A:Option Addr)(ca:Nat)(a:List Rat)(D:Option Addr)(cd:Nat)(b:List Rat)(K L:Nat)(hl:a.length=b.length)(hn:a.length≤1000000)(hb:a.length*(K+L+1)+K+L+2≤100000000)(ha:∀ i,i<a.length→LQ K (a.getD i 0))(hbb:∀ i,i<a.length→LQ L (b.getD i 0))(w:World)(h:Hp)(g:G w h)(hA:Sq A a h)(hD:Sq D b h)(tb:Tab h):CV 44 #[.slice A a.length ca,.slice D b.length cd] w h (.tuple #[qv (c4 a b a.length),.bool true]):=by
 have hs:=((((sS g).aS hA).aS hD).aB tb);refine go Tryz.func44 [(0,qS A a.length ca),(1,qS D b.length cd)] rfl (aE (lA 4 28 ([qF,uV 0,eS,uV 0,eS]) hs (fun b1 w2 h3 hs=>lL hs [.v 5 qF] (af (aa hs [.m 9 0,.v 10 (nV a.length),.m 11 1,.v 12 (nV b.length)] ?_)))));have hb4:((a.length:Int) != (b.length:Int))=false:=rP oM;have phb4:=aI hb4;refine lB 13 hb4 (aj (cK (aE (lA 6 28 ([qF,uV 0,eS,uV 0,eS]) hs (fun b5 w6 h7 hs=>af (aa hs [.m 15 0,.v 16 (nV a.length),.v 17 (iV 0)] (bj ?_)))))));refine bx _ (CG.loop (fun μ_ Γ w_=>∃ (k:Nat) (h_:Hp),μ_=a.length-k∧Γ=[(1,qS D b.length cd),(4,pB b1),(5,qF),(6,pB b5),(15,qS A a.length ca),(16,nV a.length),(17,nV k)]∧SS w h w_ h_ [⟨b5,28,qc (c4 a b k)⟩,⟨b1,28,[qF,uV 0,eS,uV 0,eS]⟩] [] [fun h_=>Tab h_,Sq D b,Sq A a]∧k≤a.length) _ ⟨0,h7,rfl,rfl,hs.to _ _,Nat.zero_le _⟩ ?_);rintro _ _ w8 ⟨k,h9,hm10,rfl,hs,hk⟩;have hmk:k*(K+L+1)≤a.length*(K+L+1):=Nat.mul_le_mul_right _ hk;have hdk:LQ (100000000-K-L-1) (c4 a b k):=(LQ.dot ha hbb k hk).mono oM;refine aE ?_;cases za:(decide ((k:Int)<(a.length:Int)))
 ·
  have zc:=oF za;refine lB 18 za (af (cM (CG.exit ?_)))
  show CG _ _ _ _ _ _ _ _
  exact aa hs [.o 31 (qv (c4 a b k)) 0 0 5] (lP 1 0 (qc (c4 a b k)) hs (fun _ hs=>lL hs [.v 5 qT] (ae hs [(1,0,5)] (.tuple #[qv (c4 a b k),qT]) (by rw[show a.length=k by omega]))))
 have zc:=oT za;refine lB 18 za (af (bS (cK (cQ (kZ (aa hs [.m 19 17] (lX 20 A a.length ca 5 (k:Nat) k ((hs.f.r.1).ok oM) ?_)))))));refine lH 21 (qv (a.getD k 0)) hs ((hs.f.r.1).el k oM) (lA 8 28 ([qF,uV 0,eS,uV 0,eS]) hs (fun b13 _ _ hs=>lL hs [.m 7 19] (lP 0 0 (qc (a.getD k 0)) hs (fun _ hs=>lN (cR 8 [] mixed hs aq ?_)))));refine eO 0 22 [(1,0,5)] (qv (c4 a b k)) hs (eO 1 23 [(0,0,5)] (qv (a.getD k 0)) hs (eV 2 24 (qS D b.length cd) (eV 3 25 (nV k) (eX 4 26 D b.length cd 5 (k:Nat) k ((hs.f.2.1).ok oM) (eH 5 27 (qv (b.getD k 0)) hs ((hs.f.2.1).el k oM) ?_)))));have zb:=LQ.mul (ha k oM) (hbb k oM);refine ak 6 28 hs (fun _ _ hs=>iO (a.getD k 0) (b.getD k 0) (LQ.mono (ha k oM) oM) (LQ.mono (hbb k oM) oM) _ _ hs.g hs.f.1) (fun _ _ hs=>?_);have hq20:=LQ.add hdk zb;refine ak 7 29 hs (fun _ _ hs=>jI (c4 a b k) ((a.getD k 0)*(b.getD k 0)) (LQ.mono hdk oM) (LQ.mono zb oM) _ _ hs.g hs.f.1) (fun _ _ hs=>bM hs (fun _ zd hs=>tP 8 1 0 (qc ((c4 a b k)+((a.getD k 0)*(b.getD k 0)))) hs (fun _ hs=>tN (kQ (bB 30 ((k:Nat)+1) (k+1) ?_)))));refine lL hs [.m 17 30] (lD ?_);intro a_ ka;replace hs:=hs.drop 1 0;refine ⟨_,_,?_,⟨k+1,zd,rfl,rfl,hs.to _ _,oM⟩,ka.to _ kR⟩
 omega
structure Lay where
  k:Int
  W:List (List Rat)
  B:List Rat
def ij:Lay:=⟨0,[],[]⟩
abbrev LV:=Int × Value × Value
def EN:LV:=(0,undef,undef)
structure NetL (h:Hp) (ts:List LV) (ls:List Lay):Prop where
  len:ts.length=ls.length
  at_:∀ i,i<ls.length→(ts.getD i EN).1=(ls.getD i ij).k∧(∃ A c,∃ us:List Value,(ts.getD i EN).2.1=.slice A us.length c∧us.length≤c∧SlO 1 vc undef h A us∧QVs h us (ls.getD i ij).W)∧SlV 5 qc 0 h (ts.getD i EN).2.2 (ls.getD i ij).B
abbrev Nn (t:List LV)(l:List Lay):Hp→Prop:=fun h_=>NetL h_ t l
structure RNetL (h:Hp) (ts:List LV) (ls:List Lay):Prop where
  len:ts.length=ls.length
  at_:∀ i,i<ls.length→(ts.getD i EN).1=(ls.getD i ij).k∧(∃ A c,∃ us:List Value,(ts.getD i EN).2.1=.slice A us.length c∧us.length≤c∧SlO 1 vc undef h A us∧RVs h us (ls.getD i ij).W) ∧
    (∃ A c,∃ rs:List RT,(ts.getD i EN).2.2=.slice A rs.length c∧rs.length≤c∧SlO 3 HE FV h A rs∧RTs h rs (ls.getD i ij).B)
abbrev Rn (t:List LV)(l:List Lay):Hp→Prop:=fun h_=>RNetL h_ t l
def vA (l:List Rat):Prop:=∀ q∈l,∃ z,q=CS z
structure LayMk (L:Lay) (kq:Nat) (r c:Nat):Prop where
  k:L.k=(kq:Int)
  rows:L.W.length=r
  row:∀ q∈L.W,q.length=c∧vA q
  bl:L.B.length=r
  bs:vA L.B
structure LayFit (L:Lay):Prop where
  rl:L.W.length≤1000000
  rls:∀ i,i<L.W.length→(L.W.getD i []).length≤1000000
  rf:∀ i,i<L.W.length→∀ j,j<(L.W.getD i []).length→LQ 100000000 ((L.W.getD i []).getD j 0)
  bl:L.B.length≤1000000
  bf:∀ i,i<L.B.length→LQ 100000000 (L.B.getD i 0)
structure Stp where
  op:Int
  a:Int
  b:Int
  n:Int
  q:Rat
abbrev sX (p:Stp):Value:=.agg #[iV p.op,iV p.a,iV p.b,iV p.n,.bool (aD p.q.num),uV (lo (ab p.q.num)),.string (hi (ab p.q.num)),uV (lo (qd p.q)),.string (hi (qd p.q))]
abbrev sC (p:Stp):List Value:=[iV p.op,iV p.a,iV p.b,iV p.n,.bool (aD p.q.num),uV (lo (ab p.q.num)),.string (hi (ab p.q.num)),uV (lo (qd p.q)),.string (hi (qd p.q))]
abbrev sW (o a b n:Int)(q:Rat):Value:=.agg #[iV o,iV a,iV b,iV n,.bool (aD q.num),uV (lo (ab q.num)),.string (hi (ab q.num)),uV (lo (qd q)),.string (hi (qd q))]
abbrev sG (o a b n:Int)(q:Rat):List Value:=[iV o,iV a,iV b,iV n,.bool (aD q.num),uV (lo (ab q.num)),.string (hi (ab q.num)),uV (lo (qd q)),.string (hi (qd q))]
def ac:Stp:=⟨0,0,0,0,0⟩
abbrev gP (l:List Stp)(k:Nat):Stp:=l.getD k ac
def fu (s:Stp):List Value:=[.int .i64 s.op,.int .i64 s.a,.int .i64 s.b,.int .i64 s.n,.bool (aD s.q.num),.int .u64 (lo (ab s.q.num)),.string (hi (ab s.q.num)),.int .u64 (lo (qd s.q)),.string (hi (qd s.q))]
def HU (s:Stp):Value:=.agg #[.int .i64 s.op,.int .i64 s.a,.int .i64 s.b,.int .i64 s.n,.bool (aD s.q.num),.int .u64 (lo (ab s.q.num)),.string (hi (ab s.q.num)),.int .u64 (lo (qd s.q)),.string (hi (qd s.q))]
def cC (op:Int):Int :=
  if op=1∨op=2 then 0 else if op=7∨op=8∨op=9∨op=10∨op=11 then 1
  else if op=3∨op=4∨op=5∨op=6∨op=12∨op=13 then 2 else -1
theorem aG (op:Int):(cC op=0∧(op=1∨op=2))∨(cC op=1∧(op=7∨op=8∨op=9∨op=10∨op=11))∨(cC op=2∧(op=3∨op=4∨op=5∨op=6∨op=12∨op=13))∨(cC op = -1∧(op<1∨13<op)):=by
 unfold cC;split
 ·exact .inl ⟨rfl,by assumption⟩
 ·split
  ·exact .inr (.inl ⟨rfl,by assumption⟩)
  ·split
   ·exact .inr (.inr (.inl ⟨rfl,by assumption⟩))
   ·exact .inr (.inr (.inr ⟨rfl,by omega⟩))
def dS (i:Nat)(tt:Int)(used:Prop):Prop:=(used→0≤tt∧tt<i)∧(¬used→tt=0)
def Formed (inp:Int)(i:Nat)(s:Stp):Prop :=
  0≤cC s.op∧dS i s.a (0<cC s.op)∧dS i s.b (1<cC s.op)∧(s.op≠1→s.q.num=0) ∧
  (s.op=2→0≤s.n∧s.n<inp)∧(s.op=8 → -12≤s.n∧s.n≤12)∧(s.op≠2→s.op≠8→s.n=0)
instance (i:Nat) (tt:Int) (u:Prop) [Decidable u]:Decidable (dS i tt u):=by unfold dS;infer_instance
instance (inp:Int) (i:Nat) (s:Stp):Decidable (Formed inp i s):=by unfold Formed;infer_instance
def bA (s:Stp)(hv:List Int):Int :=
  if cC s.op=0 then 1 else if cC s.op=2 then hv.getD s.a.toNat 0+hv.getD s.b.toNat 0
  else if s.op=11 then 2*hv.getD s.a.toNat 0 else if s.op=8 then max (max s.n (0-s.n)) 1*hv.getD s.a.toNat 0 else hv.getD s.a.toNat 0
def nC (inp:Int):List Stp→List Int→Int
  | [],_=>0
  | s::r,hv=>if Formed inp hv.length s then (if 65536<bA s hv then 18 else nC inp r (hv++[bA s hv])) else 2
def iH (n:Nat)(os:List Int):Prop:=∀ i,i<os.length→0≤os.getD i 0∧os.getD i 0<n
instance (n:Nat) (os:List Int):Decidable (iH n os):=by unfold iH;infer_instance
def be (inp:Int)(l:List Stp)(os:List Int):Int :=
  if 0≤inp∧inp≤1000∧l.length≤65536∧os.length≤300 then (if nC inp l []=0 then (if iH l.length os then 0 else 1) else nC inp l []) else 5
theorem iK {l:List Stp}{k:Nat}(h:k<l.length):l.drop k=l.getD k ac::l.drop (k+1):=by
 rw[List.drop_eq_getElem_cons h];simp[h]
theorem p8 {inp:Int}{l:List Stp}{hv:List Int}{k:Nat}(hk:k<l.length)(hl:hv.length=k)(h:¬Formed inp k (l.getD k ac)):nC inp (l.drop k) hv=2:=by
 rw[iK hk,nC,hl,if_neg h]
theorem n9 {inp:Int}{l:List Stp}{hv:List Int}{k:Nat}(hk:k<l.length)(hl:hv.length=k)(h:Formed inp k (l.getD k ac))(hw:65536<bA (l.getD k ac) hv):nC inp (l.drop k) hv=18:=by
 rw[iK hk,nC,hl,if_pos h,if_pos hw]
theorem vR {inp:Int}{l:List Stp}{hv:List Int}{k:Nat}(hk:k<l.length)(hl:hv.length=k)(h:Formed inp k (l.getD k ac))(hw:¬65536<bA (l.getD k ac) hv):nC inp (l.drop k) hv=nC inp (l.drop (k+1)) (hv++[bA (l.getD k ac) hv]):=by
 rw[iK hk,nC,hl,if_pos h,if_neg hw]
theorem jf {l:List Int}{k j:Nat}(h:j<k):(l.take k).getD j 0=l.getD j 0:=by
 rw[List.getD_eq_getElem?_getD,List.getElem?_take_of_lt h,←List.getD_eq_getElem?_getD]
theorem fK {inp:Int}{s:Stp}{L:List Int}{k:Nat}(h:Formed inp k s):bA s (L.take k)=bA s L:=by
 obtain ⟨h0,⟨ha,_⟩,⟨hb,_⟩,_⟩:=h
 unfold bA
 rcases aG s.op with ⟨e,_⟩|⟨e,_⟩|⟨e,_⟩|⟨e,_⟩
 ·rw[e];rfl
 ·have:=ha oM
  rw[e,jf oM];simp
 ·have:=ha oM;have:=hb oM
  rw[e,jf oM,jf oM]
 ·omega
theorem lh {L:List Int}{k:Nat}{x:Int}(h:k<L.length):(L.set k x).take (k+1)=L.take k++[x]:=by
 rw[List.take_add_one,List.take_set_of_le (Nat.le_refl k)]
 simp[h]
def Wts (L:List Int)(k:Nat):Prop:=∀ j,j<k→1≤L.getD j 0∧L.getD j 0≤65536
theorem Wts.weight {inp:Int}{s:Stp}{L:List Int}{k:Nat}(w:Wts L k)(h:Formed inp k s):1≤bA s L∧bA s L≤786432:=by
  obtain ⟨h0,⟨ha,_⟩,⟨hb,_⟩,_,_,h8,_⟩:=h
  unfold bA
  rcases aG s.op with ⟨e,_⟩|⟨e,_⟩|⟨e,_⟩|⟨e,_⟩
  · rw[e,if_pos rfl];decide
  · have h1:=ha oM
    have h2:=w s.a.toNat oM;rw[e,if_neg kD,if_neg kD]
    split
    · omega
    · split
      · have h3:=h8 aM
        have h4:1≤max (max s.n (0-s.n)) 1∧max (max s.n (0-s.n)) 1≤12:=by omega
        have h5:1*1≤max (max s.n (0-s.n)) 1*L.getD s.a.toNat 0:=Int.mul_le_mul h4.1 h2.1 oM oM;have h6:max (max s.n (0-s.n)) 1*L.getD s.a.toNat 0≤12*65536:=Int.mul_le_mul h4.2 h2.2 oM oM
        omega
      · omega
  · have h1:=ha oM
    have h2:=w s.a.toNat oM;have h3:=hb oM;have h4:=w s.b.toNat oM;rw[e,if_neg kD,if_pos rfl];omega
  · omega
theorem Wts.pow {inp:Int}{s:Stp}{L:List Int}{k:Nat}(w:Wts L k)(h:Formed inp k s)(h8:s.op=8):1≤max (max s.n (0-s.n)) 1*L.getD s.a.toNat 0∧max (max s.n (0-s.n)) 1*L.getD s.a.toNat 0≤786432:=by
 have:=w.weight h
 unfold bA cC at this
 simp only[h8] at this
 simpa using this
theorem Wts.snoc {L:List Int}{k:Nat}{x:Int}(w:Wts L k)(hk:k<L.length)(h1:1≤x)(h2:x≤65536):Wts (L.set k x) (k+1):=fun j hj=>by
 by_cases e:j=k
 ·subst e;rw[List.getD_eq_getElem?_getD,List.getElem?_set_self hk];exact ⟨h1,h2⟩
 ·rw[List.getD_eq_getElem?_getD,List.getElem?_set_ne (Ne.symm e),←List.getD_eq_getElem?_getD];exact w j oM
theorem eA {inp:Int}{l:List Stp}{os:List Int}(h:¬(0≤inp∧inp≤1000∧l.length≤65536∧os.length≤300)):be inp l os=5:=by unfold be;rw[if_neg h]
theorem oE {inp:Int}{l:List Stp}{os:List Int}(h:0≤inp∧inp≤1000∧l.length≤65536∧os.length≤300)(hg:nC inp l []≠0):be inp l os=nC inp l []:=by unfold be;rw[if_pos h,if_neg hg]
theorem ml {inp:Int}{l:List Stp}{os:List Int}(h:0≤inp∧inp≤1000∧l.length≤65536∧os.length≤300)(hg:nC inp l []=0)(ho:¬iH l.length os):be inp l os=1:=by unfold be;rw[if_pos h,if_pos hg,if_neg ho]
theorem tT {inp:Int}{l:List Stp}{os:List Int}(h:0≤inp∧inp≤1000∧l.length≤65536∧os.length≤300)(hg:nC inp l []=0)(ho:iH l.length os):be inp l os=0:=by unfold be;rw[if_pos h,if_pos hg,if_pos ho]
structure RSt where
  op:Int
  a:Int
  b:Int
  n:Int
  t:RT
def Hl:RSt:=⟨0,0,0,0,FV⟩
structure OSt where
  op:Int
  a:Int
  b:Int
  n:Int
  q:Rat
  has:Bool
def Hr:OSt:=⟨0,0,0,0,0,false⟩
def Ij (o:OSt):Nat:=if o.has then o.q.den else 0
structure RS1 (h:Hp) (t:RSt) (o:OSt):Prop where
  op:t.op=o.op
  a:t.a=o.a
  b:t.b=o.b
  n:t.n=o.n
  q:RP h (G9 t.t) o.q.num (Ij o)
  z:o.has=false→o.q=0
structure RSs (h:Hp) (ts:List RSt) (os:List OSt):Prop where
  len:ts.length=os.length
  at_:∀ i,i<os.length→RS1 h (ts.getD i Hl) (os.getD i Hr)
structure OSm (o:OSt):Prop where
  op : -1000≤o.op∧o.op≤1000
  a : -1000≤o.a∧o.a≤1000
  b : -1000≤o.b∧o.b≤1000
  n : -1000≤o.n∧o.n≤1000
  q:LQ 1 o.q
def EH (k:Nat)(s:Stp):Prop:=(0<cC s.op→s.a.toNat<k)∧(1<cC s.op→s.b.toNat<k)∧(0<cC s.op→s.b.toNat<k)∧(s.op≠2→0≤cC s.op)
theorem Formed.opr {inp:Int}{k:Nat}{s:Stp}(h:Formed inp k s):EH k s:=by
 obtain ⟨f0,⟨f1,f1'⟩,⟨f2,f2'⟩,_⟩:=h;refine ⟨fun h=>by have:=f1 h;omega,fun h=>by have:=f2 h;omega,fun h=>?_,fun _=>f0⟩;have:=f1 h
 by_cases h2:1<cC s.op
 ·have:=f2 h2;omega
 ·have:=f2' h2;omega
section
variable {inp:Int} {i:Nat} {s:Stp} (h:Formed inp i s)
include h
theorem Formed.ix:0≤s.a∧0≤s.b∧s.a.toNat≤i∧s.b.toNat≤i:=by
 obtain ⟨f0,⟨f1,f1'⟩,⟨f2,f2'⟩,_⟩:=h
 by_cases h1:0<cC s.op
 ·have:=f1 h1
  by_cases h2:1<cC s.op
  ·have:=f2 h2;omega
  ·have:=f2' h2;omega
 ·have:=f1' h1;have:=f2' oM;omega
theorem Formed.nm (e:s.op=2):0≤s.n∧s.n<inp:=h.2.2.2.2.1 e
theorem Formed.op_ (h2:s.op≠2):1≤s.op∧s.op≤13∧s.op≠2:=by have:=aG s.op;have:=h.1;omega
theorem Formed.o68:(s.op=6∨s.op=8→s.a.toNat<i)∧(s.op=6→s.b.toNat<i):=⟨fun e=>h.opr.1 (by rcases e with e|e<;>rw[e]<;>decide),fun e=>h.opr.2.1 (by rw[e];decide)⟩
end
def gH (W:List (List Rat)):Prop:=0<W.length∧0<(W.getD 0 []).length∧∀ i,i<W.length→(W.getD i []).length=(W.getD 0 []).length
noncomputable def fq (W:List (List Rat)):Bool:=@decide (gH W) (Classical.propDecidable _)
theorem oz {W:List (List Rat)}{k:Nat}(hR:∀ i,i<k→(W.getD i []).length=(W.getD 0 []).length)(h:(W.getD k []).length=(W.getD 0 []).length):∀ i,i<k+1→(W.getD i []).length=(W.getD 0 []).length:=fun i hi=>by
 by_cases e:i=k
 ·rw[e];exact h
 ·exact hR i oM
theorem Gp {W:List (List Rat)}(h:gH W):Value.bool true=.bool (fq W):=by unfold fq;rw[@decide_eq_true _ (Classical.propDecidable _) h]
theorem Dd {W:List (List Rat)}(h:¬gH W):Value.bool false=.bool (fq W):=by unfold fq;rw[@decide_eq_false _ (Classical.propDecidable _) h]
theorem BR {W:List (List Rat)}(h:fq W=true):gH W:=by unfold fq at h;exact @oT _ (Classical.propDecidable _) h
theorem uv {W:List (List Rat)}(h:fq W=false):¬gH W:=by unfold fq at h;exact @oF _ (Classical.propDecidable _) h
theorem qj (A:Option Addr)(cap:Nat)(us:List Value)(W:List (List Rat))(hl:W.length≤1000000)(hls:∀ i,i<W.length→(W.getD i []).length≤1000000)(w:World)(h:Hp)(g:G w h)(hA:Sv A us h)(hU:QVs h us W):CV 86 #[.slice A us.length cap] w h (.bool (fq W)):=by
 have hs:=(((sS g).aS hA).aQ hU);have hlu:=(hs.f.1).len;refine go Tryz.func86 [(0,qS A us.length cap)] rfl (aa hs [.v 2 qF] (af (aa hs [.m 5 0,.v 6 (nV us.length)] ?_)));cases hb1:((us.length:Int) == (0:Int))
 ·
  have phb1:=ah hb1;refine lB 7 hb1 (lL hs [.m 8 7,.m 9 0] (lX 10 A us.length cap 1 0 0 ((hs.f.2.1).ok oM) ?_));obtain ⟨Aqz,cqz,eqz,hcqz,hRqz⟩:=(hs.f.1).at_ 0 oM;replace hs:=hs.aS hRqz;refine ws 11 (us.getD 0 undef) hs ((hs.f.r.1).el 0 oM) eqz (lL hs [.v 12 (nV ((W.getD 0 []).length))] ?_);cases hb2:((((W.getD 0 []).length:Nat):Int) == (0:Int))
  ·
   have phb2:=ah hb2;refine lB 13 hb2 (lL hs [.v 14 qF] (aj (cK (cQ (aa hs [.m 15 0,.v 16 (nV us.length),.v 17 (iV 0)] (bj ?_))))));refine bx _ (CG.loop (fun μ_ Γ w_=>∃ (k:Nat) (h_:Hp),μ_=us.length-k∧Γ=[(0,qS A us.length cap),(15,qS A us.length cap),(16,nV us.length),(17,nV k)]∧SS w h w_ h_ [] [] [Sq Aqz (W.getD 0 []),Qu us W,Sv A us]∧k≤us.length∧(∀ i,i<k→(W.getD i []).length=(W.getD 0 []).length)) _ ⟨0,h,rfl,rfl,hs.to _ _,Nat.zero_le _,fun i hi=>absurd hi (Nat.not_lt_zero i)⟩ ?_);rintro _ _ w3 ⟨k,h4,hm5,rfl,hs,hk,hR⟩;refine aE ?_;cases hb6:(decide ((k:Int)<(us.length:Int)))
   ·
    have phb6:=oF hb6;refine lB 18 hb6 (af (cM (CG.exit ?_)))
    show CG _ _ _ _ _ _ _ _
    exact aa hs [.v 2 qT] (ae hs [] qT (Gp ⟨by omega,by omega,fun i hi=>hR i oM⟩))
   have phb6:=oT hb6;refine lB 18 hb6 (af (bS (cK (cQ (kZ (aE (lX 19 A us.length cap 1 (k:Nat) k ((hs.f.r.1).ok oM) ?_)))))));obtain ⟨Aqx,cqx,eqx,hcqx,hRqx⟩:=(hs.f.2.1).at_ k oM;replace hs:=hs.aS hRqx;refine ws 20 (us.getD k undef) hs ((hs.f.r.2.1).el k oM) eqx (lL hs [.m 4 20] (aT (lL hs [.m 21 4,.v 22 (nV ((W.getD k []).length)),.m 23 0] (lX 24 A us.length cap 1 0 0 ((hs.f.r.2.1).ok oM) ?_))));obtain ⟨Aqy,cqy,eqy,hcqy,hRqy⟩:=(hs.f.r.1).at_ 0 oM;replace hs:=hs.aS hRqy;refine ws 25 (us.getD 0 undef) hs ((hs.f.q.1).el 0 oM) eqy (lL hs [.v 26 (nV ((W.getD 0 []).length))] ?_);cases hb7:((((W.getD k []).length:Nat):Int) != (((W.getD 0 []).length:Nat):Int))
   ·
    have phb7:=aI hb7;refine lB 27 hb7 (aj (cK (kQ (bB 28 ((k:Nat)+1) (k+1) ?_))));refine lL hs [.m 17 28] (lD ?_);intro a_ ka;replace hs:=hs.tl.tl;refine ⟨_,_,?_,⟨k+1,h4,rfl,rfl,hs.to _ _,oM,(oz hR oM)⟩,ka.to _ kR⟩
    omega
   have phb7:=aJ hb7;exact lB 27 hb7 (ao (aa hs [.v 2 qF] (ae hs [] qF (Dd (fun h_=>by have h1_:=h_.1;have h2_:=h_.2.1;have h3_:=h_.2.2 k oM;omega)))))
  have phb2:=eq_of_beq hb2;exact lB 13 hb2 (lL hs [.v 14 qT] (ao (aa hs [.v 2 qF] (ae hs [] qF (Dd (fun h_=>by have h1_:=h_.1;have h2_:=h_.2.1;omega))))))
 have phb1:=eq_of_beq hb1;refine lB 7 hb1 (lL hs [.m 8 7] (lG 9 ?_));exact lG 10 (lG 11 (lG 12 (lG 13 (lL hs [.v 14 qT] (ao (aa hs [.v 2 qF] (ae hs [] qF (Dd (fun h_=>by have h1_:=h_.1;have h2_:=h_.2.1;omega)))))))))
structure LayLen (L:Lay):Prop where
  rl:L.W.length≤1000000
  rls:∀ i,i<L.W.length→(L.W.getD i []).length≤1000000
  bl:L.B.length≤1000000
structure Mat (W:List (List Rat)) (r c:Nat):Prop where
  rows:W.length=r
  rpos:0<r
  cpos:0<c
  row:∀ i,i<r→(W.getD i []).length=c
structure Net3 (ls:List Lay) (d:Nat→Nat):Prop where
  len:1≤ls.length∧ls.length≤4
  first:d 0≤20
  lay:∀ i,i<ls.length→Mat (ls.getD i ij).W (d (i+1)) (d i)∧(ls.getD i ij).B.length=d (i+1)∧d (i+1)≤12∧((ls.getD i ij).k=1∨(ls.getD i ij).k=2∨(ls.getD i ij).k=3)
theorem oA (u:Rat):0<((1:Int):Rat)+dr u:=by
 have h:(0:Rat)≤dr u:=by rw[←Rat.num_nonneg,k8];omega
 have h1:(0:Rat)<((1:Int):Rat):=by decide
 grind
theorem kF (u:Rat):(((1:Int):Rat)+dr u).num≠0:=by
 have:=oA u;intro e;have e2:((1:Int):Rat)+dr u=0:=by rw[←Rat.num_eq_zero];exact e
 rw[e2] at this;exact absurd this kD
def Ic (k:Int)(u:Rat):Rat:=if k=2 then pr u 0 else if k=3 then u/(((1:Int):Rat)+dr u) else u
def G5 (L:Lay)(x:List Rat):List Rat:=(List.range L.W.length).map fun i=>Ic L.k (c4 (L.W.getD i []) x x.length+L.B.getD i 0)
def xR (ls:List Lay)(xs:List Rat):Nat→List Rat
  | 0=>xs
  | k+1=>G5 (ls.getD k ij) (xR ls xs k)
abbrev gD (ls:List Lay)(xs:List Rat)(k r:Nat):Rat:=c4 ((ls.getD k ij).W.getD r []) (xR ls xs k) (xR ls xs k).length
abbrev gS (ls:List Lay)(xs:List Rat)(k r:Nat):Rat:=gD ls xs k r+((ls.getD k ij).B).getD r 0
structure NetB (ls:List Lay) (xs:List Rat):Prop where
  w:∀ k i j,LQ 1000000 (((ls.getD k ij).W.getD i []).getD j 0)
  b:∀ k i,LQ 1000000 ((ls.getD k ij).B.getD i 0)
  x:∀ k,k≤ls.length→∀ j,LQ 1000000 ((xR ls xs k).getD j 0)
theorem eD {n:Nat}:∀ j,(List.replicate n (0:Rat)).getD j 0=0:=fun j=>by
 rw[List.getD_eq_getElem?_getD,List.getElem?_replicate];split<;>rfl
structure LaySz (L:Lay):Prop where
  rl:L.W.length≤8
  rls:∀ i,(L.W.getD i []).length≤8
  bl:L.B.length≤8
  w:∀ i j,LQ 1 ((L.W.getD i []).getD j 0)
  b:∀ i,LQ 1 (L.B.getD i 0)
  b4:L.B.length≤4
  w4:(L.W.getD 0 []).length≤4
theorem j1 {k:Nat}(h:1≤k):LQ k 0:=(LQ.lit (z:=0) kD).mono h
theorem rM (a:Rat):dx a a=0:=by unfold dx dG;rw[if_neg oM,if_neg oM]
section fut
variable {P:Program} {n:Nat} {N R:Po} {X:Nat→Po} {ops:Array Oper} {k0 K:Nat} {L:Array Bool} {Γ:bW} {w:World} {h:Hp} {w0:World} {h0:Hp} {B:List Bx} {Rs:List Rw} {F:List (Hp→Prop)}
end fut
theorem bY {α:Type}{l:List α}{n i:Nat}{d x:α}(h:n<l.length):(l.set n x).getD i d=if i=n then x else l.getD i d:=by
 split
 ·rename_i e;subst e;simp[h]
 ·rename_i e;rw[List.getD_eq_getElem?_getD,List.getElem?_set_ne (Ne.symm e),←List.getD_eq_getElem?_getD]
structure LayS4 (L:Lay):Prop where
  rl:L.W.length≤4
  rls:∀ i,(L.W.getD i []).length≤4
  bl:L.B.length≤4
  w:∀ i j,LQ 1 ((L.W.getD i []).getD j 0)
  b:∀ i,LQ 1 (L.B.getD i 0)
section fla
variable {P:Program} {n:Nat} {N R:Po} {X:Nat→Po} {ops:Array Oper} {k:Nat} {Γ:bW} {w:World} {h:Hp} {w0:World} {h0:Hp} {B:List Bx} {Rs:List Rw} {F:List (Hp→Prop)}
end fla
section prt
variable {M:Ms} {P:Program} {n:Nat} {N R:Po} {X:Nat→Po} {ops:Array Oper} {k k0:Nat} {hr:Hp} {AL:List Al} {L:Array Bool} {Γ:bW} {w:World} {h:Hp}
end prt
theorem cI {α:Type}{l:List α}{i:Nat}{d:α}(h:l.length≤i):l.getD i d=d:=by rw[List.getD_eq_getElem?_getD,List.getElem?_eq_none h];rfl
def d9 (a:Rat):Nat→Rat
  | 0=>((1:Int):Rat)
  | k+1=>d9 a k*a
theorem rt {a:Rat}(h:a≠0):∀ k,d9 a k≠0
 | 0=>by show ((1:Int):Rat)≠0;decide
 | k+1=>by show d9 a k*a≠0;have:=rt h k;grind
theorem rR {k:Nat}(h:0<k):d9 0 k=0:=by
 obtain ⟨j,rfl⟩:∃ j,k=j+1:=⟨k-1,by omega⟩
 show d9 0 j*0=0;rw[Rat.mul_zero]
def fe (a:Rat)(n:Int):Rat:=if 0≤n then d9 a n.natAbs else ((1:Int):Rat)/d9 a n.natAbs
def rX (a b:Rat):Rat:=if b<a then b else a
def G0 (op n:Int)(q a b:Rat):Rat :=
  if op=1 then q else if op=3 then a+b else if op=4 then a-b else if op=5 then a*b else if op=6 then a/b else if op=7 then -a
  else if op=8 then fe a n else if op=9 then dr a else if op=10 then pr a 0 else if op=11 then a/(dr a+((1:Int):Rat)) else if op=12 then pr a b else rX a b
def mF (op n:Int)(a b:Rat):Prop:=(op=6→b≠0)∧(op=8→n<0→a≠0)
instance (op n:Int) (a b:Rat):Decidable (mF op n a b):=by unfold mF;infer_instance
def k9 (op:Int)(a b:Rat):Prop:=(op=9∨op=10)∧a=0∨(op=12∨op=13)∧a=b
instance (op:Int) (a b:Rat):Decidable (k9 op a b):=by unfold k9;infer_instance
def oN (s:Stp)(at_ v:List Rat):Rat:=if s.op=2 then at_.getD s.n.toNat 0 else G0 s.op s.n s.q (v.getD s.a.toNat 0) (v.getD s.b.toNat 0)
def aU (l:List Stp)(at_:List Rat):Nat→List Rat
  | 0=>[]
  | k+1=>aU l at_ k++[oN (l.getD k ac) at_ (aU l at_ k)]
theorem d8 (l:List Stp)(at_:List Rat):∀ k,(aU l at_ k).length=k
 | 0=>rfl
 | k+1=>by show (aU l at_ k++[_]).length=_;rw[List.length_append,d8 l at_ k];rfl
def fN (sm:Bool)(s:Stp)(v:List Rat):Int:=if s.op=2 then 0 else if mF s.op s.n (v.getD s.a.toNat 0) (v.getD s.b.toNat 0) then (if sm=true∧k9 s.op (v.getD s.a.toNat 0) (v.getD s.b.toNat 0) then 7 else 0) else 6
def bN (sm:Bool)(l:List Stp)(at_:List Rat):Nat→Int
  | 0=>0
  | k+1=>if bN sm l at_ k=0 then fN sm (l.getD k ac) (aU l at_ k) else bN sm l at_ k
theorem kH {sm:Bool}{l:List Stp}{at_:List Rat}{k:Nat}(h:bN sm l at_ k≠0):∀ j,bN sm l at_ (k+j)=bN sm l at_ k
  | 0=>rfl
  | j+1=>by
    have e:=kH h j
    show (if bN sm l at_ (k+j)=0 then fN sm (l.getD (k+j) ac) (aU l at_ (k+j)) else bN sm l at_ (k+j))=_
    rw[e,if_neg h]
theorem r8 {sm:Bool}{l:List Stp}{at_:List Rat}{k n:Nat}(h0:bN sm l at_ k=0)(hk:k<n)(h:fN sm (l.getD k ac) (aU l at_ k)≠0):bN sm l at_ n=fN sm (l.getD k ac) (aU l at_ k):=by
 have e:bN sm l at_ (k+1)=fN sm (l.getD k ac) (aU l at_ k):=by show (if _=0 then _ else _)=_;rw[if_pos h0]
 obtain ⟨j,rfl⟩:∃ j,n=k+1+j:=⟨n-(k+1),by omega⟩;rw[kH (by rw[e];exact h),e]
theorem rz {sm:Bool}{l:List Stp}{at_:List Rat}{k:Nat}(h0:bN sm l at_ k=0)(h:fN sm (l.getD k ac) (aU l at_ k)=0):bN sm l at_ (k+1)=0:=by
 show (if _=0 then _ else _)=_;rw[if_pos h0];exact h
def dV (v:List Rat)(os:List Int):List Rat:=os.map fun o=>v.getD o.toNat 0
def nj (op n:Int)(a b:Rat):Rat :=
  if op=3 then ((1:Int):Rat) else if op=4 then ((1:Int):Rat) else if op=5 then b else if op=6 then ((1:Int):Rat)/b else if op=7 then -((1:Int):Rat)
  else if op=8 then (if n=0 then 0 else fe a (n-1)*((n:Int):Rat)) else if op=9 then ((a.num.sign:Int):Rat) else if op=10 then ((max a.num.sign 0:Int):Rat)
  else if op=11 then (((1:Int):Rat)/(((1:Int):Rat)+dr a))*(((1:Int):Rat)/(((1:Int):Rat)+dr a))
  else if op=12 then (if b<a then ((1:Int):Rat) else 0) else if op=13 then (if b<a then 0 else ((1:Int):Rat)) else 0
def nu (op:Int)(a b:Rat):Rat :=
  if op=3 then ((1:Int):Rat) else if op=4 then -((1:Int):Rat) else if op=5 then a else if op=6 then -(a*(((1:Int):Rat)/b)*(((1:Int):Rat)/b))
  else if op=12 then (if b<a then 0 else ((1:Int):Rat)) else if op=13 then (if b<a then ((1:Int):Rat) else 0) else 0
def m5 (s:Stp)(way v d:List Rat):Rat :=
  if s.op=2 then way.getD s.n.toNat 0
  else (if 0<cC s.op then nj s.op s.n (v.getD s.a.toNat 0) (v.getD s.b.toNat 0)*d.getD s.a.toNat 0 else 0)+(if 1<cC s.op then nu s.op (v.getD s.a.toNat 0) (v.getD s.b.toNat 0)*d.getD s.b.toNat 0 else 0)
def en (l:List Stp)(at_ way:List Rat):Nat→List Rat
  | 0=>[]
  | k+1=>en l at_ way k++[m5 (l.getD k ac) way (aU l at_ k) (en l at_ way k)]
theorem jw (l:List Stp)(at_ way:List Rat):∀ k,(en l at_ way k).length=k
 | 0=>rfl
 | k+1=>by show (en l at_ way k++[_]).length=_;rw[List.length_append,jw l at_ way k];rfl
theorem qy (z:Int) : -1≤z.sign∧z.sign≤1:=by
 rcases Int.lt_trichotomy z 0 with h|h|h
 ·rw[Int.sign_eq_neg_one_of_neg h];decide
 ·rw[h];decide
 ·rw[Int.sign_eq_one_of_pos h];decide
theorem o7 {a:Rat}(h:a≠0):a.num≠0:=fun e=>h (by rw[←Rat.num_eq_zero];exact e)
theorem fz {a:Rat}{K:Nat}(h:LQ K a):∀ k,LQ (k*K+1) (d9 a k)
 | 0=>LQ.mono (k:=1) (LQ.lit (z:=1) kD) oM
 | k+1=>((fz h k).mul h).mono (by rw[Nat.add_mul];omega)
theorem Af {a:Rat}{K:Nat}{n:Int}(hK:1≤K)(h:LQ K a)(hn : -13≤n∧n≤13):LQ (13*K+2) (fe a n):=by
 have h1:=fz h n.natAbs;have h2:n.natAbs*K≤13*K:=Nat.mul_le_mul_right _ oM
 unfold fe
 split
 ·exact h1.mono oM
 ·exact ((LQ.lit (z:=1) kD).div h1).mono oM
theorem BK (a b:Rat)(hb:b=0)(w:World)(h:Hp)(g:G w h):CV 47 #[qv a,qv b] w h (.tuple #[qv 0,.bool false]):=by
 subst hb;exact Fl a (j1 oM) w h g
theorem oX (u:Rat):(dr u+((1:Int):Rat)).num≠0:=by rw[Rat.add_comm];exact kF u
theorem B3 {op:Int}{a b:Rat}(h:op=9∨op=10):(a.num.sign == (0:Int))=decide (k9 op a b):=by
 have e:a.num.sign=0↔a=0:=by rw[Int.sign_eq_zero_iff_zero,Rat.num_eq_zero]
 by_cases h0:a=0
 ·rw[decide_eq_true (show k9 op a b from .inl ⟨h,h0⟩)];simpa using e.2 h0
 ·rw[decide_eq_false (show ¬k9 op a b from fun x=>by rcases x with x|x;exact h0 x.2;omega)]
  simpa using fun h1=>h0 (e.1 h1)
theorem qR {a b:Rat}:dx a b=0↔a=b:=by
 constructor
 ·intro h
  have h1:¬a<b:=fun x=>by have:=jz.2 x;omega
  have h2:¬b<a:=fun x=>by have:=fH.2 x;omega
  grind
 ·intro h;subst h
  have h1:¬dx a a<0:=fun x=>by have:=jz.1 x;grind
  have h2:¬dx a a>0:=fun x=>by have:=fH.1 x;grind
  omega
theorem Ca {op:Int}{a b:Rat}(h:op=12∨op=13):(dx a b == (0:Int))=decide (k9 op a b):=by
 by_cases h0:a=b
 ·rw[decide_eq_true (show k9 op a b from .inr ⟨h,h0⟩)];simpa using qR.2 h0
 ·rw[decide_eq_false (show ¬k9 op a b from fun x=>by rcases x with x|x;omega;exact h0 x.2)]
  simpa using fun h1=>h0 (qR.1 h1)
theorem EU {op:Int}{a b:Rat}(h:¬(op=9∨op=10∨op=12∨op=13)):false=decide (k9 op a b):=by
 rw[decide_eq_false (show ¬k9 op a b from fun x=>by rcases x with x|x<;>omega)]
theorem ug {op n:Int}{a b:Rat}(h:op=12∨op=13)(hc:0<dx a b∧op=12∨¬0<dx a b∧op=13):Value.tuple #[qv ((1:Int):Rat),qv 0]=.tuple #[qv (nj op n a b),qv (nu op a b)]:=by
 rcases hc with ⟨h1,rfl⟩|⟨h1,rfl⟩
 ·have h2:b<a:=fH.1 h1
  unfold nj nu;simp[h2]
 ·have h2:¬b<a:=fun x=>h1 (fH.2 x)
  unfold nj nu;simp[h2]
theorem tU {op n:Int}{a b:Rat}(h:op=12∨op=13)(hc:0<dx a b∧op=13∨¬0<dx a b∧op=12):Value.tuple #[qv 0,qv ((1:Int):Rat)]=.tuple #[qv (nj op n a b),qv (nu op a b)]:=by
 rcases hc with ⟨h1,rfl⟩|⟨h1,rfl⟩
 ·have h2:b<a:=fH.1 h1
  unfold nj nu;simp[h2]
 ·have h2:¬b<a:=fun x=>h1 (fH.2 x)
  unfold nj nu;simp[h2]
theorem Hc (a b:Rat)(ha:LQ 100000000 a)(hb:LQ 100000000 b)(w:World)(h:Hp)(g:G w h):CV 154 #[qv a,qv b] w h (qv (rX a b)):=by
 have hs:=sS g;refine go Tryz.func154 [(0,qv a),(1,qv b)] rfl (aE (lA 2 28 (qc a) hs (fun b1 w2 h3 hs=>lA 3 28 (qc b) hs (fun b4 w5 h6 hs=>lA 4 28 ([qF,uV 0,eS,uV 0,eS]) hs (fun b7 w8 h9 hs=>af (aa hs [.o 5 (qv b) 1 0 5,.o 6 (qv a) 2 0 5] (ag 7 hs (mX b a (LQ.mono hb oM) (LQ.mono ha oM) _ _ hs.g) (fun _ _ hs=>?_))))))));cases za:(decide ((dx b a:Int)<(0:Int)))
 ·
  have zb:=oF za;exact lB 8 za (aj (cK (aa hs [.o 10 (qv a) 2 0 5] (lP 0 0 (qc a) hs (fun _ hs=>ae hs [(0,0,5)] (qv a) (by unfold rX;rw[if_neg (fun h_=>by have:=jz.2 h_;omega)]))))))
 have zb:=oT za;exact lB 8 za (ao (aa hs [.o 9 (qv b) 1 0 5] (lP 0 0 (qc b) hs (fun _ hs=>ae hs [(0,0,5)] (qv b) (by unfold rX;rw[if_pos (jz.1 oM)])))))
theorem AX (a:Rat)(n:Int)(K:Nat)(hK:14*K+20≤100000000)(ha:LQ K a)(hn : -13≤n∧n≤13)(hs:0≤n)(w:World)(h:Hp)(g:G w h)(tb:Tab h):CV 127 #[qv a,iV n] w h (.tuple #[qv (fe a n),.bool true]):=by
 have hs:=((sS g).aB tb);obtain ⟨m,hm⟩:∃ m:Nat,m=n.natAbs:=⟨_,rfl⟩;have hm13:m≤13:=by omega
 refine go Tryz.func127 [(0,qv a),(1,iV n)] rfl (aE (lA 2 28 (qc a) hs (fun b1 w2 h3 hs=>lA 4 28 ([qF,uV 0,eS,uV 0,eS]) hs (fun b4 w5 h6 hs=>lL hs [.v 5 qF] (aT (ag 7 hs (oW 1 oM oM _ _ hs.g) (fun w7 h8 hs=>lA 6 28 ([qF,uV 0,eS,uV 0,eS]) hs (fun b9 _ zd hs=>lP 0 0 (qc ((1:Int):Rat)) hs (fun _ hs=>af (aa hs [.m 8 1,.m 9 1] (lI 10 (0-n) ?_)))))))))));refine lV 11 (iV (max (n:Int) (0-n:Int))) ?_ (hr:=ay (n:=(if (0-n:Int)>(n:Int) then (0-n:Int) else (n:Int))) kR (by simp only[l8]));refine lL hs [.v 12 (iV 0)] (bj ?_);refine bx _ (CG.loop (fun μ_ Γ w_=>∃ (k:Nat) (h_:Hp),μ_=m-k∧Γ=[(1,iV n),(2,pB b1),(4,pB b4),(5,qF),(6,pB b9),(11,iV (max (n:Int) (0-n:Int))),(12,nV k)]∧SS w h w_ h_ [⟨b9,28,qc (d9 a k)⟩,⟨b4,28,[qF,uV 0,eS,uV 0,eS]⟩,⟨b1,28,qc a⟩] [] [fun h_=>Tab h_]∧k≤m) _ ⟨0,zd,rfl,rfl,hs.to _ _,Nat.zero_le _⟩ ?_);rintro _ _ _ ⟨k,_,hm15,rfl,hs,hk⟩;have hkK:k*K≤13*K:=Nat.mul_le_mul_right _ oM;have hpk:=fz ha k;refine aE ?_;cases za:(decide ((k:Int)<(max (n:Int) (0-n:Int):Int)))
 ·
  have zb:=oF za;refine lB 13 za (af (cM (CG.exit ?_)))
  show CG _ _ _ _ _ _ _ _
  refine cQ (aa hs [.m 18 1] ?_);have ⟨zc,phb17⟩:=dT (p:=(0:Int)≤(n:Int)) oM;exact lB 19 zc (ao (aa hs [.o 20 (qv (d9 a k)) 0 0 5] (lP 1 0 (qc (d9 a k)) hs (fun _ hs=>lL hs [.v 5 qT] (ae hs [(1,0,5)] (.tuple #[qv (d9 a k),qT]) (by unfold fe;rw[if_pos oM,show n.natAbs=k by omega]))))))
 have zb:=oT za;refine lB 13 za (af (bS (cK (cQ (kZ (kQ (lL hs [.o 14 (qv (d9 a k)) 0 0 5,.o 15 (qv a) 2 0 5] ?_)))))));have hq19:=LQ.mul hpk ha;refine ag 16 hs (iO (d9 a k) a (LQ.mono hpk oM) (LQ.mono ha oM) _ _ hs.g hs.f.1) (fun _ ze hs=>lP 0 0 (qc ((d9 a k)*a)) hs (fun _ hs=>lN (kQ (bB 17 ((k:Nat)+1) (k+1) ?_))));refine lL hs [.m 12 17] (lD ?_);intro a_ ka;refine ⟨_,_,?_,⟨k+1,ze,rfl,rfl,hs.to _ _,oM⟩,ka.to _ kR⟩
 omega
theorem wY (a:Rat)(n:Int)(K:Nat)(hK:14*K+20≤100000000)(ha:LQ K a)(hn : -13≤n∧n≤13)(hs:n<0)(ha0:a≠0)(w:World)(h:Hp)(g:G w h)(tb:Tab h):CV 127 #[qv a,iV n] w h (.tuple #[qv (fe a n),.bool true]):=by
 have hs:=((sS g).aB tb);obtain ⟨m,hm⟩:∃ m:Nat,m=n.natAbs:=⟨_,rfl⟩;have hm13:m≤13:=by omega
 refine go Tryz.func127 [(0,qv a),(1,iV n)] rfl (aE (lA 2 28 (qc a) hs (fun b1 w2 h3 hs=>lA 4 28 ([qF,uV 0,eS,uV 0,eS]) hs (fun b4 w5 h6 hs=>lL hs [.v 5 qF] (aT (ag 7 hs (oW 1 oM oM _ _ hs.g) (fun w7 h8 hs=>lA 6 28 ([qF,uV 0,eS,uV 0,eS]) hs (fun b9 _ zd hs=>lP 0 0 (qc ((1:Int):Rat)) hs (fun _ hs=>af (aa hs [.m 8 1,.m 9 1] (lI 10 (0-n) ?_)))))))))));refine lV 11 (iV (max (n:Int) (0-n:Int))) ?_ (hr:=ay (n:=(if (0-n:Int)>(n:Int) then (0-n:Int) else (n:Int))) kR (by simp only[l8]));refine lL hs [.v 12 (iV 0)] (bj ?_);refine bx _ (CG.loop (fun μ_ Γ w_=>∃ (k:Nat) (h_:Hp),μ_=m-k∧Γ=[(1,iV n),(2,pB b1),(4,pB b4),(5,qF),(6,pB b9),(11,iV (max (n:Int) (0-n:Int))),(12,nV k)]∧SS w h w_ h_ [⟨b9,28,qc (d9 a k)⟩,⟨b4,28,[qF,uV 0,eS,uV 0,eS]⟩,⟨b1,28,qc a⟩] [] [fun h_=>Tab h_]∧k≤m) _ ⟨0,zd,rfl,rfl,hs.to _ _,Nat.zero_le _⟩ ?_);rintro _ _ _ ⟨k,_,hm15,rfl,hs,hk⟩;have hkK:k*K≤13*K:=Nat.mul_le_mul_right _ oM;have hpk:=fz ha k;refine aE ?_;cases za:(decide ((k:Int)<(max (n:Int) (0-n:Int):Int)))
 ·
  have zb:=oF za;refine lB 13 za (af (cM (CG.exit ?_)))
  show CG _ _ _ _ _ _ _ _
  refine cQ (aa hs [.m 18 1] ?_);have ⟨zc,phb17⟩:=dF (p:=(0:Int)≤(n:Int)) oM;refine lB 19 zc (aj (cK (cQ (cR 5 [] mixed hs aq ?_))));refine eO 1 22 [(0,0,5)] (qv (d9 a k)) hs (ak 0 21 hs (fun _ _ hs=>oW 1 oM oM _ _ hs.g) (fun _ _ hs=>?_));have hq20:=LQ.div (LQ.lit (z:=1) kD) hpk;exact ak 2 23 hs (fun _ _ hs=>kz ((1:Int):Rat) (d9 a k) (LQ.mono (LQ.lit (z:=1) kD) oM) (LQ.mono hpk oM) (o7 (rt ha0 k)) _ _ hs.g hs.f.1) (fun _ _ hs=>eV 3 24 (qv (((1:Int):Rat)/(d9 a k))) (eV 4 25 qT (bM hs (fun _ _ hs=>tP 5 1 0 (qc (((1:Int):Rat)/(d9 a k))) hs (fun _ hs=>tV 6 5 qT (tN (kX (hs.ret [(1,0,5)] (.tuple #[qv (((1:Int):Rat)/(d9 a k)),qT]) (by unfold fe;rw[if_neg oM,show n.natAbs=k by omega])))))))))
 have zb:=oT za;refine lB 13 za (af (bS (cK (cQ (kZ (kQ (lL hs [.o 14 (qv (d9 a k)) 0 0 5,.o 15 (qv a) 2 0 5] ?_)))))));have hq26:=LQ.mul hpk ha;refine ag 16 hs (iO (d9 a k) a (LQ.mono hpk oM) (LQ.mono ha oM) _ _ hs.g hs.f.1) (fun _ ze hs=>lP 0 0 (qc ((d9 a k)*a)) hs (fun _ hs=>lN (kQ (bB 17 ((k:Nat)+1) (k+1) ?_))));refine lL hs [.m 12 17] (lD ?_);intro a_ ka;refine ⟨_,_,?_,⟨k+1,ze,rfl,rfl,hs.to _ _,oM⟩,ka.to _ kR⟩
 omega
theorem xa (a:Rat)(n:Int)(K:Nat)(hK:14*K+20≤100000000)(ha:LQ K a)(hn : -13≤n∧n≤13)(hs:n<0)(ha0:a=0)(w:World)(h:Hp)(g:G w h)(tb:Tab h):CV 127 #[qv a,iV n] w h (.tuple #[qv 0,.bool false]):=by
 have hs:=((sS g).aB tb);obtain ⟨m,hm⟩:∃ m:Nat,m=n.natAbs:=⟨_,rfl⟩;have hm13:m≤13:=by omega
 refine go Tryz.func127 [(0,qv a),(1,iV n)] rfl (aE (lA 2 28 (qc a) hs (fun b1 w2 h3 hs=>lA 4 28 ([qF,uV 0,eS,uV 0,eS]) hs (fun b4 w5 h6 hs=>lL hs [.v 5 qF] (aT (ag 7 hs (oW 1 oM oM _ _ hs.g) (fun w7 h8 hs=>lA 6 28 ([qF,uV 0,eS,uV 0,eS]) hs (fun b9 _ zd hs=>lP 0 0 (qc ((1:Int):Rat)) hs (fun _ hs=>af (aa hs [.m 8 1,.m 9 1] (lI 10 (0-n) ?_)))))))))));refine lV 11 (iV (max (n:Int) (0-n:Int))) ?_ (hr:=ay (n:=(if (0-n:Int)>(n:Int) then (0-n:Int) else (n:Int))) kR (by simp only[l8]));refine lL hs [.v 12 (iV 0)] (bj ?_);refine bx _ (CG.loop (fun μ_ Γ w_=>∃ (k:Nat) (h_:Hp),μ_=m-k∧Γ=[(1,iV n),(2,pB b1),(4,pB b4),(5,qF),(6,pB b9),(11,iV (max (n:Int) (0-n:Int))),(12,nV k)]∧SS w h w_ h_ [⟨b9,28,qc (d9 a k)⟩,⟨b4,28,[qF,uV 0,eS,uV 0,eS]⟩,⟨b1,28,qc a⟩] [] [fun h_=>Tab h_]∧k≤m) _ ⟨0,zd,rfl,rfl,hs.to _ _,Nat.zero_le _⟩ ?_);rintro _ _ _ ⟨k,_,hm15,rfl,hs,hk⟩;have hkK:k*K≤13*K:=Nat.mul_le_mul_right _ oM;have hpk:=fz ha k;refine aE ?_;cases za:(decide ((k:Int)<(max (n:Int) (0-n:Int):Int)))
 ·
  have zb:=oF za;refine lB 13 za (af (cM (CG.exit ?_)))
  show CG _ _ _ _ _ _ _ _
  refine cQ (aa hs [.m 18 1] ?_);have ⟨zc,phb17⟩:=dF (p:=(0:Int)≤(n:Int)) oM;refine lB 19 zc (aj (cK (cQ (cR 5 [] mixed hs aq ?_))));exact eO 1 22 [(0,0,5)] (qv (d9 a k)) hs (ak 0 21 hs (fun _ _ hs=>oW 1 oM oM _ _ hs.g) (fun _ _ hs=>ak 2 23 hs (fun _ _ hs=>BK ((1:Int):Rat) (d9 a k) (by rw[ha0];exact rR oM) _ _ hs.g) (fun _ _ hs=>eV 3 24 (qv 0) (eV 4 25 qF (bM hs (fun _ _ hs=>tP 5 1 0 (qc 0) hs (fun _ hs=>tV 6 5 qF (tN (kX (hs.ret [(1,0,5)] (.tuple #[qv 0,qF]) rfl))))))))))
 have zb:=oT za;refine lB 13 za (af (bS (cK (cQ (kZ (kQ (lL hs [.o 14 (qv (d9 a k)) 0 0 5,.o 15 (qv a) 2 0 5] ?_)))))));have hq25:=LQ.mul hpk ha;refine ag 16 hs (iO (d9 a k) a (LQ.mono hpk oM) (LQ.mono ha oM) _ _ hs.g hs.f.1) (fun _ ze hs=>lP 0 0 (qc ((d9 a k)*a)) hs (fun _ hs=>lN (kQ (bB 17 ((k:Nat)+1) (k+1) ?_))));refine lL hs [.m 12 17] (lD ?_);intro a_ ka;refine ⟨_,_,?_,⟨k+1,ze,rfl,rfl,hs.to _ _,oM⟩,ka.to _ kR⟩
 omega
theorem vn (a:Rat)(n:Int)(K:Nat)(hK:14*K+20≤100000000)(ha:LQ K a)(hn : -13≤n∧n≤13)(ho:n<0→a≠0)(w:World)(h:Hp)(g:G w h)(tb:Tab h):CV 127 #[qv a,iV n] w h (.tuple #[qv (fe a n),.bool true]):=by
 by_cases hs:0≤n
 ·exact AX a n K hK ha hn hs w h g tb
 ·exact wY a n K hK ha hn oM (ho oM) w h g tb
theorem xh (s:Stp)(a b:Rat)(K:Nat)(hK:14*K+20≤100000000)(ha:LQ K a)(hb:LQ K b)(hq:LQ 1 s.q)(hK1:1≤K)(hop:1≤s.op∧s.op≤13∧s.op≠2)(hn:s.op=8 → -12≤s.n∧s.n≤12)(hok:mF s.op s.n a b)(w:World)(h:Hp)(g:G w h)(tb:Tab h):CV 121 #[sX s,qv a,qv b] w h (.tuple #[qv (G0 s.op s.n s.q a b),.bool true]):=by
 have hs:=((sS g).aB tb);refine go Tryz.func121 [(0,sX s),(1,qv a),(2,qv b)] rfl (aE (lA 3 135 (sC s) hs (fun b1 w2 h3 hs=>lA 4 28 (qc a) hs (fun b4 w5 h6 hs=>lA 5 28 (qc b) hs (fun b7 w8 h9 hs=>lA 6 28 ([qF,uV 0,eS,uV 0,eS]) hs (fun b10 _ _ hs=>lL hs [.v 7 qF] (af (aa hs [.v 8 (pB b1),.o 9 (iV s.op) 3 0 1] (bj (aE ?_))))))))));cases za:((s.op:Int) == (1:Int))
 ·
  have zo:=ah za;refine lB 11 za (lL hs [.m 10 11] (aj (aE ?_)));cases zb:((s.op:Int) == (3:Int))
  ·
   have zp:=ah zb;refine lB 15 zb (lL hs [.m 14 15] (aj (aE ?_)));cases zc:((s.op:Int) == (4:Int))
   ·
    have zq:=ah zc;refine lB 20 zc (lL hs [.m 19 20] (aj (aE ?_)));cases zd:((s.op:Int) == (5:Int))
    ·
     have zs:=ah zd;refine lB 25 zd (lL hs [.m 24 25] (aj (aE ?_)));cases ze:((s.op:Int) == (6:Int))
     ·
      have zt:=ah ze;refine lB 30 ze (lL hs [.m 29 30] (aj (aE ?_)));cases zf:((s.op:Int) == (7:Int))
      ·
       have zu:=ah zf;refine lB 37 zf (lL hs [.m 36 37] (aj (aE ?_)));cases zg:((s.op:Int) == (8:Int))
       ·
        have zv:=ah zg;refine lB 41 zg (lL hs [.m 40 41] (aj (aE ?_)));cases zi:((s.op:Int) == (9:Int))
        ·
         have zw:=ah zi;refine lB 49 zi (lL hs [.m 48 49] (aj (aE ?_)));cases zj:((s.op:Int) == (10:Int))
         ·
          have zx:=ah zj;refine lB 53 zj (lL hs [.m 52 53] (aj (aE ?_)));cases zk:((s.op:Int) == (11:Int))
          ·
           have zA:=ah zk;refine lB 58 zk (lL hs [.m 57 58] (aj (aE ?_)));cases zl:((s.op:Int) == (12:Int))
           ·
            have zB:=ah zl;exact lB 68 zl (lL hs [.m 67 68] (aj (cK (aa hs [.o 72 (qv a) 2 0 5,.o 73 (qv b) 1 0 5] (ag 74 hs (Hc a b (LQ.mono ha oM) (LQ.mono hb oM) _ _ hs.g) (fun _ _ hs=>lP 0 0 (qc (rX a b)) hs (fun _ hs=>lL hs [.v 7 qT] (ae hs [(0,0,5)] (.tuple #[qv (rX a b),qT]) (by rw[show s.op=13 by omega];rfl)))))))))
           have zB:=eq_of_beq zl;exact lB 68 zl (lL hs [.m 67 68] (ao (aa hs [.o 69 (qv a) 2 0 5,.o 70 (qv b) 1 0 5] (ag 71 hs (FB a b (LQ.mono ha oM) (LQ.mono hb oM) _ _ hs.g) (fun _ _ hs=>lP 0 0 (qc (pr a b)) hs (fun _ hs=>lL hs [.v 7 qT] (ae hs [(0,0,5)] (.tuple #[qv (pr a b),qT]) (by rw[show s.op=12 by omega];rfl))))))))
          have zA:=eq_of_beq zk;refine lB 58 zk (lL hs [.m 57 58] (ao (cQ (cR 8 [] mixed hs aq ?_))));refine eO 0 59 [(2,0,5)] (qv a) hs (eO 1 60 [(2,0,5)] (qv a) hs ?_);have zm:LQ (K) (dr a):=LQ.abs ha;refine ak 2 61 hs (fun _ _ hs=>CY a (LQ.mono ha oM) _ _ hs.g) (fun _ _ hs=>ak 3 62 hs (fun _ _ hs=>oW 1 oM oM _ _ hs.g) (fun _ _ hs=>?_));have zn:=LQ.add zm (LQ.lit (z:=1) kD);refine ak 4 63 hs (fun _ _ hs=>jI (dr a) ((1:Int):Rat) (LQ.mono zm oM) (LQ.mono (LQ.lit (z:=1) kD) oM) _ _ hs.g hs.f.1) (fun _ _ hs=>?_);have hq38:=LQ.div ha zn;exact ak 5 64 hs (fun _ _ hs=>kz a ((dr a)+((1:Int):Rat)) (LQ.mono ha oM) (LQ.mono zn oM) (oX a) _ _ hs.g hs.f.1) (fun _ _ hs=>eV 6 65 (qv (a/((dr a)+((1:Int):Rat)))) (eV 7 66 qT (bM hs (fun _ _ hs=>tP 8 0 0 (qc (a/((dr a)+((1:Int):Rat)))) hs (fun _ hs=>tV 9 7 qT (tN (kX (hs.ret [(0,0,5)] (.tuple #[qv (a/((dr a)+((1:Int):Rat))),qT]) (by rw[show s.op=11 by omega];rfl)))))))))
         have zx:=eq_of_beq zj;exact lB 53 zj (lL hs [.m 52 53] (ao (aa hs [.o 54 (qv a) 2 0 5,.v 55 (qv 0)] (ag 56 hs (FB a 0 (LQ.mono ha oM) (LQ.mono (LQ.lit (z:=0) kD) oM) _ _ hs.g) (fun _ _ hs=>lP 0 0 (qc (pr a 0)) hs (fun _ hs=>lL hs [.v 7 qT] (ae hs [(0,0,5)] (.tuple #[qv (pr a 0),qT]) (by rw[show s.op=10 by omega];rfl))))))))
        have zw:=eq_of_beq zi;refine lB 49 zi (lL hs [.m 48 49] (ao (aa hs [.o 50 (qv a) 2 0 5] ?_)));have hq47:LQ (K) (dr a):=LQ.abs ha;exact ag 51 hs (CY a (LQ.mono ha oM) _ _ hs.g) (fun _ _ hs=>lP 0 0 (qc (dr a)) hs (fun _ hs=>lL hs [.v 7 qT] (ae hs [(0,0,5)] (.tuple #[qv (dr a),qT]) (by rw[show s.op=9 by omega];rfl))))
       have zv:=eq_of_beq zg;exact lB 41 zg (lL hs [.m 40 41] (ao (aa hs [.o 42 (qv a) 2 0 5,.v 43 (qP b1 3),.o 44 (iV s.n) 3 3 1] (ag 45 hs (vn a s.n K hK ha (by have:=hn oM;omega) (hok.2 oM) _ _ hs.g hs.f.1) (fun _ _ hs=>lL hs [.v 46 (qv (fe a s.n)),.v 47 qT] (lP 0 0 (qc (fe a s.n)) hs (fun _ hs=>lL hs [.m 7 47] (ae hs [(0,0,5)] (.tuple #[qv (fe a s.n),qT]) (by rw[show s.op=8 by omega];rfl)))))))))
      have zu:=eq_of_beq zf;refine lB 37 zf (lL hs [.m 36 37] (ao (aa hs [.o 38 (qv a) 2 0 5] ?_)));have hq54:LQ (K) (-a):=LQ.neg ha;exact ag 39 hs (vB a (LQ.mono ha oM) _ _ hs.g) (fun _ _ hs=>lP 0 0 (qc (-a)) hs (fun _ hs=>lL hs [.v 7 qT] (ae hs [(0,0,5)] (.tuple #[qv (-a),qT]) (by rw[show s.op=7 by omega];rfl))))
     have zt:=eq_of_beq ze;refine lB 30 ze (lL hs [.m 29 30] (ao (aa hs [.o 31 (qv a) 2 0 5,.o 32 (qv b) 1 0 5] ?_)));have hq58:=LQ.div ha hb;exact ag 33 hs (kz a b (LQ.mono ha oM) (LQ.mono hb oM) (o7 (hok.1 oM)) _ _ hs.g hs.f.1) (fun _ _ hs=>lL hs [.v 34 (qv (a/b)),.v 35 qT] (lP 0 0 (qc (a/b)) hs (fun _ hs=>lL hs [.m 7 35] (ae hs [(0,0,5)] (.tuple #[qv (a/b),qT]) (by rw[show s.op=6 by omega];rfl)))))
    have zs:=eq_of_beq zd;refine lB 25 zd (lL hs [.m 24 25] (ao (aa hs [.o 26 (qv a) 2 0 5,.o 27 (qv b) 1 0 5] ?_)));have hq62:=LQ.mul ha hb;exact ag 28 hs (iO a b (LQ.mono ha oM) (LQ.mono hb oM) _ _ hs.g hs.f.1) (fun _ _ hs=>lP 0 0 (qc (a*b)) hs (fun _ hs=>lL hs [.v 7 qT] (ae hs [(0,0,5)] (.tuple #[qv (a*b),qT]) (by rw[show s.op=5 by omega];rfl))))
   have zq:=eq_of_beq zc;refine lB 20 zc (lL hs [.m 19 20] (ao (aa hs [.o 21 (qv a) 2 0 5,.o 22 (qv b) 1 0 5] ?_)));have hq66:=LQ.sub ha hb;exact ag 23 hs (ES a b (LQ.mono ha oM) (LQ.mono hb oM) _ _ hs.g hs.f.1) (fun _ _ hs=>lP 0 0 (qc (a-b)) hs (fun _ hs=>lL hs [.v 7 qT] (ae hs [(0,0,5)] (.tuple #[qv (a-b),qT]) (by rw[show s.op=4 by omega];rfl))))
  have zp:=eq_of_beq zb;refine lB 15 zb (lL hs [.m 14 15] (ao (aa hs [.o 16 (qv a) 2 0 5,.o 17 (qv b) 1 0 5] ?_)));have hq70:=LQ.add ha hb;exact ag 18 hs (jI a b (LQ.mono ha oM) (LQ.mono hb oM) _ _ hs.g hs.f.1) (fun _ _ hs=>lP 0 0 (qc (a+b)) hs (fun _ hs=>lL hs [.v 7 qT] (ae hs [(0,0,5)] (.tuple #[qv (a+b),qT]) (by rw[show s.op=3 by omega];rfl))))
 have zo:=eq_of_beq za;exact lB 11 za (lL hs [.m 10 11] (ao (aa hs [.v 12 (qP b1 4),.o 13 (qv s.q) 3 4 5] (lP 0 0 (qc s.q) hs (fun _ hs=>lL hs [.v 7 qT] (ae hs [(0,0,5)] (.tuple #[qv s.q,qT]) (by rw[show s.op=1 by omega];rfl)))))))
theorem AK (s:Stp)(a b:Rat)(K:Nat)(hK:14*K+20≤100000000)(ha:LQ K a)(hb:LQ K b)(hq:LQ 1 s.q)(hK1:1≤K)(hop:s.op=6)(hz6:b=0)(w:World)(h:Hp)(g:G w h)(tb:Tab h):CV 121 #[sX s,qv a,qv b] w h (.tuple #[qv 0,.bool false]):=by
 have hs:=((sS g).aB tb);refine go Tryz.func121 [(0,sX s),(1,qv a),(2,qv b)] rfl (aE (lA 3 135 (sC s) hs (fun b1 w2 h3 hs=>lA 4 28 (qc a) hs (fun b4 w5 h6 hs=>lA 5 28 (qc b) hs (fun b7 w8 h9 hs=>lA 6 28 ([qF,uV 0,eS,uV 0,eS]) hs (fun b10 _ _ hs=>lL hs [.v 7 qF] (af (aa hs [.v 8 (pB b1),.o 9 (iV s.op) 3 0 1] (bj (aE ?_))))))))));have za:((s.op:Int) == (1:Int))=false:=ft oM;have phb13:=ah za;refine lB 11 za (lL hs [.m 10 11] (aj (aE ?_)));have zb:((s.op:Int) == (3:Int))=false:=ft oM;have phb14:=ah zb;refine lB 15 zb (lL hs [.m 14 15] (aj (aE ?_)));have zc:((s.op:Int) == (4:Int))=false:=ft oM;have phb15:=ah zc;refine lB 20 zc (lL hs [.m 19 20] (aj (aE ?_)));have zd:((s.op:Int) == (5:Int))=false:=ft oM;have phb16:=ah zd;refine lB 25 zd (lL hs [.m 24 25] (aj (aE ?_)));have ze:((s.op:Int) == (6:Int))=true:=pj oM;have phb17:=eq_of_beq ze;exact lB 30 ze (lL hs [.m 29 30] (ao (aa hs [.o 31 (qv a) 2 0 5,.o 32 (qv b) 1 0 5] (ag 33 hs (BK a b hz6 _ _ hs.g) (fun _ _ hs=>lL hs [.v 34 (qv 0),.v 35 qF] (lP 0 0 (qc 0) hs (fun _ hs=>lL hs [.m 7 35] (ae hs [(0,0,5)] (.tuple #[qv 0,qF]) rfl))))))))
theorem x4 (s:Stp)(a b:Rat)(K:Nat)(hK:14*K+20≤100000000)(ha:LQ K a)(hb:LQ K b)(hq:LQ 1 s.q)(hK1:1≤K)(hop:s.op=8)(hn : -12≤s.n∧s.n<0)(hz8:a=0)(w:World)(h:Hp)(g:G w h)(tb:Tab h):CV 121 #[sX s,qv a,qv b] w h (.tuple #[qv 0,.bool false]):=by
 have hs:=((sS g).aB tb);refine go Tryz.func121 [(0,sX s),(1,qv a),(2,qv b)] rfl (aE (lA 3 135 (sC s) hs (fun b1 w2 h3 hs=>lA 4 28 (qc a) hs (fun b4 w5 h6 hs=>lA 5 28 (qc b) hs (fun b7 w8 h9 hs=>lA 6 28 ([qF,uV 0,eS,uV 0,eS]) hs (fun b10 _ _ hs=>lL hs [.v 7 qF] (af (aa hs [.v 8 (pB b1),.o 9 (iV s.op) 3 0 1] (bj (aE ?_))))))))));have za:((s.op:Int) == (1:Int))=false:=ft oM;have phb13:=ah za;refine lB 11 za (lL hs [.m 10 11] (aj (aE ?_)));have zb:((s.op:Int) == (3:Int))=false:=ft oM;have phb14:=ah zb;refine lB 15 zb (lL hs [.m 14 15] (aj (aE ?_)));have zc:((s.op:Int) == (4:Int))=false:=ft oM;have phb15:=ah zc;refine lB 20 zc (lL hs [.m 19 20] (aj (aE ?_)));have zd:((s.op:Int) == (5:Int))=false:=ft oM;have phb16:=ah zd;refine lB 25 zd (lL hs [.m 24 25] (aj (aE ?_)));have ze:((s.op:Int) == (6:Int))=false:=ft oM;have phb17:=ah ze;refine lB 30 ze (lL hs [.m 29 30] (aj (aE ?_)));have zf:((s.op:Int) == (7:Int))=false:=ft oM;have phb18:=ah zf;refine lB 37 zf (lL hs [.m 36 37] (aj (aE ?_)));have zg:((s.op:Int) == (8:Int))=true:=pj oM;have phb19:=eq_of_beq zg;exact lB 41 zg (lL hs [.m 40 41] (ao (aa hs [.o 42 (qv a) 2 0 5,.v 43 (qP b1 3),.o 44 (iV s.n) 3 3 1] (ag 45 hs (xa a s.n K hK ha oM oM hz8 _ _ hs.g hs.f.1) (fun _ _ hs=>lL hs [.v 46 (qv 0),.v 47 qF] (lP 0 0 (qc 0) hs (fun _ hs=>lL hs [.m 7 47] (ae hs [(0,0,5)] (.tuple #[qv 0,qF]) rfl))))))))
def mZ (op n:Int)(q a b:Rat):Rat:=if mF op n a b then G0 op n q a b else 0
theorem Ex (s:Stp)(a b:Rat)(K:Nat)(hK:14*K+20≤100000000)(ha:LQ K a)(hb:LQ K b)(hq:LQ 1 s.q)(hK1:1≤K)(hop:1≤s.op∧s.op≤13∧s.op≠2)(hn:s.op=8 → -12≤s.n∧s.n≤12)(w:World)(h:Hp)(g:G w h)(tb:Tab h):CV 121 #[HU s,qv a,qv b] w h (.tuple #[qv (mZ s.op s.n s.q a b),.bool (decide (mF s.op s.n a b))]):=by
 by_cases hok:mF s.op s.n a b
 ·unfold mZ;rw[if_pos hok,decide_eq_true hok];exact xh s a b K hK ha hb hq hK1 hop hn hok w h g tb
 ·unfold mZ;rw[if_neg hok,decide_eq_false hok]
  by_cases h6:s.op=6∧b=0
  ·exact AK s a b K hK ha hb hq hK1 h6.1 h6.2 w h g tb
  ·by_cases h8:s.op=8∧s.n<0∧a=0
   ·exact x4 s a b K hK ha hb hq hK1 h8.1 ⟨(hn h8.1).1,h8.2.1⟩ h8.2.2 w h g tb
   ·exact absurd ⟨fun x y=>h6 ⟨x,y⟩,fun x y z=>h8 ⟨x,y,z⟩⟩ hok
theorem AT (s:Stp)(a b:Rat)(K:Nat)(hK:K≤100000000)(ha:LQ K a)(hb:LQ K b)(w:World)(h:Hp)(g:G w h):CV 122 #[sX s,qv a,qv b] w h (.bool (decide (k9 s.op a b))):=by
 have hs:=sS g;refine go Tryz.func122 [(0,sX s),(1,qv a),(2,qv b)] rfl (aE (lA 3 135 (sC s) hs (fun b1 w2 h3 hs=>lA 4 28 (qc a) hs (fun b4 w5 h6 hs=>lA 5 28 (qc b) hs (fun b7 w8 h9 hs=>lL hs [.v 6 qF] (af (aa hs [.v 7 (pB b1),.o 8 (iV s.op) 2 0 1] (bj (cQ (aa hs [.v 10 (.bool ((s.op:Int) == (9:Int))),.m 9 10] (lN ?_)))))))))));cases za:((s.op:Int) == (9:Int))
 ·
  try rw[za] at hs
  try rw[za]
  have ze:=ah za;refine cM (kQ (lL hs [.v 11 (.bool ((s.op:Int) == (10:Int))),.m 9 11] (lN ?_)));cases zb:((s.op:Int) == (10:Int))
  ·
   try rw[zb] at hs
   try rw[zb]
   have zf:=ah zb;refine cM (cQ (aa hs [.v 16 (.bool ((s.op:Int) == (12:Int))),.m 15 16] (lN ?_)));cases zc:((s.op:Int) == (12:Int))
   ·
    try rw[zc] at hs
    try rw[zc]
    have zg:=ah zc;refine cM (kQ (lL hs [.v 17 (.bool ((s.op:Int) == (13:Int))),.m 15 17] (lN ?_)));cases zd:((s.op:Int) == (13:Int))
    ·
     try rw[zd] at hs
     try rw[zd]
     have zi:=ah zd;exact cM (cK (aa hs [.v 6 qF] (ae hs [] qF (congrArg Value.bool (EU oM)))))
    try rw[zd] at hs
    try rw[zd]
    have zi:=eq_of_beq zd;exact bS (aa hs [.o 18 (qv a) 1 0 5,.o 19 (qv b) 0 0 5] (ag 20 hs (mX a b (LQ.mono ha oM) (LQ.mono hb oM) _ _ hs.g) (fun _ _ hs=>lL hs [.v 21 (.bool ((dx a b:Int) == (0:Int))),.m 6 21] (ae hs [] (.bool ((dx a b:Int) == (0:Int))) (congrArg Value.bool (Ca oM))))))
   try rw[zc] at hs
   try rw[zc]
   have zg:=eq_of_beq zc;exact bS (cK (bS (aa hs [.o 18 (qv a) 1 0 5,.o 19 (qv b) 0 0 5] (ag 20 hs (mX a b (LQ.mono ha oM) (LQ.mono hb oM) _ _ hs.g) (fun _ _ hs=>lL hs [.v 21 (.bool ((dx a b:Int) == (0:Int))),.m 6 21] (ae hs [] (.bool ((dx a b:Int) == (0:Int))) (congrArg Value.bool (Ca oM))))))))
  try rw[zb] at hs
  try rw[zb]
  have zf:=eq_of_beq zb;exact bS (aa hs [.o 12 (qv a) 1 0 5] (ag 13 hs (d6 a (LQ.mono ha oM) _ _ hs.g) (fun _ _ hs=>lL hs [.v 14 (.bool ((a.num.sign:Int) == (0:Int))),.m 6 14] (ae hs [] (.bool ((a.num.sign:Int) == (0:Int))) (congrArg Value.bool (B3 oM))))))
 try rw[za] at hs
 try rw[za]
 have ze:=eq_of_beq za;exact bS (cK (bS (aa hs [.o 12 (qv a) 1 0 5] (ag 13 hs (d6 a (LQ.mono ha oM) _ _ hs.g) (fun _ _ hs=>lL hs [.v 14 (.bool ((a.num.sign:Int) == (0:Int))),.m 6 14] (ae hs [] (.bool ((a.num.sign:Int) == (0:Int))) (congrArg Value.bool (B3 oM))))))))
theorem AJ (s:Stp)(a b:Rat)(K:Nat)(hK:14*K+20≤100000000)(ha:LQ K a)(hb:LQ K b)(hq:LQ 1 s.q)(hK1:1≤K)(hop:1≤s.op∧s.op≤13∧s.op≠2)(hn:s.op=8 → -12≤s.n∧s.n≤12)(hok6:s.op=6→b≠0)(hok:s.op=8→s.n<0→a≠0)(w:World)(h:Hp)(g:G w h)(tb:Tab h):CV 80 #[sX s,qv a,qv b] w h (.tuple #[qv (nj s.op s.n a b),qv (nu s.op a b)]):=by
 have hs:=((sS g).aB tb);have hsg:=qy a.num;refine go Tryz.func80 [(0,sX s),(1,qv a),(2,qv b)] rfl (aE (lA 3 135 (sC s) hs (fun b1 w2 h3 hs=>lA 4 28 (qc a) hs (fun b4 w5 h6 hs=>lA 5 28 (qc b) hs (fun b7 w8 h9 hs=>lA 6 28 ([qF,uV 0,eS,uV 0,eS]) hs (fun za _ _ hs=>lA 7 28 ([qF,uV 0,eS,uV 0,eS]) hs (fun zb _ _ hs=>aT (ag 10 hs (oW 1 oM oM _ _ hs.g) (fun _ _ hs=>lL hs [.v 11 (qv 0)] (lA 8 28 ([qF,uV 0,eS,uV 0,eS]) hs (fun zv _ _ hs=>lA 9 28 ([qF,uV 0,eS,uV 0,eS]) hs (fun ze _ _ hs=>lP 1 0 (qc ((1:Int):Rat)) hs (fun _ hs=>lP 0 0 (qc 0) hs (fun _ hs=>af (aa hs [.v 12 (pB b1),.o 13 (iV s.op) 6 0 1] (bj (aE ?_)))))))))))))))));cases zf:((s.op:Int) == (3:Int))
 ·
  have zH:=ah zf;refine lB 15 zf (lL hs [.m 14 15] (aj (aE ?_)));cases zg:((s.op:Int) == (4:Int))
  ·
   have zI:=ah zg;refine lB 19 zg (lL hs [.m 18 19] (aj (aE ?_)));cases zi:((s.op:Int) == (5:Int))
   ·
    have zJ:=ah zi;refine lB 24 zi (lL hs [.m 23 24] (aj (aE ?_)));cases zj:((s.op:Int) == (6:Int))
    ·
     have zK:=ah zj;refine lB 28 zj (lL hs [.m 27 28] (aj (aE ?_)));cases zk:((s.op:Int) == (7:Int))
     ·
      have zL:=ah zk;refine lB 43 zk (lL hs [.m 42 43] (aj (aE ?_)));cases zl:((s.op:Int) == (8:Int))
      ·
       have zM:=ah zl;refine lB 48 zl (lL hs [.m 47 48] (aj (aE ?_)));cases zm:((s.op:Int) == (9:Int))
       ·
        have zN:=ah zm;refine lB 69 zm (lL hs [.m 68 69] (aj (aE ?_)));cases zn:((s.op:Int) == (10:Int))
        ·
         have zP:=ah zn;refine lB 75 zn (lL hs [.m 74 75] (aj (aE ?_)));cases zo:((s.op:Int) == (11:Int))
         ·
          have zQ:=ah zo;refine lB 82 zo (lL hs [.m 81 82] (aj (cQ (aE ?_))));cases zp:((s.op:Int) == (12:Int))
          ·
           have zR:=ah zp;refine lB 97 zp (lL hs [.m 96 97] (aj (kQ ?_)));cases zq:((s.op:Int) == (13:Int))
           ·
            have zS:=ah zq;refine lB 98 zq (lL hs [.m 96 98] (aj (cK (cQ ?_))));have hsr:=hs;refine jd 2 [] [za,zb] mixed hs aq (eO 0 111 [(0,0,5)] (qv 0) hs (gZ 1 112 [(0,0,5)] (qv 0) hsr hs ?_ (hM:=fun p hp=>by obtain rfl:=List.mem_singleton.1 hp;exact fun hm=>by rcases List.mem_cons.1 hm with e|hm;exact a6 hs.st (i:=0) (j:=3) kR kR kR e;rcases List.mem_cons.1 hm with e|hm;exact a6 hs.st (i:=0) (j:=2) kR kR kR e;cases hm)));refine bM hs (fun _ _ hs=>tP 2 3 0 (qc 0) hs (fun _ hs=>?_) (hz:=aR (List.mem_cons_self)));refine tP 3 2 0 (qc 0) hs (fun _ hs=>?_) (hz:=aR (List.mem_cons_of_mem _<|List.mem_cons_self));exact tN (kX (hs.ret [(3,0,5),(2,0,5)] (.tuple #[qv 0,qv 0]) (by rw[show s.op=1 by omega];rfl)))
           have zS:=eq_of_beq zq;refine lB 98 zq (lL hs [.m 96 98] (ao (cQ (cQ (cR 8 [] mixed hs aq ?_)))));refine eO 0 99 [(5,0,5)] (qv a) hs (eO 1 100 [(4,0,5)] (qv b) hs (eV 4 103 (pB b1) (eO 5 104 [(6,0,1)] (iV s.op) hs ?_)));have zB:((s.op:Int) == (12:Int))=false:=ft oM;have phb41:=ah zB;refine eB 6 105 zB (ak 2 101 hs (fun _ _ hs=>mX a b (LQ.mono ha oM) (LQ.mono hb oM) _ _ hs.g) (fun _ _ hs=>?_));cases zs:(decide ((0:Int)<(dx a b:Int)))
           ·
            have zT:=oF zs;refine eB 3 102 zs (eV 7 106 qT (bM hs (fun _ _ hs=>tN (bx [(6,pB za),(7,pB zb),(8,pB zv),(9,pB ze),(106,qT)] ?_))));refine bS (cQ ?_);have hsr:=hs;refine jd 2 [] [za,zb] mixed hs aq (eO 0 107 [(1,0,5)] (qv ((1:Int):Rat)) hs (gZ 1 108 [(0,0,5)] (qv 0) hsr hs ?_ (hM:=fun p hp=>by obtain rfl:=List.mem_singleton.1 hp;exact fun hm=>by rcases List.mem_cons.1 hm with e|hm;exact a6 hs.st (i:=0) (j:=3) kR kR kR e;rcases List.mem_cons.1 hm with e|hm;exact a6 hs.st (i:=0) (j:=2) kR kR kR e;cases hm)));refine bM hs (fun _ _ hs=>tP 2 3 0 (qc ((1:Int):Rat)) hs (fun _ hs=>?_) (hz:=aR (List.mem_cons_self)));refine tP 3 2 0 (qc 0) hs (fun _ hs=>?_) (hz:=aR (List.mem_cons_of_mem _<|List.mem_cons_self));exact tN (kX (hs.ret [(3,0,5),(2,0,5)] (.tuple #[qv ((1:Int):Rat),qv 0]) (ug oM oM)))
           have zT:=oT zs;refine eB 3 102 zs (eV 7 106 qF (bM hs (fun _ _ hs=>tN (bx [(6,pB za),(7,pB zb),(8,pB zv),(9,pB ze),(106,qF)] ?_))));refine cM (cK (cQ ?_));have hsr:=hs;refine jd 2 [] [za,zb] mixed hs aq (eO 0 109 [(0,0,5)] (qv 0) hs (gZ 1 110 [(1,0,5)] (qv ((1:Int):Rat)) hsr hs ?_ (hM:=fun p hp=>by obtain rfl:=List.mem_singleton.1 hp;exact fun hm=>by rcases List.mem_cons.1 hm with e|hm;exact a6 hs.st (i:=1) (j:=3) kR kR kR e;rcases List.mem_cons.1 hm with e|hm;exact a6 hs.st (i:=1) (j:=2) kR kR kR e;cases hm)));refine bM hs (fun _ _ hs=>tP 2 3 0 (qc 0) hs (fun _ hs=>?_) (hz:=aR (List.mem_cons_self)));refine tP 3 2 0 (qc ((1:Int):Rat)) hs (fun _ hs=>?_) (hz:=aR (List.mem_cons_of_mem _<|List.mem_cons_self));exact tN (kX (hs.ret [(3,0,5),(2,0,5)] (.tuple #[qv 0,qv ((1:Int):Rat)]) (tU oM oM)))
          have zR:=eq_of_beq zp;refine lB 97 zp (lL hs [.m 96 97] (ao (cK (bS (cQ (cQ (cR 8 [] mixed hs aq ?_)))))));refine eO 0 99 [(5,0,5)] (qv a) hs (eO 1 100 [(4,0,5)] (qv b) hs (eV 4 103 (pB b1) (eO 5 104 [(6,0,1)] (iV s.op) hs ?_)));have zD:((s.op:Int) == (12:Int))=true:=pj oM;have phb57:=eq_of_beq zD;refine eB 6 105 zD (ak 2 101 hs (fun _ _ hs=>mX a b (LQ.mono ha oM) (LQ.mono hb oM) _ _ hs.g) (fun _ _ hs=>?_));cases zt:(decide ((0:Int)<(dx a b:Int)))
          ·
           have zU:=oF zt;refine eB 3 102 zt (eV 7 106 qF (bM hs (fun _ _ hs=>tN (bx [(6,pB za),(7,pB zb),(8,pB zv),(9,pB ze),(106,qF)] ?_))));refine cM (cK (cQ ?_));have hsr:=hs;refine jd 2 [] [za,zb] mixed hs aq (eO 0 109 [(0,0,5)] (qv 0) hs (gZ 1 110 [(1,0,5)] (qv ((1:Int):Rat)) hsr hs ?_ (hM:=fun p hp=>by obtain rfl:=List.mem_singleton.1 hp;exact fun hm=>by rcases List.mem_cons.1 hm with e|hm;exact a6 hs.st (i:=1) (j:=3) kR kR kR e;rcases List.mem_cons.1 hm with e|hm;exact a6 hs.st (i:=1) (j:=2) kR kR kR e;cases hm)));refine bM hs (fun _ _ hs=>tP 2 3 0 (qc 0) hs (fun _ hs=>?_) (hz:=aR (List.mem_cons_self)));refine tP 3 2 0 (qc ((1:Int):Rat)) hs (fun _ hs=>?_) (hz:=aR (List.mem_cons_of_mem _<|List.mem_cons_self));exact tN (kX (hs.ret [(3,0,5),(2,0,5)] (.tuple #[qv 0,qv ((1:Int):Rat)]) (tU oM oM)))
          have zU:=oT zt;refine eB 3 102 zt (eV 7 106 qT (bM hs (fun _ _ hs=>tN (bx [(6,pB za),(7,pB zb),(8,pB zv),(9,pB ze),(106,qT)] ?_))));refine bS (cQ ?_);have hsr:=hs;refine jd 2 [] [za,zb] mixed hs aq (eO 0 107 [(1,0,5)] (qv ((1:Int):Rat)) hs (gZ 1 108 [(0,0,5)] (qv 0) hsr hs ?_ (hM:=fun p hp=>by obtain rfl:=List.mem_singleton.1 hp;exact fun hm=>by rcases List.mem_cons.1 hm with e|hm;exact a6 hs.st (i:=0) (j:=3) kR kR kR e;rcases List.mem_cons.1 hm with e|hm;exact a6 hs.st (i:=0) (j:=2) kR kR kR e;cases hm)));refine bM hs (fun _ _ hs=>tP 2 3 0 (qc ((1:Int):Rat)) hs (fun _ hs=>?_) (hz:=aR (List.mem_cons_self)));refine tP 3 2 0 (qc 0) hs (fun _ hs=>?_) (hz:=aR (List.mem_cons_of_mem _<|List.mem_cons_self));exact tN (kX (hs.ret [(3,0,5),(2,0,5)] (.tuple #[qv ((1:Int):Rat),qv 0]) (ug oM oM)))
         have zQ:=eq_of_beq zo;refine lB 82 zo (lL hs [.m 81 82] (ao (cQ (cR 9 [] mixed hs aq ?_))));refine eO 0 84 [(1,0,5)] (qv ((1:Int):Rat)) hs (eO 1 85 [(1,0,5)] (qv ((1:Int):Rat)) hs (eO 2 86 [(5,0,5)] (qv a) hs ?_));have zE:LQ (K) (dr a):=LQ.abs ha;refine ak 3 87 hs (fun _ _ hs=>CY a (LQ.mono ha oM) _ _ hs.g) (fun _ _ hs=>?_);have zF:=LQ.add (LQ.lit (z:=1) kD) zE;refine ak 4 88 hs (fun _ _ hs=>jI ((1:Int):Rat) (dr a) (LQ.mono (LQ.lit (z:=1) kD) oM) (LQ.mono zE oM) _ _ hs.g hs.f.1) (fun _ _ hs=>?_);have zu:=LQ.div (LQ.lit (z:=1) kD) zF;refine ak 5 89 hs (fun _ _ hs=>kz ((1:Int):Rat) (((1:Int):Rat)+(dr a)) (LQ.mono (LQ.lit (z:=1) kD) oM) (LQ.mono zF oM) (kF a) _ _ hs.g hs.f.1) (fun _ _ hs=>eV 6 83 (.tuple #[qv (((1:Int):Rat)/(((1:Int):Rat)+(dr a))),qT]) (eV 7 90 (qv (((1:Int):Rat)/(((1:Int):Rat)+(dr a)))) (eV 8 91 qT (bM hs (fun _ _ hs=>tP 9 3 0 (qc (((1:Int):Rat)/(((1:Int):Rat)+(dr a)))) hs (fun _ hs=>tN (bx [(6,pB za),(7,pB zb),(9,pB ze)] ?_)))))));refine cQ ?_;have hsr:=hs;refine jd 4 [] [za,zb] mixed hs aq (eO 0 92 [(3,0,5)] (qv (((1:Int):Rat)/(((1:Int):Rat)+(dr a)))) hs (eO 1 93 [(3,0,5)] (qv (((1:Int):Rat)/(((1:Int):Rat)+(dr a)))) hs (gZ 3 95 [(0,0,5)] (qv 0) hsr hs ?_ (hM:=fun p hp=>by obtain rfl:=List.mem_singleton.1 hp;exact fun hm=>by rcases List.mem_cons.1 hm with e|hm;exact a6 hs.st (i:=0) (j:=3) kR kR kR e;rcases List.mem_cons.1 hm with e|hm;exact a6 hs.st (i:=0) (j:=2) kR kR kR e;cases hm))));have hq85:=LQ.mul zu zu;refine ak 2 94 hs (fun _ _ hs=>iO (((1:Int):Rat)/(((1:Int):Rat)+(dr a))) (((1:Int):Rat)/(((1:Int):Rat)+(dr a))) (LQ.mono zu oM) (LQ.mono zu oM) _ _ hs.g hs.f.1) (fun _ _ hs=>bM hs (fun _ _ hs=>tP 4 3 0 (qc ((((1:Int):Rat)/(((1:Int):Rat)+(dr a)))*(((1:Int):Rat)/(((1:Int):Rat)+(dr a))))) hs (fun _ hs=>?_) (hz:=aR (List.mem_cons_self))));refine tP 5 2 0 (qc 0) hs (fun _ hs=>?_) (hz:=aR (List.mem_cons_of_mem _<|List.mem_cons_self));exact tN (kX (hs.ret [(3,0,5),(2,0,5)] (.tuple #[qv ((((1:Int):Rat)/(((1:Int):Rat)+(dr a)))*(((1:Int):Rat)/(((1:Int):Rat)+(dr a)))),qv 0]) (by rw[show s.op=11 by omega];rfl)))
        have zP:=eq_of_beq zn;refine lB 75 zn (lL hs [.m 74 75] (ao (cQ ?_)));have hsr:=hs;refine jd 5 [] [za,zb] mixed hs aq (eO 0 76 [(5,0,5)] (qv a) hs (gZ 4 80 [(0,0,5)] (qv 0) hsr hs ?_ (hM:=fun p hp=>by obtain rfl:=List.mem_singleton.1 hp;exact fun hm=>by rcases List.mem_cons.1 hm with e|hm;exact a6 hs.st (i:=0) (j:=3) kR kR kR e;rcases List.mem_cons.1 hm with e|hm;exact a6 hs.st (i:=0) (j:=2) kR kR kR e;cases hm)));refine ak 1 77 hs (fun _ _ hs=>d6 a (LQ.mono ha oM) _ _ hs.g) (fun _ _ hs=>eV 2 78 (iV (max (a.num.sign:Int) (0:Int))) ?_ (hv:=fun _=>ay (n:=(if (0:Int)>(a.num.sign:Int) then (0:Int) else (a.num.sign:Int))) kR (by simp only[l8])));have hq94:LQ (1) (((max (a.num.sign:Int) (0:Int):Int):Rat)):=LQ.int oM oM;refine ak 3 79 hs (fun _ _ hs=>oW (max (a.num.sign:Int) (0:Int)) oM oM _ _ hs.g) (fun _ _ hs=>bM hs (fun _ _ hs=>tP 5 3 0 (qc ((max (a.num.sign:Int) (0:Int):Int):Rat)) hs (fun _ hs=>?_) (hz:=aR (List.mem_cons_self))));refine tP 6 2 0 (qc 0) hs (fun _ hs=>?_) (hz:=aR (List.mem_cons_of_mem _<|List.mem_cons_self));exact tN (kX (hs.ret [(3,0,5),(2,0,5)] (.tuple #[qv ((max (a.num.sign:Int) (0:Int):Int):Rat),qv 0]) (by rw[show s.op=10 by omega];rfl)))
       have zN:=eq_of_beq zm;refine lB 69 zm (lL hs [.m 68 69] (ao (cQ ?_)));have hsr:=hs;refine jd 4 [] [za,zb] mixed hs aq (eO 0 70 [(5,0,5)] (qv a) hs (gZ 3 73 [(0,0,5)] (qv 0) hsr hs ?_ (hM:=fun p hp=>by obtain rfl:=List.mem_singleton.1 hp;exact fun hm=>by rcases List.mem_cons.1 hm with e|hm;exact a6 hs.st (i:=0) (j:=3) kR kR kR e;rcases List.mem_cons.1 hm with e|hm;exact a6 hs.st (i:=0) (j:=2) kR kR kR e;cases hm)));refine ak 1 71 hs (fun _ _ hs=>d6 a (LQ.mono ha oM) _ _ hs.g) (fun _ _ hs=>?_);have hq103:LQ (1) (((a.num.sign:Int):Rat)):=LQ.int oM oM;refine ak 2 72 hs (fun _ _ hs=>oW a.num.sign oM oM _ _ hs.g) (fun _ _ hs=>bM hs (fun _ _ hs=>tP 4 3 0 (qc ((a.num.sign:Int):Rat)) hs (fun _ hs=>?_) (hz:=aR (List.mem_cons_self))));refine tP 5 2 0 (qc 0) hs (fun _ hs=>?_) (hz:=aR (List.mem_cons_of_mem _<|List.mem_cons_self));exact tN (kX (hs.ret [(3,0,5),(2,0,5)] (.tuple #[qv ((a.num.sign:Int):Rat),qv 0]) (by rw[show s.op=9 by omega];rfl)))
      have zM:=eq_of_beq zl;refine lB 48 zl (lL hs [.m 47 48] (ao (cQ (aa hs [.v 49 (qP b1 3),.o 50 (iV s.n) 6 3 1] ?_))));cases zc:((s.n:Int) == (0:Int))
      ·
       have zG:=ah zc;refine lB 51 zc (aj (cK (aa hs [.o 55 (qv a) 5 0 5,.v 56 (qP b1 3),.o 57 (iV s.n) 6 3 1] (lI 58 (s.n-1) ?_))));refine ag 59 hs (vn a (s.n-1) K hK ha (by have:=hn oM;omega) (fun h0=>hok oM oM) _ _ hs.g hs.f.1) (fun _ _ hs=>?_);have hpw:=Af (n:=s.n-1) hK1 ha (by have:=hn oM;omega);refine lL hs [.m 54 59,.v 60 (qv (fe a (s.n-1))),.v 61 qT] (lP 3 0 (qc (fe a (s.n-1))) hs (fun _ hs=>af ?_));have hsr:=hs;refine jd 6 [] [za,zb] mixed hs aq (eO 0 62 [(3,0,5)] (qv (fe a (s.n-1))) hs (eV 1 63 (qP b1 3) (eO 2 64 [(6,3,1)] (iV s.n) hs (gZ 5 67 [(0,0,5)] (qv 0) hsr hs ?_ (hM:=fun p hp=>by obtain rfl:=List.mem_singleton.1 hp;exact fun hm=>by rcases List.mem_cons.1 hm with e|hm;exact a6 hs.st (i:=0) (j:=3) kR kR kR e;rcases List.mem_cons.1 hm with e|hm;exact a6 hs.st (i:=0) (j:=2) kR kR kR e;cases hm)))));have zw:LQ (1) (((s.n:Int):Rat)):=LQ.int oM oM;refine ak 3 65 hs (fun _ _ hs=>oW s.n oM oM _ _ hs.g) (fun _ _ hs=>?_);have hq117:=LQ.mul hpw zw;refine ak 4 66 hs (fun _ _ hs=>iO (fe a (s.n-1)) ((s.n:Int):Rat) (LQ.mono hpw oM) (LQ.mono zw oM) _ _ hs.g hs.f.1) (fun _ _ hs=>bM hs (fun _ _ hs=>tP 6 3 0 (qc ((fe a (s.n-1))*((s.n:Int):Rat))) hs (fun _ hs=>?_) (hz:=aR (List.mem_cons_self))));refine tP 7 2 0 (qc 0) hs (fun _ hs=>?_) (hz:=aR (List.mem_cons_of_mem _<|List.mem_cons_self));refine tN (bx [(6,pB za),(7,pB zb),(9,pB ze)] ?_);exact kX (hs.ret [(3,0,5),(2,0,5)] (.tuple #[qv ((fe a (s.n-1))*((s.n:Int):Rat)),qv 0]) (by rw[show s.op=8 by omega];unfold nj nu;rw[if_neg kD,if_neg kD,if_neg kD,if_neg kD,if_neg kD,if_pos rfl,if_neg (show ¬s.n=0 by omega)];rfl))
      have zG:=eq_of_beq zc;refine lB 51 zc (ao (cQ ?_));have hsr:=hs;refine jd 2 [] [za,zb] mixed hs aq (eO 0 52 [(0,0,5)] (qv 0) hs (gZ 1 53 [(0,0,5)] (qv 0) hsr hs ?_ (hM:=fun p hp=>by obtain rfl:=List.mem_singleton.1 hp;exact fun hm=>by rcases List.mem_cons.1 hm with e|hm;exact a6 hs.st (i:=0) (j:=3) kR kR kR e;rcases List.mem_cons.1 hm with e|hm;exact a6 hs.st (i:=0) (j:=2) kR kR kR e;cases hm)));refine bM hs (fun _ _ hs=>tP 2 3 0 (qc 0) hs (fun _ hs=>?_) (hz:=aR (List.mem_cons_self)));refine tP 3 2 0 (qc 0) hs (fun _ hs=>?_) (hz:=aR (List.mem_cons_of_mem _<|List.mem_cons_self));exact tN (kX (hs.ret [(3,0,5),(2,0,5)] (.tuple #[qv 0,qv 0]) (by rw[show s.op=8 by omega,show s.n=0 by omega];rfl)))
     have zL:=eq_of_beq zk;refine lB 43 zk (lL hs [.m 42 43] (ao (cQ ?_)));have hsr:=hs;refine jd 3 [] [za,zb] mixed hs aq (eO 0 44 [(1,0,5)] (qv ((1:Int):Rat)) hs (gZ 2 46 [(0,0,5)] (qv 0) hsr hs ?_ (hM:=fun p hp=>by obtain rfl:=List.mem_singleton.1 hp;exact fun hm=>by rcases List.mem_cons.1 hm with e|hm;exact a6 hs.st (i:=0) (j:=3) kR kR kR e;rcases List.mem_cons.1 hm with e|hm;exact a6 hs.st (i:=0) (j:=2) kR kR kR e;cases hm)));have hq128:LQ (1) (-((1:Int):Rat)):=LQ.neg (LQ.lit (z:=1) kD);refine ak 1 45 hs (fun _ _ hs=>vB ((1:Int):Rat) (LQ.mono (LQ.lit (z:=1) kD) oM) _ _ hs.g) (fun _ _ hs=>bM hs (fun _ _ hs=>tP 3 3 0 (qc (-((1:Int):Rat))) hs (fun _ hs=>?_) (hz:=aR (List.mem_cons_self))));refine tP 4 2 0 (qc 0) hs (fun _ hs=>?_) (hz:=aR (List.mem_cons_of_mem _<|List.mem_cons_self));exact tN (kX (hs.ret [(3,0,5),(2,0,5)] (.tuple #[qv (-((1:Int):Rat)),qv 0]) (by rw[show s.op=7 by omega];rfl)))
    have zK:=eq_of_beq zj;refine lB 28 zj (lL hs [.m 27 28] (ao (aa hs [.o 30 (qv ((1:Int):Rat)) 1 0 5,.o 31 (qv b) 4 0 5] ?_)));have zd:=LQ.div (LQ.lit (z:=1) kD) hb;refine ag 32 hs (kz ((1:Int):Rat) b (LQ.mono (LQ.lit (z:=1) kD) oM) (LQ.mono hb oM) (o7 (hok6 oM)) _ _ hs.g hs.f.1) (fun _ _ hs=>lL hs [.m 29 32,.v 33 (qv (((1:Int):Rat)/b)),.v 34 qT] (lP 3 0 (qc (((1:Int):Rat)/b)) hs (fun _ hs=>af ?_)));have hsr:=hs;refine jd 7 [] [za,zb] mixed hs aq (eO 0 35 [(3,0,5)] (qv (((1:Int):Rat)/b)) hs (gZ 1 36 [(5,0,5)] (qv a) hsr hs ?_ (hM:=fun p hp=>by obtain rfl:=List.mem_singleton.1 hp;exact fun hm=>by rcases List.mem_cons.1 hm with e|hm;exact a6 hs.st (i:=5) (j:=3) kR kR kR e;rcases List.mem_cons.1 hm with e|hm;exact a6 hs.st (i:=5) (j:=2) kR kR kR e;cases hm)));refine eO 2 37 [(3,0,5)] (qv (((1:Int):Rat)/b)) hs (eO 4 39 [(3,0,5)] (qv (((1:Int):Rat)/b)) hs ?_);have zx:=LQ.mul ha zd;refine ak 3 38 hs (fun _ _ hs=>iO a (((1:Int):Rat)/b) (LQ.mono ha oM) (LQ.mono zd oM) _ _ hs.g hs.f.1) (fun _ _ hs=>?_);have zA:=LQ.mul zx zd;refine ak 5 40 hs (fun _ _ hs=>iO (a*(((1:Int):Rat)/b)) (((1:Int):Rat)/b) (LQ.mono zx oM) (LQ.mono zd oM) _ _ hs.g hs.f.1) (fun _ _ hs=>?_);have hq145:LQ ((K+(1+K))+(1+K)) (-((a*(((1:Int):Rat)/b))*(((1:Int):Rat)/b))):=LQ.neg zA;refine ak 6 41 hs (fun _ _ hs=>vB ((a*(((1:Int):Rat)/b))*(((1:Int):Rat)/b)) (LQ.mono zA oM) _ _ hs.g) (fun _ _ hs=>bM hs (fun _ _ hs=>tP 7 3 0 (qc (((1:Int):Rat)/b)) hs (fun _ hs=>?_) (hz:=aR (List.mem_cons_self))));refine tP 8 2 0 (qc (-((a*(((1:Int):Rat)/b))*(((1:Int):Rat)/b)))) hs (fun _ hs=>?_) (hz:=aR (List.mem_cons_of_mem _<|List.mem_cons_self));exact tN (kX (hs.ret [(3,0,5),(2,0,5)] (.tuple #[qv (((1:Int):Rat)/b),qv (-((a*(((1:Int):Rat)/b))*(((1:Int):Rat)/b)))]) (by rw[show s.op=6 by omega];rfl)))
   have zJ:=eq_of_beq zi;refine lB 24 zi (lL hs [.m 23 24] (ao (cQ ?_)));have hsr:=hs;refine jd 2 [] [za,zb] mixed hs aq (eO 0 25 [(4,0,5)] (qv b) hs (gZ 1 26 [(5,0,5)] (qv a) hsr hs ?_ (hM:=fun p hp=>by obtain rfl:=List.mem_singleton.1 hp;exact fun hm=>by rcases List.mem_cons.1 hm with e|hm;exact a6 hs.st (i:=5) (j:=3) kR kR kR e;rcases List.mem_cons.1 hm with e|hm;exact a6 hs.st (i:=5) (j:=2) kR kR kR e;cases hm)));refine bM hs (fun _ _ hs=>tP 2 3 0 (qc b) hs (fun _ hs=>?_) (hz:=aR (List.mem_cons_self)));refine tP 3 2 0 (qc a) hs (fun _ hs=>?_) (hz:=aR (List.mem_cons_of_mem _<|List.mem_cons_self));exact tN (kX (hs.ret [(3,0,5),(2,0,5)] (.tuple #[qv b,qv a]) (by rw[show s.op=5 by omega];rfl)))
  have zI:=eq_of_beq zg;refine lB 19 zg (lL hs [.m 18 19] (ao (cQ ?_)));have hsr:=hs;refine jd 3 [] [za,zb] mixed hs aq (eO 0 20 [(1,0,5)] (qv ((1:Int):Rat)) hs (gZ 1 21 [(1,0,5)] (qv ((1:Int):Rat)) hsr hs ?_ (hM:=fun p hp=>by obtain rfl:=List.mem_singleton.1 hp;exact fun hm=>by rcases List.mem_cons.1 hm with e|hm;exact a6 hs.st (i:=1) (j:=3) kR kR kR e;rcases List.mem_cons.1 hm with e|hm;exact a6 hs.st (i:=1) (j:=2) kR kR kR e;cases hm)));have hq156:LQ (1) (-((1:Int):Rat)):=LQ.neg (LQ.lit (z:=1) kD);refine ak 2 22 hs (fun _ _ hs=>vB ((1:Int):Rat) (LQ.mono (LQ.lit (z:=1) kD) oM) _ _ hs.g) (fun _ _ hs=>bM hs (fun _ _ hs=>tP 3 3 0 (qc ((1:Int):Rat)) hs (fun _ hs=>?_) (hz:=aR (List.mem_cons_self))));refine tP 4 2 0 (qc (-((1:Int):Rat))) hs (fun _ hs=>?_) (hz:=aR (List.mem_cons_of_mem _<|List.mem_cons_self));exact tN (kX (hs.ret [(3,0,5),(2,0,5)] (.tuple #[qv ((1:Int):Rat),qv (-((1:Int):Rat))]) (by rw[show s.op=4 by omega];rfl)))
 have zH:=eq_of_beq zf;refine lB 15 zf (lL hs [.m 14 15] (ao (cQ ?_)));have hsr:=hs;refine jd 2 [] [za,zb] mixed hs aq (eO 0 16 [(1,0,5)] (qv ((1:Int):Rat)) hs (gZ 1 17 [(1,0,5)] (qv ((1:Int):Rat)) hsr hs ?_ (hM:=fun p hp=>by obtain rfl:=List.mem_singleton.1 hp;exact fun hm=>by rcases List.mem_cons.1 hm with e|hm;exact a6 hs.st (i:=1) (j:=3) kR kR kR e;rcases List.mem_cons.1 hm with e|hm;exact a6 hs.st (i:=1) (j:=2) kR kR kR e;cases hm)));refine bM hs (fun _ _ hs=>tP 2 3 0 (qc ((1:Int):Rat)) hs (fun _ hs=>?_) (hz:=aR (List.mem_cons_self)));refine tP 3 2 0 (qc ((1:Int):Rat)) hs (fun _ hs=>?_) (hz:=aR (List.mem_cons_of_mem _<|List.mem_cons_self));exact tN (kX (hs.ret [(3,0,5),(2,0,5)] (.tuple #[qv ((1:Int):Rat),qv ((1:Int):Rat)]) (by rw[show s.op=3 by omega];rfl)))
theorem tm (s:Stp)(a b:Rat)(K:Nat)(hK:14*K+20≤100000000)(ha:LQ K a)(hb:LQ K b)(hq:LQ 1 s.q)(hK1:1≤K)(hop:1≤s.op∧s.op≤13∧s.op≠2)(hn:s.op=8 → -12≤s.n∧s.n≤12)(hok6:s.op=6→b≠0)(hok:s.op=8→s.n<0→a≠0)(w:World)(h:Hp)(g:G w h)(tb:Tab h):CR 80 #[HU s,qv a,qv b] w h (fun v _=>∃ da db,v=.tuple #[qv da,qv db]∧da=nj s.op s.n a b∧db=nu s.op a b):=by
 refine (AJ s a b K hK ha hb hq hK1 hop hn hok6 hok w h g tb).mono ?_;rintro _ w' ⟨_,h',rfl,u,rfl⟩;exact ⟨_,h',rfl,u,_,_,rfl,rfl,rfl⟩
theorem ko (op:Int)(w:World)(h:Hp)(g:G w h):CV 81 #[iV op] w h (iV (cC op)):=by
 have hs:=sS g;refine go Tryz.func81 [(0,iV op)] rfl (aa hs [.v 2 (iV 0)] (af (aa hs [.m 3 0] (bj (cQ (aE ?_))))));cases hb1:((op:Int) == (1:Int))
 ·
  have phb1:=ah hb1;refine lB 5 hb1 (lL hs [.m 4 5] (aj (kQ ?_)));cases hb2:((op:Int) == (2:Int))
  ·
   have phb2:=ah hb2;refine lB 6 hb2 (lL hs [.m 4 6] (aj (cQ (aE ?_))));cases hb3:((op:Int) == (7:Int))
   ·
    have phb3:=ah hb3;refine lB 8 hb3 (lL hs [.m 7 8] (aj (aE ?_)));cases hb4:((op:Int) == (8:Int))
    ·
     have phb4:=ah hb4;refine lB 9 hb4 (lL hs [.m 7 9] (aj (aE ?_)));cases hb5:((op:Int) == (9:Int))
     ·
      have phb5:=ah hb5;refine lB 10 hb5 (lL hs [.m 7 10] (aj (aE ?_)));cases hb6:((op:Int) == (10:Int))
      ·
       have phb6:=ah hb6;refine lB 11 hb6 (lL hs [.m 7 11] (aj (kQ ?_)));cases hb7:((op:Int) == (11:Int))
       ·
        have phb7:=ah hb7;refine lB 12 hb7 (lL hs [.m 7 12] (aj (cQ (aE ?_))));cases hb8:((op:Int) == (3:Int))
        ·
         have phb8:=ah hb8;refine lB 14 hb8 (lL hs [.m 13 14] (aj (aE ?_)));cases hb9:((op:Int) == (4:Int))
         ·
          have phb9:=ah hb9;refine lB 15 hb9 (lL hs [.m 13 15] (aj (aE ?_)));cases za:((op:Int) == (5:Int))
          ·
           have ze:=ah za;refine lB 16 za (lL hs [.m 13 16] (aj (aE ?_)));cases zb:((op:Int) == (6:Int))
           ·
            have zf:=ah zb;refine lB 17 zb (lL hs [.m 13 17] (aj (aE ?_)));cases zc:((op:Int) == (12:Int))
            ·
             have zg:=ah zc;refine lB 18 zc (lL hs [.m 13 18] (aj (kQ ?_)));cases zd:((op:Int) == (13:Int))
             ·
              have zi:=ah zd;exact lB 19 zd (lL hs [.m 13 19] (aj (cK (aa hs [.v 2 (iV (-1))] (ae hs [] (iV (-1)) (congrArg (Value.int .i64) (by have:=aG op;omega)))))))
             have zi:=eq_of_beq zd;exact lB 19 zd (lL hs [.m 13 19] (ao (aa hs [.v 2 (iV 2)] (ae hs [] (iV 2) (congrArg (Value.int .i64) (by have:=aG op;omega))))))
            have zg:=eq_of_beq zc;exact lB 18 zc (lL hs [.m 13 18] (ao (cK (bS (aa hs [.v 2 (iV 2)] (ae hs [] (iV 2) (congrArg (Value.int .i64) (by have:=aG op;omega))))))))
           have zf:=eq_of_beq zb;exact lB 17 zb (lL hs [.m 13 17] (ao (cK (bS (aa hs [.v 2 (iV 2)] (ae hs [] (iV 2) (congrArg (Value.int .i64) (by have:=aG op;omega))))))))
          have ze:=eq_of_beq za;exact lB 16 za (lL hs [.m 13 16] (ao (cK (bS (aa hs [.v 2 (iV 2)] (ae hs [] (iV 2) (congrArg (Value.int .i64) (by have:=aG op;omega))))))))
         have phb9:=eq_of_beq hb9;exact lB 15 hb9 (lL hs [.m 13 15] (ao (cK (bS (aa hs [.v 2 (iV 2)] (ae hs [] (iV 2) (congrArg (Value.int .i64) (by have:=aG op;omega))))))))
        have phb8:=eq_of_beq hb8;exact lB 14 hb8 (lL hs [.m 13 14] (ao (cK (bS (aa hs [.v 2 (iV 2)] (ae hs [] (iV 2) (congrArg (Value.int .i64) (by have:=aG op;omega))))))))
       have phb7:=eq_of_beq hb7;exact lB 12 hb7 (lL hs [.m 7 12] (ao (aa hs [.v 2 (iV 1)] (ae hs [] (iV 1) (congrArg (Value.int .i64) (by have:=aG op;omega))))))
      have phb6:=eq_of_beq hb6;exact lB 11 hb6 (lL hs [.m 7 11] (ao (cK (bS (aa hs [.v 2 (iV 1)] (ae hs [] (iV 1) (congrArg (Value.int .i64) (by have:=aG op;omega))))))))
     have phb5:=eq_of_beq hb5;exact lB 10 hb5 (lL hs [.m 7 10] (ao (cK (bS (aa hs [.v 2 (iV 1)] (ae hs [] (iV 1) (congrArg (Value.int .i64) (by have:=aG op;omega))))))))
    have phb4:=eq_of_beq hb4;exact lB 9 hb4 (lL hs [.m 7 9] (ao (cK (bS (aa hs [.v 2 (iV 1)] (ae hs [] (iV 1) (congrArg (Value.int .i64) (by have:=aG op;omega))))))))
   have phb3:=eq_of_beq hb3;exact lB 8 hb3 (lL hs [.m 7 8] (ao (cK (bS (aa hs [.v 2 (iV 1)] (ae hs [] (iV 1) (congrArg (Value.int .i64) (by have:=aG op;omega))))))))
  have phb2:=eq_of_beq hb2;exact lB 6 hb2 (lL hs [.m 4 6] (ao (aa hs [.v 2 (iV 0)] (ae hs [] (iV 0) (congrArg (Value.int .i64) (by have:=aG op;omega))))))
 have phb1:=eq_of_beq hb1;exact lB 5 hb1 (lL hs [.m 4 5] (ao (cK (bS (aa hs [.v 2 (iV 0)] (ae hs [] (iV 0) (congrArg (Value.int .i64) (by have:=aG op;omega))))))))
theorem iW (tt:Int)(i rb:Nat)(w:World)(h:Hp)(g:G w h)(ho:Own w rb 3 [nV i])(hj:h[rb]?=some bc):Calls Tryz.prog 107 #[iV tt,.bool true,pB rb] w (ef rb w h fun v w' _=>v=.bool (decide (0≤(tt:Int)∧(tt:Int)<(i:Nat)))∧Own w' rb 3 [nV i]):=by
 have hmo:UpM [rb] w h w h:=UpM.refl g;obtain ⟨wz,hz,hs⟩:=SS.at_ g ho hj;refine go Tryz.func107 [(0,iV tt),(1,qT),(2,pB rb)] rfl (aa hs [.v 5 qF] (af (aa hs [.m 6 1] (ao (aa hs [.m 7 0] ?_)))));cases hb1:(decide ((0:Int)≤(tt:Int)))
 ·
  have phb1:=oF hb1;refine lB 8 hb1 (lL hs [.m 9 8] (lG 10 ?_));exact lG 11 (lG 12 (lL hs [.v 13 qF,.m 5 13] (lN (kX (hs.retM hmo [] qF ⟨congrArg Value.bool (decide_eq_false oM).symm,hs.own 0⟩)))))
 have phb1:=oT hb1;refine lB 8 hb1 (lL hs [.m 9 8,.m 10 0,.o 11 (nV i) 0 0 1] ?_);cases hb2:(decide ((tt:Int)<(i:Int)))
 ·
  have phb2:=oF hb2;exact lB 12 hb2 (lL hs [.v 13 qF,.m 5 13] (lN (kX (hs.retM hmo [] qF ⟨congrArg Value.bool (decide_eq_false oM).symm,hs.own 0⟩))))
 have phb2:=oT hb2;exact lB 12 hb2 (lL hs [.v 13 qT,.m 5 13] (lN (kX (hs.retM hmo [] qT ⟨congrArg Value.bool (decide_eq_true oM).symm,hs.own 0⟩))))
theorem fQ (tt:Int)(i rb:Nat)(w:World)(h:Hp)(g:G w h)(ho:Own w rb 3 [nV i])(hj:h[rb]?=some bc):Calls Tryz.prog 107 #[iV tt,.bool false,pB rb] w (ef rb w h fun v w' _=>v=.bool (decide ((tt:Int)=0))∧Own w' rb 3 [nV i]):=by
 have hmo:UpM [rb] w h w h:=UpM.refl g;obtain ⟨wz,hz,hs⟩:=SS.at_ g ho hj;refine go Tryz.func107 [(0,iV tt),(1,qF),(2,pB rb)] rfl (aa hs [.v 5 qF] (af (aa hs [.m 6 1] (aj (cK (aa hs [.m 14 0] ?_))))));cases hb1:((tt:Int) == (0:Int))
 ·
  have phb1:=ah hb1;exact lB 15 hb1 (lL hs [.m 5 15] (lN (kX (hs.retM hmo [] qF ⟨congrArg Value.bool (decide_eq_false oM).symm,hs.own 0⟩))))
 have phb1:=eq_of_beq hb1;exact lB 15 hb1 (lL hs [.m 5 15] (lN (kX (hs.retM hmo [] qT ⟨congrArg Value.bool (decide_eq_true oM).symm,hs.own 0⟩))))
theorem wZ (inp:Int)(A:Option Addr)(c:Nat)(l:List Stp)(O:Option Addr)(d:Nat)(os:List Int)(i:Nat)(hik:i<l.length)(hl:l.length≤65536)(hq:LQ 1 (l.getD i ac).q)(w:World)(h:Hp)(g:G w h)(hA:SlO 9 fu ac h A l)(hO:Si O os h):CV 62 #[.agg #[iV inp,.slice A ((l).length) c,.slice O ((os).length) d],nV i] w h (.bool (decide (Formed inp i (l.getD i ac)))):=by
 have hs:=(((sS g).aS hA).aS hO);have hsg:(l.getD i ac).q.num.sign=0↔(l.getD i ac).q.num=0:=Int.sign_eq_zero_iff_zero;refine go Tryz.func62 [(0,.agg #[iV inp,qS A ((l).length) c,qS O ((os).length) d]),(1,nV i)] rfl (aE (lA 2 40 ([iV inp,qS A ((l).length) c,qS O ((os).length) d]) hs (fun b1 w2 h3 hs=>lA 3 3 ([nV i]) hs (fun b4 w5 h6 hs=>lL hs [.v 4 qF] (aT (lL hs [.v 8 (qP b1 1),.o 9 (qS A ((l).length) c) 1 1 1,.o 10 (nV i) 0 0 1] (lX 11 A ((l).length) c 9 (i:Nat) i ((hs.f.2.1).ok oM) ?_)))))));refine lH 12 (sX (l.getD i ac)) hs ((hs.f.2.1).el i oM) (lA 5 135 ([iV 0,iV 0,iV 0,iV 0,qF,uV 0,eS,uV 0,eS]) hs (fun b7 w8 h9 hs=>lP 0 0 (sC (l.getD i ac)) hs (fun _ hs=>aT (lL hs [.v 13 (pB b7),.o 14 (iV ((l.getD i ac).op)) 0 0 1] (ag 15 hs (ko (l.getD i ac).op _ _ hs.g) (fun _ _ hs=>?_))))));have hac:=aG (l.getD i ac).op;refine lL hs [.m 6 15] (af (aa hs [.m 16 6] ?_));cases za:(decide ((cC (l.getD i ac).op:Int)<(0:Int)))
 ·
  have zB:=oF za;refine lB 17 za ?_;refine aj (cK (aa hs [.v 18 (.func (.func 107) #[] #[pB b4]),.m 7 18] (af (CG.join (fun Γ w_=>∃ (zt:Bool) (h_:Hp),Γ=[(2,pB b1),(4,qF),(5,pB b7),(45,.bool zt)]∧SS w h w_ h_ [⟨b7,135,sC (l.getD i ac)⟩,⟨b4,3,[nV i]⟩,⟨b1,40,[iV inp,qS A ((l).length) c,qS O ((os).length) d]⟩] [] [Si O os,fun h_=>SlO 9 fu ac h_ A l]∧(zt=true→¬(((0<cC (l.getD i ac).op→0≤(l.getD i ac).a∧(l.getD i ac).a<i)∧(¬0<cC (l.getD i ac).op→(l.getD i ac).a=0))∧((1<cC (l.getD i ac).op→0≤(l.getD i ac).b∧(l.getD i ac).b<i)∧(¬1<cC (l.getD i ac).op→(l.getD i ac).b=0))∧((l.getD i ac).op≠1→(l.getD i ac).q.num=0)))∧(zt=false→(((0<cC (l.getD i ac).op→0≤(l.getD i ac).a∧(l.getD i ac).a<i)∧(¬0<cC (l.getD i ac).op→(l.getD i ac).a=0))∧((1<cC (l.getD i ac).op→0≤(l.getD i ac).b∧(l.getD i ac).b<i)∧(¬1<cC (l.getD i ac).op→(l.getD i ac).b=0))∧((l.getD i ac).op≠1→(l.getD i ac).q.num=0)))) ?_ ?_))))
  ·
   refine kQ (lL hs [.m 19 7,.v 20 (qP b7 1),.o 21 (iV ((l.getD i ac).a)) 0 1 1,.m 22 6] ?_);cases zb:(decide ((0:Int)<(cC (l.getD i ac).op:Int)))
   ·
    have zD:=oF zb;refine lB 23 zb (fL 24 (fQ ((l.getD i ac).a) i b4 _ _ hs.g (hs.own 1) (hs.jk 1)) ?_);rintro _ _ yk u18 ⟨rfl,hO15⟩;replace hs:=(hs.stepM 1 u18 hO15).to [⟨b7,135,sC (l.getD i ac)⟩,⟨b4,3,[nV i]⟩,⟨b1,40,[iV inp,qS A ((l).length) c,qS O ((os).length) d]⟩] [];cases zu:(decide (((l.getD i ac).a:Int)=0))
    ·
     have zE:=oF zu;refine lL hs [.v 25 qT,.m 26 25] (lG 27 ?_);refine lG 28 (lG 29 (lG 30 (lG 31 (lG 32 (lG 33 (lL hs [.v 34 qT,.m 35 34] (lG 36 ?_)))))));refine lG 37 (lG 38 (lG 39 (lG 40 (lG 41 (lG 42 (lG 43 (lG 44 (lL hs [.v 45 qT] (lD ?_)))))))));intro a_ ka;exact ⟨_,⟨true,yk,rfl,hs.to _ _,(fun _=>by omega),(fun h_=>absurd h_ kD)⟩,ka.to _ kR⟩
    have zE:=oT zu;refine lL hs [.v 25 qF,.m 26 25,.m 27 7,.v 28 (qP b7 2),.o 29 (iV ((l.getD i ac).b)) 0 2 1,.m 30 6] ?_;have ⟨yi,phb22⟩:=dF (p:=(1:Int)<(cC (l.getD i ac).op:Int)) oM;refine lB 31 yi (fL 32 (fQ ((l.getD i ac).b) i b4 _ _ hs.g (hs.own 1) (hs.jk 1)) ?_);rintro _ _ yb u26 ⟨rfl,hO23⟩;replace hs:=(hs.stepM 1 u26 hO23).to [⟨b7,135,sC (l.getD i ac)⟩,⟨b4,3,[nV i]⟩,⟨b1,40,[iV inp,qS A ((l).length) c,qS O ((os).length) d]⟩] [];cases zv:(decide (((l.getD i ac).b:Int)=0))
    ·
     have zF:=oF zv;refine lL hs [.v 33 qT,.v 34 qT,.m 35 34] (lG 36 ?_);refine lG 37 (lG 38 (lG 39 (lG 40 (lG 41 (lG 42 (lG 43 (lG 44 (lL hs [.v 45 qT] (lD ?_)))))))));intro a_ ka;exact ⟨_,⟨true,yb,rfl,hs.to _ _,(fun _=>by omega),(fun h_=>absurd h_ kD)⟩,ka.to _ kR⟩
    have zF:=oT zv;refine lL hs [.v 33 qF,.v 34 qF,.m 35 34,.v 36 (pB b7),.o 37 (iV ((l.getD i ac).op)) 0 0 1] ?_;cases zc:(((l.getD i ac).op:Int) != (1:Int))
    ·
     have zG:=aI zc;refine lB 38 zc (lL hs [.m 39 38] (lG 40 ?_));refine lG 41 (lG 42 (lG 43 (lL hs [.v 44 qF,.v 45 qF] (lD ?_))));intro a_ ka;exact ⟨_,⟨false,yb,rfl,hs.to _ _,(fun h_=>absurd h_ kD),(fun _=>by omega)⟩,ka.to _ kR⟩
    have zG:=aJ zc;refine lB 38 zc (lL hs [.m 39 38,.v 40 (qP b7 4),.o 41 (qv ((l.getD i ac).q)) 0 4 5] (ag 42 hs (d6 (l.getD i ac).q (hq.mono oM) _ _ hs.g) (fun _ yc hs=>?_)));cases zd:(((l.getD i ac).q.num.sign:Int) != (0:Int))
    ·
     have zH:=aI zd;refine lB 43 zd (lL hs [.v 44 qF,.v 45 qF] (lD ?_));intro a_ ka;exact ⟨_,⟨false,yc,rfl,hs.to _ _,(fun h_=>absurd h_ kD),(fun _=>by omega)⟩,ka.to _ kR⟩
    have zH:=aJ zd;refine lB 43 zd (lL hs [.v 44 qT,.v 45 qT] (lD ?_));intro a_ ka;exact ⟨_,⟨true,yc,rfl,hs.to _ _,(fun _=>by omega),(fun h_=>absurd h_ kD)⟩,ka.to _ kR⟩
   have zD:=oT zb;refine lB 23 zb (fL 24 (iW ((l.getD i ac).a) i b4 _ _ hs.g (hs.own 1) (hs.jk 1)) ?_);rintro _ _ yl u43 ⟨rfl,hO40⟩;replace hs:=(hs.stepM 1 u43 hO40).to [⟨b7,135,sC (l.getD i ac)⟩,⟨b4,3,[nV i]⟩,⟨b1,40,[iV inp,qS A ((l).length) c,qS O ((os).length) d]⟩] [];cases zw:(decide (0≤((l.getD i ac).a:Int)∧((l.getD i ac).a:Int)<(i:Nat)))
   ·
    have zI:=oF zw;refine lL hs [.v 25 qT,.m 26 25] (lG 27 ?_);refine lG 28 (lG 29 (lG 30 (lG 31 (lG 32 (lG 33 (lL hs [.v 34 qT,.m 35 34] (lG 36 ?_)))))));refine lG 37 (lG 38 (lG 39 (lG 40 (lG 41 (lG 42 (lG 43 (lG 44 (lL hs [.v 45 qT] (lD ?_)))))))));intro a_ ka;exact ⟨_,⟨true,yl,rfl,hs.to _ _,(fun _=>by omega),(fun h_=>absurd h_ kD)⟩,ka.to _ kR⟩
   have zI:=oT zw;refine lL hs [.v 25 qF,.m 26 25,.m 27 7,.v 28 (qP b7 2),.o 29 (iV ((l.getD i ac).b)) 0 2 1,.m 30 6] ?_;cases ze:(decide ((1:Int)<(cC (l.getD i ac).op:Int)))
   ·
    have zJ:=oF ze;refine lB 31 ze (fL 32 (fQ ((l.getD i ac).b) i b4 _ _ hs.g (hs.own 1) (hs.jk 1)) ?_);rintro _ _ yd u51 ⟨rfl,hO48⟩;replace hs:=(hs.stepM 1 u51 hO48).to [⟨b7,135,sC (l.getD i ac)⟩,⟨b4,3,[nV i]⟩,⟨b1,40,[iV inp,qS A ((l).length) c,qS O ((os).length) d]⟩] [];cases zx:(decide (((l.getD i ac).b:Int)=0))
    ·
     have zK:=oF zx;refine lL hs [.v 33 qT,.v 34 qT,.m 35 34] (lG 36 ?_);refine lG 37 (lG 38 (lG 39 (lG 40 (lG 41 (lG 42 (lG 43 (lG 44 (lL hs [.v 45 qT] (lD ?_)))))))));intro a_ ka;exact ⟨_,⟨true,yd,rfl,hs.to _ _,(fun _=>by omega),(fun h_=>absurd h_ kD)⟩,ka.to _ kR⟩
    have zK:=oT zx;refine lL hs [.v 33 qF,.v 34 qF,.m 35 34,.v 36 (pB b7),.o 37 (iV ((l.getD i ac).op)) 0 0 1] ?_;cases zf:(((l.getD i ac).op:Int) != (1:Int))
    ·
     have zL:=aI zf;refine lB 38 zf (lL hs [.m 39 38] (lG 40 ?_));refine lG 41 (lG 42 (lG 43 (lL hs [.v 44 qF,.v 45 qF] (lD ?_))));intro a_ ka;exact ⟨_,⟨false,yd,rfl,hs.to _ _,(fun h_=>absurd h_ kD),(fun _=>by omega)⟩,ka.to _ kR⟩
    have zL:=aJ zf;refine lB 38 zf (lL hs [.m 39 38,.v 40 (qP b7 4),.o 41 (qv ((l.getD i ac).q)) 0 4 5] (ag 42 hs (d6 (l.getD i ac).q (hq.mono oM) _ _ hs.g) (fun _ ye hs=>?_)));cases zg:(((l.getD i ac).q.num.sign:Int) != (0:Int))
    ·
     have zM:=aI zg;refine lB 43 zg (lL hs [.v 44 qF,.v 45 qF] (lD ?_));intro a_ ka;exact ⟨_,⟨false,ye,rfl,hs.to _ _,(fun h_=>absurd h_ kD),(fun _=>by omega)⟩,ka.to _ kR⟩
    have zM:=aJ zg;refine lB 43 zg (lL hs [.v 44 qT,.v 45 qT] (lD ?_));intro a_ ka;exact ⟨_,⟨true,ye,rfl,hs.to _ _,(fun _=>by omega),(fun h_=>absurd h_ kD)⟩,ka.to _ kR⟩
   have zJ:=oT ze;refine lB 31 ze (fL 32 (iW ((l.getD i ac).b) i b4 _ _ hs.g (hs.own 1) (hs.jk 1)) ?_);rintro _ _ yf u68 ⟨rfl,hO65⟩;replace hs:=(hs.stepM 1 u68 hO65).to [⟨b7,135,sC (l.getD i ac)⟩,⟨b4,3,[nV i]⟩,⟨b1,40,[iV inp,qS A ((l).length) c,qS O ((os).length) d]⟩] [];cases zA:(decide (0≤((l.getD i ac).b:Int)∧((l.getD i ac).b:Int)<(i:Nat)))
   ·
    have zN:=oF zA;refine lL hs [.v 33 qT,.v 34 qT,.m 35 34] (lG 36 ?_);refine lG 37 (lG 38 (lG 39 (lG 40 (lG 41 (lG 42 (lG 43 (lG 44 (lL hs [.v 45 qT] (lD ?_)))))))));intro a_ ka;exact ⟨_,⟨true,yf,rfl,hs.to _ _,(fun _=>by omega),(fun h_=>absurd h_ kD)⟩,ka.to _ kR⟩
   have zN:=oT zA;refine lL hs [.v 33 qF,.v 34 qF,.m 35 34,.v 36 (pB b7),.o 37 (iV ((l.getD i ac).op)) 0 0 1] ?_;cases zi:(((l.getD i ac).op:Int) != (1:Int))
   ·
    have zP:=aI zi;refine lB 38 zi (lL hs [.m 39 38] (lG 40 ?_));refine lG 41 (lG 42 (lG 43 (lL hs [.v 44 qF,.v 45 qF] (lD ?_))));intro a_ ka;exact ⟨_,⟨false,yf,rfl,hs.to _ _,(fun h_=>absurd h_ kD),(fun _=>by omega)⟩,ka.to _ kR⟩
   have zP:=aJ zi;refine lB 38 zi (lL hs [.m 39 38,.v 40 (qP b7 4),.o 41 (qv ((l.getD i ac).q)) 0 4 5] (ag 42 hs (d6 (l.getD i ac).q (hq.mono oM) _ _ hs.g) (fun _ yg hs=>?_)));cases zj:(((l.getD i ac).q.num.sign:Int) != (0:Int))
   ·
    have zQ:=aI zj;refine lB 43 zj (lL hs [.v 44 qF,.v 45 qF] (lD ?_));intro a_ ka;exact ⟨_,⟨false,yg,rfl,hs.to _ _,(fun h_=>absurd h_ kD),(fun _=>by omega)⟩,ka.to _ kR⟩
   have zQ:=aJ zj;refine lB 43 zj (lL hs [.v 44 qT,.v 45 qT] (lD ?_));intro a_ ka;exact ⟨_,⟨true,yg,rfl,hs.to _ _,(fun _=>by omega),(fun h_=>absurd h_ kD)⟩,ka.to _ kR⟩
  rintro _ _ ⟨zt,_,rfl,hs,yj,hF45⟩;cases zk:(zt)
  ·
   try rw[zk] at hs
   try rw[zk]
   refine cM (cK (cQ (aE ?_)));have ym:=hF45 aM;refine lL hs [.v 46 (pB b7),.o 47 (iV ((l.getD i ac).op)) 0 0 1] (bj (aE ?_));cases zl:(((l.getD i ac).op:Int) == (2:Int))
   ·
    have zR:=ah zl;refine lB 49 zl (lL hs [.m 48 49] (aj (aE ?_)));cases zm:(((l.getD i ac).op:Int) == (8:Int))
    ·
     have zS:=ah zm;refine lB 61 zm (lL hs [.m 60 61] (aj (cK (aa hs [.v 70 (qP b7 3),.o 71 (iV ((l.getD i ac).n)) 0 3 1] ?_))));cases zn:(((l.getD i ac).n:Int) == (0:Int))
     ·
      have zT:=ah zn;exact lB 72 zn (lL hs [.m 4 72] (ae hs [] qF (congrArg Value.bool (decide_eq_false (by unfold Formed dS;omega)).symm)))
     have zT:=eq_of_beq zn;exact lB 72 zn (lL hs [.m 4 72] (ae hs [] qT (congrArg Value.bool (decide_eq_true (by unfold Formed dS;omega)).symm)))
    have zS:=eq_of_beq zm;refine lB 61 zm (lL hs [.m 60 61] (ao (aa hs [.v 62 (qP b7 3),.o 63 (iV ((l.getD i ac).n)) 0 3 1] ?_)));cases zo:(decide ((-12:Int)≤((l.getD i ac).n:Int)))
    ·
     have zU:=oF zo;refine lB 64 zo (lL hs [.m 65 64] (lG 66 ?_));exact lG 67 (lG 68 (lL hs [.v 69 qF,.m 4 69] (ae hs [] qF (congrArg Value.bool (decide_eq_false (by unfold Formed dS;omega)).symm))))
    have zU:=oT zo;refine lB 64 zo (lL hs [.m 65 64,.v 66 (qP b7 3),.o 67 (iV ((l.getD i ac).n)) 0 3 1] ?_);cases zp:(decide (((l.getD i ac).n:Int)≤(12:Int)))
    ·
     have zW:=oF zp;exact lB 68 zp (lL hs [.v 69 qF,.m 4 69] (ae hs [] qF (congrArg Value.bool (decide_eq_false (by unfold Formed dS;omega)).symm)))
    have zW:=oT zp;exact lB 68 zp (lL hs [.v 69 qT,.m 4 69] (ae hs [] qT (congrArg Value.bool (decide_eq_true (by unfold Formed dS;omega)).symm)))
   have zR:=eq_of_beq zl;refine lB 49 zl (lL hs [.m 48 49] (ao (aa hs [.v 50 (qP b7 3),.o 51 (iV ((l.getD i ac).n)) 0 3 1] ?_)));cases zq:(decide ((0:Int)≤((l.getD i ac).n:Int)))
   ·
    have zX:=oF zq;refine lB 52 zq (lL hs [.m 53 52] (lG 54 ?_));exact lG 55 (lG 56 (lG 57 (lG 58 (lL hs [.v 59 qF,.m 4 59] (ae hs [] qF (congrArg Value.bool (decide_eq_false (by unfold Formed dS;omega)).symm))))))
   have zX:=oT zq;refine lB 52 zq (lL hs [.m 53 52,.v 54 (qP b7 3),.o 55 (iV ((l.getD i ac).n)) 0 3 1,.v 56 (pB b1),.o 57 (iV inp) 2 0 1] ?_);cases zs:(decide (((l.getD i ac).n:Int)<(inp:Int)))
   ·
    have ya:=oF zs;exact lB 58 zs (lL hs [.v 59 qF,.m 4 59] (ae hs [] qF (congrArg Value.bool (decide_eq_false (by unfold Formed dS;omega)).symm)))
   have ya:=oT zs;exact lB 58 zs (lL hs [.v 59 qT,.m 4 59] (ae hs [] qT (congrArg Value.bool (decide_eq_true (by unfold Formed dS;omega)).symm)))
  try rw[zk] at hs
  try rw[zk]
  refine bS (aE ?_);have ym:=yj aM;exact lL hs [.v 4 qF] (ae hs [] qF (congrArg Value.bool (decide_eq_false (by unfold Formed dS;omega)).symm))
 have zB:=oT za;exact lB 17 za (ao (aa hs [.v 4 qF] (ae hs [] qF (congrArg Value.bool (decide_eq_false (by unfold Formed dS;omega)).symm))))
theorem Be (s:Stp)(V:Option Addr)(n c:Nat)(hv:List Int)(hn:hv.length=n)(k:Nat)(inp:Int)(hF:Formed inp k s)(hW:Wts hv k)(hk:k≤hv.length)(w:World)(h:Hp)(g:G w h)(hV:Si V hv h):CV 63 #[sX s,.slice V n c] w h (iV (bA s hv)):=by
 have hs:=((sS g).aS hV);have hwb:=hW.weight hF;have hpw:=hW.pow hF;obtain ⟨f0,f1,f2,f3,f4,f5,f6⟩:=hF
 unfold dS at f1 f2
 have hac:=aG s.op;have hwa:=fun h0=>hW s.a.toNat h0
 have hwc:=fun h0=>hW s.b.toNat h0
 refine go Tryz.func63 [(0,sX s),(1,qS V n c)] rfl (aE (lA 2 135 (sC s) hs (fun b1 w2 h3 hs=>lL hs [.v 4 (iV 0)] (af (aa hs [.v 5 (pB b1),.o 6 (iV s.op) 0 0 1] (ag 7 hs (ko s.op _ _ hs.g) (fun w4 h5 hs=>bj (aE ?_))))))));cases hb6:((cC s.op:Int) == (0:Int))
 ·
  have phb6:=ah hb6;refine lB 9 hb6 (lL hs [.m 8 9] (aj (aE ?_)));cases hb7:((cC s.op:Int) == (2:Int))
  ·
   have phb7:=ah hb7;refine lB 11 hb7 (lL hs [.m 10 11] (aj (cK (cQ (aa hs [.v 23 (pB b1),.o 24 (iV s.op) 0 0 1] (bj (aE ?_)))))));cases hb8:((s.op:Int) == (11:Int))
   ·
    have phb8:=ah hb8;refine lB 26 hb8 (lL hs [.m 25 26] (aj (aE ?_)));cases hb9:((s.op:Int) == (8:Int))
    ·
     have phb9:=ah hb9;refine lB 34 hb9 (lL hs [.m 33 34] (aj (cK (aa hs [.m 47 1,.v 48 (qP b1 1),.o 49 (iV s.a) 0 1 1] (lX 50 V n c 1 s.a s.a.toNat ((hs.f.1).ok oM) ?_)))));exact lH 51 (iV (hv.getD s.a.toNat 0)) hs ((hs.f.1).el s.a.toNat oM) (lL hs [.m 4 51] (ae hs [] (iV (hv.getD s.a.toNat 0)) (congrArg (Value.int .i64) (by unfold bA;first|(rw[if_pos oM])|(rw[if_neg oM,if_pos oM])|(rw[if_neg oM,if_neg oM,if_pos oM])|(rw[if_neg oM,if_neg oM,if_neg oM,if_pos oM])|(rw[if_neg oM,if_neg oM,if_neg oM,if_neg oM])))))
    have phb9:=eq_of_beq hb9;refine lB 34 hb9 (lL hs [.m 33 34] (ao (cQ (cR 12 [] mixed hs aq ?_))));refine eV 0 35 (qP b1 3) (eO 1 36 [(0,3,1)] (iV s.n) hs (eV 2 37 (qP b1 3) (eO 3 38 [(0,3,1)] (iV s.n) hs (eI 4 39 (0-s.n) (eV 5 40 (iV (max (max (s.n:Int) (0-s.n:Int)) (1:Int))) ?_ (hv:=fun _=>ay (n:=(if (1:Int)>(if (0-s.n:Int)>(s.n:Int) then (0-s.n:Int) else (s.n:Int)) then (1:Int) else (if (0-s.n:Int)>(s.n:Int) then (0-s.n:Int) else (s.n:Int)))) kR (by simp only[l8])))))));exact eV 6 41 (qS V n c) (eV 7 42 (qP b1 1) (eO 8 43 [(0,1,1)] (iV s.a) hs (eX 9 44 V n c 1 s.a s.a.toNat ((hs.f.1).ok oM) (eH 10 45 (iV (hv.getD s.a.toNat 0)) hs ((hs.f.1).el s.a.toNat oM) (eI 11 46 ((max (max (s.n:Int) (0-s.n:Int)) (1:Int))*(hv.getD s.a.toNat 0)) (bM hs (fun _ _ hs=>tV 12 4 (iV ((max (max (s.n:Int) (0-s.n:Int)) (1:Int))*(hv.getD s.a.toNat 0))) (tN (kX (hs.ret [] (iV ((max (max (s.n:Int) (0-s.n:Int)) (1:Int))*(hv.getD s.a.toNat 0))) (congrArg (Value.int .i64) (by unfold bA;first|(rw[if_pos oM])|(rw[if_neg oM,if_pos oM])|(rw[if_neg oM,if_neg oM,if_pos oM])|(rw[if_neg oM,if_neg oM,if_neg oM,if_pos oM])|(rw[if_neg oM,if_neg oM,if_neg oM,if_neg oM])))))))))))))
   have phb8:=eq_of_beq hb8;refine lB 26 hb8 (lL hs [.m 25 26] (ao (aa hs [.m 27 1,.v 28 (qP b1 1),.o 29 (iV s.a) 0 1 1] (lX 30 V n c 1 s.a s.a.toNat ((hs.f.1).ok oM) ?_))));exact lH 31 (iV (hv.getD s.a.toNat 0)) hs ((hs.f.1).el s.a.toNat oM) (lI 32 (2*(hv.getD s.a.toNat 0)) (lL hs [.m 4 32] (ae hs [] (iV (2*(hv.getD s.a.toNat 0))) (congrArg (Value.int .i64) (by unfold bA;first|(rw[if_pos oM])|(rw[if_neg oM,if_pos oM])|(rw[if_neg oM,if_neg oM,if_pos oM])|(rw[if_neg oM,if_neg oM,if_neg oM,if_pos oM])|(rw[if_neg oM,if_neg oM,if_neg oM,if_neg oM]))))))
  have phb7:=eq_of_beq hb7;refine lB 11 hb7 (lL hs [.m 10 11] (ao (cQ (cR 11 [] mixed hs aq ?_))));exact eV 0 12 (qS V n c) (eV 1 13 (qP b1 1) (eO 2 14 [(0,1,1)] (iV s.a) hs (eX 3 15 V n c 1 s.a s.a.toNat ((hs.f.1).ok oM) (eH 4 16 (iV (hv.getD s.a.toNat 0)) hs ((hs.f.1).el s.a.toNat oM) (eV 5 17 (qS V n c) (eV 6 18 (qP b1 2) (eO 7 19 [(0,2,1)] (iV s.b) hs (eX 8 20 V n c 1 s.b s.b.toNat ((hs.f.1).ok oM) (eH 9 21 (iV (hv.getD s.b.toNat 0)) hs ((hs.f.1).el s.b.toNat oM) (eI 10 22 ((hv.getD s.a.toNat 0)+(hv.getD s.b.toNat 0)) (bM hs (fun _ _ hs=>tV 11 4 (iV ((hv.getD s.a.toNat 0)+(hv.getD s.b.toNat 0))) (tN (kX (hs.ret [] (iV ((hv.getD s.a.toNat 0)+(hv.getD s.b.toNat 0))) (congrArg (Value.int .i64) (by unfold bA;first|(rw[if_pos oM])|(rw[if_neg oM,if_pos oM])|(rw[if_neg oM,if_neg oM,if_pos oM])|(rw[if_neg oM,if_neg oM,if_neg oM,if_pos oM])|(rw[if_neg oM,if_neg oM,if_neg oM,if_neg oM]))))))))))))))))))
 have phb6:=eq_of_beq hb6;exact lB 9 hb6 (lL hs [.m 8 9] (ao (aa hs [.v 4 (iV 1)] (ae hs [] (iV 1) (congrArg (Value.int .i64) (by unfold bA;first|(rw[if_pos oM])|(rw[if_neg oM,if_pos oM])|(rw[if_neg oM,if_neg oM,if_pos oM])|(rw[if_neg oM,if_neg oM,if_neg oM,if_pos oM])|(rw[if_neg oM,if_neg oM,if_neg oM,if_neg oM])))))))
theorem iB (inp:Int)(A:Option Addr)(c:Nat)(l:List Stp)(O:Option Addr)(d:Nat)(os:List Int)(hl:l.length≤1000000)(ho:os.length≤1000000)(hq:∀ i,i<l.length→LQ 1 (l.getD i ac).q)(w:World)(h:Hp)(g:G w h)(hA:SlO 9 fu ac h A l)(hO:Si O os h):CV 24 #[.agg #[iV inp,.slice A ((l).length) c,.slice O ((os).length) d]] w h (iV (be inp l os)):=by
 have hs:=(((sS g).aS hA).aS hO);refine go Tryz.func24 [(0,.agg #[iV inp,qS A ((l).length) c,qS O ((os).length) d])] rfl (aE (lA 1 40 ([iV inp,qS A ((l).length) c,qS O ((os).length) d]) hs (fun b1 w2 h3 hs=>lL hs [.v 2 (iV 0)] (af (aa hs [.v 8 (pB b1),.o 9 (iV inp) 0 0 1] ?_)))));cases hb4:(decide ((inp:Int)<(0:Int)))
 ·
  have phb4:=oF hb4;refine lB 10 hb4 (lL hs [.m 11 10,.v 12 (pB b1),.o 13 (iV inp) 0 0 1] ?_);cases hb5:(decide ((1000:Int)<(inp:Int)))
  ·
   have phb5:=oF hb5;refine lB 14 hb5 (lL hs [.v 15 qF,.m 16 15,.v 17 (qP b1 1),.o 18 (qS A ((l).length) c) 0 1 1,.v 19 (nV ((l).length))] ?_);cases hb6:(decide ((65536:Int)<(((l).length:Nat):Int)))
   ·
    have phb6:=oF hb6;refine lB 20 hb6 (lL hs [.v 21 qF,.m 22 21,.v 23 (qP b1 2),.o 24 (qS O ((os).length) d) 0 2 1,.v 25 (nV ((os).length))] ?_);cases hb7:(decide ((300:Int)<(((os).length:Nat):Int)))
    ·
     have phb7:=oF hb7;refine lB 26 hb7 (lL hs [.v 27 qF] (aj (cK (aa hs [.v 28 (qP b1 1),.o 29 (qS A ((l).length) c) 0 1 1,.v 30 (nV ((l).length))] (lK 31 3 ((l).length) 1 8 (iV 0) dj (0:Int) hs (fun b8 w9 zp hs=>?_))))));have zn:(List.replicate ((l).length) (0:Int)).length=((l).length):=by simp
     refine lL hs [.m 3 31] (af (aa hs [.v 32 (qP b1 1),.o 33 (qS A ((l).length) c) 1 1 1,.v 34 (nV ((l).length)),.v 35 (iV 0)] (bj ?_)));have hsh:0≤inp∧inp≤1000∧l.length≤65536∧os.length≤300:=by omega
     refine bx _ (CG.loop (fun μ_ Γ w_=>∃ (k:Nat) (L:List Int) (h_:Hp),μ_=l.length-k∧Γ=[(1,pB b1),(3,qS (sB b8) ((l).length) ((l).length)),(33,qS A ((l).length) c),(34,nV ((l).length)),(35,nV k)]∧SS w h w_ h_ [⟨b8,3,(L).flatMap dj⟩,⟨b1,40,[iV inp,qS A ((l).length) c,qS O ((os).length) d]⟩] [] [Si O os,fun h_=>SlO 9 fu ac h_ A l]∧k≤l.length∧L.length=l.length∧Wts L k∧nC inp l []=nC inp (l.drop k) (L.take k)) _ ⟨0,List.replicate ((l).length) (0:Int),zp,rfl,rfl,hs.to _ _,Nat.zero_le _,zn,fun j hj=>absurd hj (Nat.not_lt_zero j),rfl⟩ ?_);rintro _ _ _ ⟨k,L,zq,hm14,rfl,hs,hk,hlL,hWt,hgo⟩;refine aE ?_;cases za:(decide ((k:Int)<(((l).length:Nat):Int)))
     ·
      have zg:=oF za;refine lB 36 za (af (cM (CG.exit ?_)))
      show CG _ _ _ _ _ _ _ _
      refine cQ (aa hs [.v 56 (qP b1 2),.o 57 (qS O ((os).length) d) 1 2 1,.v 58 (nV ((os).length)),.v 59 (iV 0)] (bj ?_));refine bx _ (CG.loop (fun μ_ Γ w_=>∃ (j:Nat) (h_:Hp),μ_=os.length-j∧Γ=[(1,pB b1),(57,qS O ((os).length) d),(58,nV ((os).length)),(59,nV j)]∧SS w h w_ h_ [⟨b8,3,(L).flatMap dj⟩,⟨b1,40,[iV inp,qS A ((l).length) c,qS O ((os).length) d]⟩] [] [Si O os,fun h_=>SlO 9 fu ac h_ A l]∧j≤os.length∧(∀ i,i<j→0≤os.getD i 0∧os.getD i 0<l.length)) _ ⟨0,zq,rfl,rfl,hs.to _ _,Nat.zero_le _,fun j hj=>absurd hj (Nat.not_lt_zero j)⟩ ?_);rintro _ _ _ ⟨j,zs,hm18,rfl,hs,hj,hou⟩;refine aE ?_;cases zb:(decide ((j:Int)<(((os).length:Nat):Int)))
      ·
       have zi:=oF zb;refine lB 60 zb (af (cM (CG.exit ?_)))
       show CG _ _ _ _ _ _ _ _
       exact aa hs [.v 2 (iV 0)] (ae hs [] (iV 0) (congrArg (Value.int .i64) (tT hsh (by rw[hgo,List.drop_eq_nil_of_le oM];rfl) (fun i hi=>hou i oM)).symm))
      have zi:=oT zb;refine lB 60 zb (af (bS (cK (cQ (kZ (aE (lX 61 O ((os).length) d 1 (j:Nat) j ((hs.f.1).ok oM) ?_)))))));refine lH 62 (iV (os.getD j 0)) hs ((hs.f.1).el j oM) (lL hs [.m 7 62] (aT (lL hs [.m 63 7] ?_)));cases zc:(decide ((os.getD j 0:Int)<(0:Int)))
      ·
       have zj:=oF zc;refine lB 64 zc (lL hs [.m 65 64,.m 66 7,.v 67 (qP b1 1),.o 68 (qS A ((l).length) c) 1 1 1,.v 69 (nV ((l).length))] ?_);cases zd:(decide ((((l).length:Nat):Int)≤(os.getD j 0:Int)))
       ·
        have zk:=oF zd;refine lB 70 zd (lL hs [.v 71 qF] (aj (cK (kQ (bB 72 ((j:Nat)+1) (j+1) ?_)))));refine lL hs [.m 59 72] (lD ?_);intro a_ ka;refine ⟨_,_,?_,⟨j+1,zs,rfl,rfl,hs.to _ _,oM,(fun i hi=>by by_cases e:i=j;(subst e;omega);exact hou i oM)⟩,ka.to _ kR⟩
        omega
       have zk:=oT zd;exact lB 70 zd (lL hs [.v 71 qT] (ao (aa hs [.v 2 (iV 1)] (ae hs [] (iV 1) (congrArg (Value.int .i64) (ml hsh (by rw[hgo,List.drop_eq_nil_of_le oM];rfl) (fun h_=>by have:=h_ j oM;omega)).symm)))))
      have zj:=oT zc;refine lB 64 zc (lL hs [.m 65 64] (lG 66 ?_));exact lG 67 (lG 68 (lG 69 (lG 70 (lL hs [.v 71 qT] (ao (aa hs [.v 2 (iV 1)] (ae hs [] (iV 1) (congrArg (Value.int .i64) (ml hsh (by rw[hgo,List.drop_eq_nil_of_le oM];rfl) (fun h_=>by have:=h_ j oM;omega)).symm))))))))
     have zg:=oT za;refine lB 36 za (af (bS (cK (cQ (kZ (aa hs [.m 37 35] (lX 38 A ((l).length) c 9 (k:Nat) k ((hs.f.2.1).ok oM) ?_)))))));refine lH 39 (sX (l.getD k ac)) hs ((hs.f.2.1).el k oM) (lA 5 135 ([iV 0,iV 0,iV 0,iV 0,qF,uV 0,eS,uV 0,eS]) hs (fun zt _ _ hs=>lL hs [.m 4 37] (lP 0 0 (sC (l.getD k ac)) hs (fun _ hs=>af (aa hs [.o 40 (.agg #[iV inp,qS A ((l).length) c,qS O ((os).length) d]) 2 0 3,.m 41 4] (ag 42 hs (wZ inp A c l O d os k oM oM (hq k oM) _ _ hs.g hs.f.2.1 hs.f.1) (fun _ _ hs=>?_)))))));cases zf:(decide (Formed inp k (l.getD k ac)))
     ·
      have zl:=oF zf;exact lL hs [.v 43 qT] (ao (aa hs [.v 2 (iV 2)] (ae hs [] (iV 2) (congrArg (Value.int .i64) ((oE hsh (by rw[hgo,p8 oM (by simp;omega) ‹¬Formed inp k (l.getD k ac)›];decide)).trans (hgo.trans (p8 oM (by simp;omega) ‹¬Formed inp k (l.getD k ac)›))).symm))))
     have zl:=oT zf;refine lL hs [.v 43 qF] (aj (cK (aa hs [.m 44 3,.m 45 4,.o 46 (sX (l.getD k ac)) 0 0 9,.m 47 3] (EL 48 1 hs (fun _ g_ f_ sg_=>Be (l.getD k ac) (sB b8) ((l).length) ((l).length) L hlL k inp ‹Formed inp k (l.getD k ac)› hWt oM _ _ g_ (SlO.of_flat (sz:=1) (f:=dj) (d:=0) (b:=b8) (o:=0) (l:=L) (fun _=>rfl) sg_)) ?_))));rintro _ _ zu hs rfl;have hws:=hWt.weight ‹Formed inp k (l.getD k ac)›;have hgs:(L.set k (bA (l.getD k ac) L)).getD k 0=bA (l.getD k ac) L:=by rw[List.getD_eq_getElem?_getD,List.getElem?_set_self oM];rfl
     refine lX 49 (sB b8) ((l).length) ((l).length) 1 (k:Nat) k rfl (lW 1 L dj 1 k (bA (l.getD k ac) L) hs oM (fun _ hs=>?_));have zo:((L).set k (bA (l.getD k ac) L)).length=((l).length):=by rw[List.length_set];exact hlL
     replace hs:=hs.to [⟨zt,135,sC (l.getD k ac)⟩,⟨b8,3,((L).set k (bA (l.getD k ac) L)).flatMap dj⟩,⟨b1,40,[iV inp,qS A ((l).length) c,qS O ((os).length) d]⟩] [];refine aT (lL hs [.m 50 3,.m 51 4] (lX 52 (sB b8) ((l).length) ((l).length) 1 (k:Nat) k rfl ?_));refine lQ 53 1 ((L).set k (bA (l.getD k ac) L)) dj 1 0 k (iV (((L).set k (bA (l.getD k ac) L)).getD k 0)) hs oM ?_;cases ze:(decide ((65536:Int)<(((L).set k (bA (l.getD k ac) L)).getD k 0:Int)))
     ·
      have zm:=oF ze;refine lB 54 ze (aj (cK (kQ (bB 55 ((k:Nat)+1) (k+1) ?_))));refine lL hs [.m 35 55] (lD ?_);intro a_ ka;replace hs:=hs.drop 1 0;refine ⟨_,_,?_,⟨k+1,(L).set k (bA (l.getD k ac) L),zu,rfl,rfl,hs.to _ _,oM,zo,(hWt.snoc oM hws.1 oM),(hgo.trans ((vR oM (by simp;omega) ‹Formed inp k (l.getD k ac)› (by rw[fK ‹Formed inp k (l.getD k ac)›];omega)).trans (by rw[fK ‹Formed inp k (l.getD k ac)›,lh oM])))⟩,ka.to _ kR⟩
      omega
     have zm:=oT ze;exact lB 54 ze (ao (aa hs [.v 2 (iV 18)] (ae hs [] (iV 18) (congrArg (Value.int .i64) ((oE hsh (by rw[hgo,n9 oM (by simp;omega) ‹Formed inp k (l.getD k ac)› (by rw[fK ‹Formed inp k (l.getD k ac)›];omega)];decide)).trans (hgo.trans (n9 oM (by simp;omega) ‹Formed inp k (l.getD k ac)› (by rw[fK ‹Formed inp k (l.getD k ac)›];omega)))).symm))))
    have phb7:=oT hb7;exact lB 26 hb7 (lL hs [.v 27 qT] (ao (aa hs [.v 2 (iV 5)] (ae hs [] (iV 5) (congrArg (Value.int .i64) (eA oM).symm)))))
   have phb6:=oT hb6;refine lB 20 hb6 (lL hs [.v 21 qT,.m 22 21] (lG 23 ?_));exact lG 24 (lG 25 (lG 26 (lL hs [.v 27 qT] (ao (aa hs [.v 2 (iV 5)] (ae hs [] (iV 5) (congrArg (Value.int .i64) (eA oM).symm)))))))
  have phb5:=oT hb5;refine lB 14 hb5 (lL hs [.v 15 qT,.m 16 15] (lG 17 ?_));refine lG 18 (lG 19 (lG 20 (lL hs [.v 21 qT,.m 22 21] (lG 23 ?_))));exact lG 24 (lG 25 (lG 26 (lL hs [.v 27 qT] (ao (aa hs [.v 2 (iV 5)] (ae hs [] (iV 5) (congrArg (Value.int .i64) (eA oM).symm)))))))
 have phb4:=oT hb4;refine lB 10 hb4 (lL hs [.m 11 10] (lG 12 ?_));refine lG 13 (lG 14 (lL hs [.v 15 qT,.m 16 15] (lG 17 ?_)));refine lG 18 (lG 19 (lG 20 (lL hs [.v 21 qT,.m 22 21] (lG 23 ?_))));exact lG 24 (lG 25 (lG 26 (lL hs [.v 27 qT] (ao (aa hs [.v 2 (iV 5)] (ae hs [] (iV 5) (congrArg (Value.int .i64) (eA oM).symm)))))))
theorem EZ:∀ b:Bool,b=false∨b=true
 | false=>.inl rfl
 | true=>.inr rfl
theorem ku {sm:Bool}{l:List Stp}{at_ L:List Rat}{k n:Nat}{e:Int}(h0:bN sm l at_ k=0)(hk:k<n)(hL:∀ j,L.getD j 0=(aU l at_ k).getD j 0)(h:fN sm (l.getD k ac) L=e)(he:e≠0):bN sm l at_ n=e:=by
 have e1:fN sm (l.getD k ac) (aU l at_ k)=e:=by rw[←h];unfold fN;rw[hL,hL]
 rw[r8 h0 hk (by rw[e1];exact he),e1]
theorem je {sm:Bool}{l:List Stp}{at_ L:List Rat}{k:Nat}(h0:bN sm l at_ k=0)(hL:∀ j,L.getD j 0=(aU l at_ k).getD j 0)(h:fN sm (l.getD k ac) L=0):bN sm l at_ (k+1)=0:=by
 refine rz h0 ?_;rw[←h];unfold fN;rw[hL,hL]
theorem Cm {sm:Bool}{s:Stp}{v:List Rat}(h:s.op=2):fN sm s v=0:=if_pos h
theorem vw {sm:Bool}{s:Stp}{v:List Rat}(h:mF s.op s.n (v.getD s.a.toNat 0) (v.getD s.b.toNat 0))(h2:¬(sm=true∧k9 s.op (v.getD s.a.toNat 0) (v.getD s.b.toNat 0))):fN sm s v=0:=by
 by_cases e:s.op=2
 ·exact if_pos e
 ·unfold fN;rw[if_neg e,if_pos h,if_neg h2]
theorem vY {sm:Bool}{s:Stp}{v:List Rat}(h2:s.op≠2)(h:¬mF s.op s.n (v.getD s.a.toNat 0) (v.getD s.b.toNat 0)):fN sm s v=6:=by
 unfold fN;rw[if_neg h2,if_neg h]
theorem D5 {s:Stp}{v:List Rat}(h2:s.op≠2)(h:mF s.op s.n (v.getD s.a.toNat 0) (v.getD s.b.toNat 0))(h3:k9 s.op (v.getD s.a.toNat 0) (v.getD s.b.toNat 0)):fN true s v=7:=by
 unfold fN;rw[if_neg h2,if_pos h,if_pos ⟨rfl,h3⟩]
theorem Bu {sm:Bool}{s:Stp}{v:List Rat}(h2:s.op≠2)(h:mF s.op s.n (v.getD s.a.toNat 0) (v.getD s.b.toNat 0))(hs:sm=true)(h3:k9 s.op (v.getD s.a.toNat 0) (v.getD s.b.toNat 0)):fN sm s v=7:=by subst hs;exact D5 h2 h h3
theorem kw {l:List Stp}{at_ L:List Rat}{k:Nat}{x:Rat}(hk:k<L.length)(hL:∀ j,L.getD j 0=(aU l at_ k).getD j 0)(hx:x=oN (l.getD k ac) at_ L):∀ j,(L.set k x).getD j 0=(aU l at_ (k+1)).getD j 0:=fun j=>by
 have e1:oN (l.getD k ac) at_ L=oN (l.getD k ac) at_ (aU l at_ k):=by unfold oN;rw[hL,hL]
 have hl:=d8 l at_ k
 show _=(aU l at_ k++[_]).getD j 0
 rw[bY hk,cG,hl,←e1,←hx]
 by_cases e:j=k
 ·rw[if_pos e,if_neg oM,if_pos e]
 ·rw[if_neg e,hL j]
  by_cases h:j<k
  ·rw[if_pos h]
  ·rw[if_neg h,if_neg e,cI oM]
theorem gK {a b:List Rat}(h:a.length=b.length)(hv:∀ j,a.getD j 0=b.getD j 0):a=b:=by
 refine List.ext_getElem h (fun i h1 h2=>?_);have:=hv i
 simpa [h1,h2] using this
def bR (sm:Bool)(l:List Stp)(at_:List Rat):List Rat:=if bN sm l at_ l.length=0 then aU l at_ l.length else []
theorem Ap {vs R:List Rat}{os:List Int}(hl:R.length=os.length)(h:∀ j,j<os.length→R.getD j 0=vs.getD (os.getD j 0).toNat 0):R=dV vs os:=by
 refine gK (by unfold dV;rw[List.length_map];exact hl) (fun j=>?_)
 by_cases hj:j<os.length
 ·rw[h j hj];unfold dV
  have e:(os.map fun o=>vs.getD o.toNat 0).getD j 0=vs.getD (os.getD j 0).toNat 0:=by simp[List.getD_eq_getElem?_getD,hj]
  exact e.symm
 ·rw[cI oM,cI (by unfold dV;rw[List.length_map];omega)]
theorem qI {inp:Int}:∀ {l:List Stp} {hv:List Int},nC inp l hv=0→∀ j,j<l.length→Formed inp (hv.length+j) (l.getD j ac)
  | [],_,_,j,hj=>by simp at hj
  | s :: r,hv,h,j,hj=>by
    unfold nC at h
    split at h
    · rename_i hf
      split at h
      · exact absurd h kD
      · cases j with
        | zero=>exact hf
        | succ j =>
          have:=qI h j (by simpa using hj);rw[List.length_append,List.length_singleton] at this
          rw[show hv.length+(j+1)=hv.length+1+j by omega];exact this
    · exact absurd h kD
theorem d4 {inp:Int}{l:List Stp}{os:List Int}(h:be inp l os=0):(∀ k,k<l.length→Formed inp k (l.getD k ac))∧iH l.length os∧0≤inp∧inp≤1000∧l.length≤65536∧os.length≤300:=by
  unfold be at h
  split at h
  · rename_i h1
    split at h
    · rename_i h2
      split at h
      · rename_i h3
        exact ⟨fun k hk=>by have:=qI h2 k hk;simpa using this,h3,h1⟩
      · exact absurd h kD
    · rename_i h2;exact absurd h h2
  · exact absurd h kD
def dU (sm:Bool)(inp:Int)(l:List Stp)(os:List Int)(at_:List Rat):Int:=if be inp l os=0 then (if (at_.length:Int)=inp then bN sm l at_ l.length else 5) else 1
def gj (sm:Bool)(inp:Int)(l:List Stp)(os:List Int)(at_:List Rat):List Rat:=if dU sm inp l os at_=0 then dV (aU l at_ l.length) os else []
section
variable {sm:Bool} {inp:Int} {l:List Stp} {os:List Int} {at_:List Rat}
theorem Ga (h:be inp l os≠0):dU sm inp l os at_=1∧gj sm inp l os at_=[]:=by
 have e:dU sm inp l os at_=1:=if_neg h;exact ⟨e,by unfold gj;rw[if_neg (by rw[e];decide)]⟩
theorem Gc (h:be inp l os=0)(h2:(at_.length:Int)≠inp):dU sm inp l os at_=5∧gj sm inp l os at_=[]:=by
 have e:dU sm inp l os at_=5:=by unfold dU;rw[if_pos h,if_neg h2]
 exact ⟨e,by unfold gj;rw[if_neg (by rw[e];decide)]⟩
theorem Gg (h:be inp l os=0)(h2:(at_.length:Int)=inp)(h3:bN sm l at_ l.length≠0):dU sm inp l os at_=bN sm l at_ l.length∧gj sm inp l os at_=[]:=by
 have e:dU sm inp l os at_=bN sm l at_ l.length:=by unfold dU;rw[if_pos h,if_pos h2]
 exact ⟨e,by unfold gj;rw[if_neg (by rw[e];exact h3)]⟩
theorem GE (h:be inp l os=0)(h2:(at_.length:Int)=inp)(h3:bN sm l at_ l.length=0):dU sm inp l os at_=0∧gj sm inp l os at_=dV (bR sm l at_) os:=by
 have e:dU sm inp l os at_=0:=by unfold dU;rw[if_pos h,if_pos h2,h3]
 exact ⟨e,by unfold gj bR;rw[if_pos e,if_pos h3]⟩
end
theorem qN (sm sb:Bool)(hsb:sb=sm)(inp:Int)(A:Option Addr)(c:Nat)(l:List Stp)(O:Option Addr)(d:Nat)(os:List Int)(at_:List Rat)(X:Option Addr)(cX:Nat)(hF:∀ k,k<l.length→Formed inp k (l.getD k ac))(hl:l.length≤65536)(hat:(at_.length:Int)=inp)(hq:∀ i,LQ 1 (l.getD i ac).q)(hB:∀ k,k≤l.length→bN sm l at_ k=0→∀ j,LQ 1000000 ((aU l at_ k).getD j 0))(w:World)(h:Hp)(g:G w h)(hA:SlO 9 fu ac h A l)(hO:Si O os h)(hX:Sq X at_ h)(tb:Tab h):CR 76 #[.agg #[iV inp,.slice A ((l).length) c,.slice O ((os).length) d],.slice X at_.length cX,.bool sb] w h (fun v h1=>∃ A c,v=.tuple #[.slice A (bR sm l at_).length c,iV (bN sm l at_ l.length)]∧(bR sm l at_).length≤c∧Sq A (bR sm l at_) h1):=by
 have hs:=(((((sS g).aS hA).aS hO).aS hX).aB tb);refine go Tryz.func76 [(0,.agg #[iV inp,qS A ((l).length) c,qS O ((os).length) d]),(1,qS X at_.length cX),(2,.bool sb)] rfl (aE (lA 3 40 ([iV inp,qS A ((l).length) c,qS O ((os).length) d]) hs (fun b1 w2 h3 hs=>lL hs [.v 6 (sZ),.v 7 (iV 0)] (aT (lL hs [.v 15 (qP b1 1),.o 16 (qS A ((l).length) c) 0 1 1,.v 17 (nV ((l).length))] (lK 18 28 ((l).length) 5 56 (.agg #[qF,uV 0,eS,uV 0,eS]) qc 0 hs (fun b4 w5 h6 hs=>?_)))))));have hl7:(List.replicate ((l).length) 0).length=((l).length):=by simp
 refine lL hs [.m 8 18] (af (aa hs [.v 19 (qP b1 1),.o 20 (qS A ((l).length) c) 1 1 1,.v 21 (nV ((l).length)),.v 22 (iV 0)] (bj ?_)));refine bx _ (CG.loop (fun μ_ Γ w_=>∃ (k:Nat) (L:List Rat) (h_:Hp),μ_=l.length-k∧Γ=[(1,qS X at_.length cX),(2,.bool sb),(8,qS (sB b4) ((l).length) ((l).length)),(20,qS A ((l).length) c),(21,nV ((l).length)),(22,nV k)]∧SS w h w_ h_ [⟨b4,28,(L).flatMap qc⟩,⟨b1,40,[iV inp,qS A ((l).length) c,qS O ((os).length) d]⟩] [] [fun h_=>Tab h_,Sq X at_,Si O os,fun h_=>SlO 9 fu ac h_ A l]∧k≤l.length∧L.length=l.length∧(∀ j,L.getD j 0=(aU l at_ k).getD j 0)∧bN sm l at_ k=0) _ ⟨0,List.replicate l.length (0:Rat),h6,rfl,rfl,hs.to _ _,Nat.zero_le _,(by simp),(fun j=>by rw[eD];rfl),rfl⟩ ?_);rintro _ _ w8 ⟨k,L,h9,hm10,rfl,hs,hk,hLl,hLv,hter⟩;have hLb:∀ j,LQ 1000000 (L.getD j 0):=fun j=>by rw[hLv j];exact hB k hk hter j
 refine aE ?_;cases zb:(decide ((k:Int)<(((l).length:Nat):Int)))
 ·
  have zi:=oF zb;refine lB 23 zb (af (cM (CG.exit ?_)))
  show CG _ _ _ _ _ _ _ _
  refine aa hs [.m 69 8,.m 6 69,.v 7 (iV 0)] (lN (kX ?_));have hkn:k=l.length:=by omega
  rw[hkn] at hLv hter
  have hvl:bR sm l at_=L:=by unfold bR;rw[if_pos hter];exact (gK (by rw[d8,hLl]) hLv).symm
  obtain ⟨_,hs,sg13,lo14,bc15⟩:=hs.pub 0;replace hs:=(hs.to [⟨b1,40,[iV inp,qS A ((l).length) c,qS O ((os).length) d]⟩] []).aS (SlO.of_flat (sz:=5) (f:=qc) (d:=0) (b:=b4) (o:=0) (l:=L) (fun _=>rfl) sg13);exact hs.ret [] (.tuple #[qS (sB b4) ((l).length) ((l).length),iV 0]) (by rw[hter,hvl,hLl];exact ⟨_,_,rfl,nR _,hs.f.1⟩)
 have zi:=oT zb;refine lB 23 zb (af (bS (cK (cQ (kZ (aa hs [.m 24 22] (lX 25 A ((l).length) c 9 (k:Nat) k ((hs.f.r.2.1).ok oM) ?_)))))));refine lH 26 (sX (l.getD k ac)) hs ((hs.f.r.2.1).el k oM) (lA 10 135 ([iV 0,iV 0,iV 0,iV 0,qF,uV 0,eS,uV 0,eS]) hs (fun za _ zq hs=>lL hs [.m 9 24] (lP 0 0 (sC (l.getD k ac)) hs (fun _ hs=>af (aE ?_)))));have fk:=hF k oM;obtain ⟨f0,f1,f2,f3,f4,f5,f6⟩:=fk
 dsimp only[dS] at f1 f2
 have hac:=aG (l.getD k ac).op;refine lL hs [.v 27 (pB za),.o 28 (iV ((l.getD k ac).op)) 0 0 1] ?_;cases zc:(((l.getD k ac).op:Int) == (2:Int))
 ·
  have zj:=ah zc;refine lB 29 zc (aj (cK (cQ ?_)));have hsr:=hs;refine jd 12 [⟨10,11,.cells (List.toArray [qF,uV 0,eS,uV 0,eS]) 28 (0,0)⟩,⟨11,12,.cells (List.toArray [qF,uV 0,eS,uV 0,eS]) 28 (0,0)⟩] [] mixed hs (bn (ee kR (fun _ _=>by kernel_rfl)) (bn (ee kR (fun _ _=>by kernel_rfl)) aq)) (eV 0 38 (qS (sB b4) ((l).length) ((l).length)) (eV 1 39 (qP za 1) (eO 2 40 [(0,1,1)] (iV ((l.getD k ac).a)) hs (eX 3 41 (sB b4) ((l).length) ((l).length) 5 ((l.getD k ac).a) ((l.getD k ac).a.toNat) rfl (HY 4 42 1 L qc 5 0 ((l.getD k ac).a.toNat) (qv ((L).getD ((l.getD k ac).a.toNat) 0)) hsr hs oM (eV 5 43 (qS (sB b4) ((l).length) ((l).length)) (eV 6 44 (qP za 2) (gZ 7 45 [(0,2,1)] (iV ((l.getD k ac).b)) hsr hs (eX 8 46 (sB b4) ((l).length) ((l).length) 5 ((l.getD k ac).b) ((l.getD k ac).b.toNat) rfl (HY 9 47 1 L qc 5 0 ((l.getD k ac).b.toNat) (qv ((L).getD ((l.getD k ac).b.toNat) 0)) hsr hs oM (xD hsr hs 28 [qF,uV 0,eS,uV 0,eS] 28 [qF,uV 0,eS,uV 0,eS] (fun _ _ zl zm hz26 hz27 hs=>tP 12 0 0 (qc ((L).getD ((l.getD k ac).a.toNat) 0)) hs (fun _ hs=>?_) (hz:=fC hz26)))))))))))));refine tP 13 1 0 (qc ((L).getD ((l.getD k ac).b.toNat) 0)) hs (fun _ hs=>?_) (hz:=fC hz27);refine tS (lL hs [.o 49 (sX (l.getD k ac)) 2 0 9,.o 50 (qv ((L).getD ((l.getD k ac).a.toNat) 0)) 0 0 5,.o 51 (qv ((L).getD ((l.getD k ac).b.toNat) 0)) 1 0 5] (ag 52 hs (Ex (l.getD k ac) (L.getD (l.getD k ac).a.toNat 0) (L.getD (l.getD k ac).b.toNat 0) 1000000 oM (hLb _) (hLb _) (hq k) oM oM oM _ _ hs.g hs.f.1) (fun _ _ hs=>lL hs [.m 48 52,.v 53 (qv (mZ (l.getD k ac).op (l.getD k ac).n (l.getD k ac).q (L.getD (l.getD k ac).a.toNat 0) (L.getD (l.getD k ac).b.toNat 0))),.v 54 (.bool (decide (mF (l.getD k ac).op (l.getD k ac).n (L.getD (l.getD k ac).a.toNat 0) (L.getD (l.getD k ac).b.toNat 0))))] (lA 13 28 ([qF,uV 0,eS,uV 0,eS]) hs (fun zd _ zs hs=>lP 0 0 (qc (mZ (l.getD k ac).op (l.getD k ac).n (l.getD k ac).q (L.getD (l.getD k ac).a.toNat 0) (L.getD (l.getD k ac).b.toNat 0))) hs (fun _ hs=>lL hs [.m 14 54] (af (aa hs [.m 55 14] ?_))))))));cases zf:(!(decide (mF (l.getD k ac).op (l.getD k ac).n (L.getD (l.getD k ac).a.toNat 0) (L.getD (l.getD k ac).b.toNat 0))))
  ·
   refine lB 56 zf (aj (cK (cQ (aE ?_))));have hok_:mF (l.getD k ac).op (l.getD k ac).n (L.getD (l.getD k ac).a.toNat 0) (L.getD (l.getD k ac).b.toNat 0):=by simpa using ‹(!decide (mF (l.getD k ac).op (l.getD k ac).n (L.getD (l.getD k ac).a.toNat 0) (L.getD (l.getD k ac).b.toNat 0)))=false›
   rcases EZ (sb) with ze|ze
   ·
    refine lB 57 ze (lL hs [.m 58 57] (lG 59 ?_));refine lG 60 (lG 61 (lG 62 (lL hs [.v 63 qF] (lN (bx [(1,qS X at_.length cX),(2,.bool sb),(8,qS (sB b4) ((l).length) ((l).length)),(20,qS A ((l).length) c),(21,nV ((l).length)),(22,nV k),(9,nV k),(13,pB zd),(63,qF)] ?_)))));refine cM (cK (kQ ?_));have hnk_:¬(sm=true∧k9 (l.getD k ac).op (L.getD (l.getD k ac).a.toNat 0) (L.getD (l.getD k ac).b.toNat 0)):=by first|exact fun h_=>absurd h_.2 (oF ‹decide (k9 (l.getD k ac).op (L.getD (l.getD k ac).a.toNat 0) (L.getD (l.getD k ac).b.toNat 0))=false›)|exact fun h_=>absurd h_.1 (by rw[←hsb,‹sb=false›];decide)
    refine lL hs [.m 64 8,.m 65 9,.o 66 (qv (mZ (l.getD k ac).op (l.getD k ac).n (l.getD k ac).q (L.getD (l.getD k ac).a.toNat 0) (L.getD (l.getD k ac).b.toNat 0))) 0 0 5] (lX 67 (sB b4) ((l).length) ((l).length) 5 (k:Nat) k rfl ?_);refine lW 4 L qc 5 k (mZ (l.getD k ac).op (l.getD k ac).n (l.getD k ac).q (L.getD (l.getD k ac).a.toNat 0) (L.getD (l.getD k ac).b.toNat 0)) hs oM (fun _ hs=>?_);have zn:((L).set k (mZ (l.getD k ac).op (l.getD k ac).n (l.getD k ac).q (L.getD (l.getD k ac).a.toNat 0) (L.getD (l.getD k ac).b.toNat 0))).length=((l).length):=by rw[List.length_set];exact hLl
    replace hs:=hs.to [⟨zd,28,qc (mZ (l.getD k ac).op (l.getD k ac).n (l.getD k ac).q (L.getD (l.getD k ac).a.toNat 0) (L.getD (l.getD k ac).b.toNat 0))⟩,⟨zl,28,qc ((L).getD ((l.getD k ac).a.toNat) 0)⟩,⟨zm,28,qc ((L).getD ((l.getD k ac).b.toNat) 0)⟩,⟨za,135,sC (l.getD k ac)⟩,⟨b4,28,((L).set k (mZ (l.getD k ac).op (l.getD k ac).n (l.getD k ac).q (L.getD (l.getD k ac).a.toNat 0) (L.getD (l.getD k ac).b.toNat 0))).flatMap qc⟩,⟨b1,40,[iV inp,qS A ((l).length) c,qS O ((os).length) d]⟩] [];refine lN (kQ (bB 68 ((k:Nat)+1) (k+1) ?_));refine lL hs [.m 22 68] (lD ?_);intro a_ ka;replace hs:=hs.drop 4 0;refine ⟨_,_,?_,⟨k+1,(L).set k (mZ (l.getD k ac).op (l.getD k ac).n (l.getD k ac).q (L.getD (l.getD k ac).a.toNat 0) (L.getD (l.getD k ac).b.toNat 0)),zs,rfl,rfl,hs.to _ _,oM,zn,(kw oM hLv (by unfold oN mZ;rw[if_neg (show ¬(l.getD k ac).op=2 by omega),if_pos hok_])),(je hter hLv (vw hok_ hnk_))⟩,ka.to _ kR⟩
    omega
   refine lB 57 ze (lL hs [.m 58 57,.o 59 (sX (l.getD k ac)) 3 0 9,.o 60 (qv ((L).getD ((l.getD k ac).a.toNat) 0)) 1 0 5,.o 61 (qv ((L).getD ((l.getD k ac).b.toNat) 0)) 2 0 5] (ag 62 hs (AT (l.getD k ac) (L.getD (l.getD k ac).a.toNat 0) (L.getD (l.getD k ac).b.toNat 0) 1000000 oM (hLb _) (hLb _) _ _ hs.g) (fun _ zt hs=>?_)));cases zg:(decide (k9 (l.getD k ac).op (L.getD (l.getD k ac).a.toNat 0) (L.getD (l.getD k ac).b.toNat 0)))
   ·
    have zk:=oF zg;refine lL hs [.v 63 qF] (lN (bx [(1,qS X at_.length cX),(2,.bool sb),(8,qS (sB b4) ((l).length) ((l).length)),(20,qS A ((l).length) c),(21,nV ((l).length)),(22,nV k),(9,nV k),(13,pB zd),(63,qF)] ?_));refine cM (cK (kQ ?_));have hnk_:¬(sm=true∧k9 (l.getD k ac).op (L.getD (l.getD k ac).a.toNat 0) (L.getD (l.getD k ac).b.toNat 0)):=by first|exact fun h_=>absurd h_.2 (oF ‹decide (k9 (l.getD k ac).op (L.getD (l.getD k ac).a.toNat 0) (L.getD (l.getD k ac).b.toNat 0))=false›)|exact fun h_=>absurd h_.1 (by rw[←hsb,‹sb=false›];decide)
    refine lL hs [.m 64 8,.m 65 9,.o 66 (qv (mZ (l.getD k ac).op (l.getD k ac).n (l.getD k ac).q (L.getD (l.getD k ac).a.toNat 0) (L.getD (l.getD k ac).b.toNat 0))) 0 0 5] (lX 67 (sB b4) ((l).length) ((l).length) 5 (k:Nat) k rfl ?_);refine lW 4 L qc 5 k (mZ (l.getD k ac).op (l.getD k ac).n (l.getD k ac).q (L.getD (l.getD k ac).a.toNat 0) (L.getD (l.getD k ac).b.toNat 0)) hs oM (fun _ hs=>?_);have zo:((L).set k (mZ (l.getD k ac).op (l.getD k ac).n (l.getD k ac).q (L.getD (l.getD k ac).a.toNat 0) (L.getD (l.getD k ac).b.toNat 0))).length=((l).length):=by rw[List.length_set];exact hLl
    replace hs:=hs.to [⟨zd,28,qc (mZ (l.getD k ac).op (l.getD k ac).n (l.getD k ac).q (L.getD (l.getD k ac).a.toNat 0) (L.getD (l.getD k ac).b.toNat 0))⟩,⟨zl,28,qc ((L).getD ((l.getD k ac).a.toNat) 0)⟩,⟨zm,28,qc ((L).getD ((l.getD k ac).b.toNat) 0)⟩,⟨za,135,sC (l.getD k ac)⟩,⟨b4,28,((L).set k (mZ (l.getD k ac).op (l.getD k ac).n (l.getD k ac).q (L.getD (l.getD k ac).a.toNat 0) (L.getD (l.getD k ac).b.toNat 0))).flatMap qc⟩,⟨b1,40,[iV inp,qS A ((l).length) c,qS O ((os).length) d]⟩] [];refine lN (kQ (bB 68 ((k:Nat)+1) (k+1) ?_));refine lL hs [.m 22 68] (lD ?_);intro a_ ka;replace hs:=hs.drop 4 0;refine ⟨_,_,?_,⟨k+1,(L).set k (mZ (l.getD k ac).op (l.getD k ac).n (l.getD k ac).q (L.getD (l.getD k ac).a.toNat 0) (L.getD (l.getD k ac).b.toNat 0)),zt,rfl,rfl,hs.to _ _,oM,zo,(kw oM hLv (by unfold oN mZ;rw[if_neg (show ¬(l.getD k ac).op=2 by omega),if_pos hok_])),(je hter hLv (vw hok_ hnk_))⟩,ka.to _ kR⟩
    omega
   have zk:=oT zg;refine lL hs [.v 63 qT] (lN (bx [(1,qS X at_.length cX),(2,.bool sb),(8,qS (sB b4) ((l).length) ((l).length)),(20,qS A ((l).length) c),(21,nV ((l).length)),(22,nV k),(9,nV k),(13,pB zd),(63,qT)] ?_));refine bS (aE ?_);have hsm_:sm=true:=by rw[←hsb];assumption
   have hkn_:k9 (l.getD k ac).op (L.getD (l.getD k ac).a.toNat 0) (L.getD (l.getD k ac).b.toNat 0):=oT ‹decide (k9 (l.getD k ac).op (L.getD (l.getD k ac).a.toNat 0) (L.getD (l.getD k ac).b.toNat 0))=true›;refine lL hs [.v 6 (sZ),.v 7 (iV 7)] (lN (kX ?_));have hend:bN sm l at_ l.length=7:=ku hter oM hLv (Bu oM hok_ hsm_ hkn_) kD;have hvl:bR sm l at_=[]:=by unfold bR;rw[if_neg (by rw[hend];decide)]
   exact hs.ret [] (.tuple #[sZ,iV 7]) (by rw[hend,hvl];exact ⟨none,0,rfl,nR _,SlO.nil⟩)
  refine lB 56 zf (ao (aE ?_));have hnok_:¬mF (l.getD k ac).op (l.getD k ac).n (L.getD (l.getD k ac).a.toNat 0) (L.getD (l.getD k ac).b.toNat 0):=by simpa using ‹(!decide (mF (l.getD k ac).op (l.getD k ac).n (L.getD (l.getD k ac).a.toNat 0) (L.getD (l.getD k ac).b.toNat 0)))=true›
  refine lL hs [.v 6 (sZ),.v 7 (iV 6)] (lN (kX ?_));have hend:bN sm l at_ l.length=6:=ku hter oM hLv (vY oM hnok_) kD;have hvl:bR sm l at_=[]:=by unfold bR;rw[if_neg (by rw[hend];decide)]
  exact hs.ret [] (.tuple #[sZ,iV 6]) (by rw[hend,hvl];exact ⟨none,0,rfl,nR _,SlO.nil⟩)
 have zj:=eq_of_beq zc;refine lB 29 zc (ao (aa hs [.m 30 8,.m 31 9,.m 32 1,.v 33 (qP za 3),.o 34 (iV ((l.getD k ac).n)) 0 3 1] (lX 35 X at_.length cX 5 ((l.getD k ac).n) ((l.getD k ac).n.toNat) ((hs.f.2.1).ok oM) ?_)));refine lH 36 (qv (at_.getD ((l.getD k ac).n.toNat) 0)) hs ((hs.f.2.1).el ((l.getD k ac).n.toNat) oM) (lX 37 (sB b4) ((l).length) ((l).length) 5 (k:Nat) k rfl (lW 1 L qc 5 k (at_.getD ((l.getD k ac).n.toNat) 0) hs oM (fun _ hs=>?_)));have zp:((L).set k (at_.getD ((l.getD k ac).n.toNat) 0)).length=((l).length):=by rw[List.length_set];exact hLl
 replace hs:=hs.to [⟨za,135,sC (l.getD k ac)⟩,⟨b4,28,((L).set k (at_.getD ((l.getD k ac).n.toNat) 0)).flatMap qc⟩,⟨b1,40,[iV inp,qS A ((l).length) c,qS O ((os).length) d]⟩] [];refine lN (CG.exit ?_)
 show CG _ _ _ _ _ _ _ _
 refine kQ (bB 68 ((k:Nat)+1) (k+1) ?_);refine lL hs [.m 22 68] (lD ?_);intro a_ ka;replace hs:=hs.drop 1 0;refine ⟨_,_,?_,⟨k+1,(L).set k (at_.getD ((l.getD k ac).n.toNat) 0),zq,rfl,rfl,hs.to _ _,oM,zp,(kw oM hLv (by unfold oN;rw[if_pos (show (l.getD k ac).op=2 by omega)])),(je hter hLv (Cm oM))⟩,ka.to _ kR⟩
 omega
theorem BM (inp:Int)(A:Option Addr)(c:Nat)(l:List Stp)(O:Option Addr)(d:Nat)(os:List Int)(vs:List Rat)(V:Option Addr)(cV:Nat)(ho:os.length≤1000)(hO2:iH vs.length os)(w:World)(h:Hp)(g:G w h)(hA:SlO 9 fu ac h A l)(hO:Si O os h)(hV:Sq V vs h):CR 77 #[.agg #[iV inp,.slice A ((l).length) c,.slice O ((os).length) d],.slice V vs.length cV] w h (fun v h1=>∃ A c,v=.slice A (dV vs os).length c∧(dV vs os).length≤c∧Sq A (dV vs os) h1):=by
 have hs:=((((sS g).aS hA).aS hO).aS hV);refine go Tryz.func77 [(0,.agg #[iV inp,qS A ((l).length) c,qS O ((os).length) d]),(1,qS V vs.length cV)] rfl (aE (lA 2 40 ([iV inp,qS A ((l).length) c,qS O ((os).length) d]) hs (fun b1 w2 h3 hs=>lL hs [.v 4 (sZ)] (aT (lL hs [.v 8 (qP b1 2),.o 9 (qS O ((os).length) d) 0 2 1,.v 10 (nV ((os).length))] (lK 11 28 ((os).length) 5 56 (.agg #[qF,uV 0,eS,uV 0,eS]) qc 0 hs (fun b4 w5 h6 hs=>?_)))))));have hl7:(List.replicate ((os).length) 0).length=((os).length):=by simp
 refine lL hs [.m 5 11] (af (aa hs [.v 12 (qP b1 2),.o 13 (qS O ((os).length) d) 1 2 1,.v 14 (nV ((os).length)),.v 15 (iV 0)] (bj ?_)));refine bx _ (CG.loop (fun μ_ Γ w_=>∃ (k:Nat) (R:List Rat) (h_:Hp),μ_=os.length-k∧Γ=[(1,qS V vs.length cV),(4,sZ),(5,qS (sB b4) ((os).length) ((os).length)),(13,qS O ((os).length) d),(14,nV ((os).length)),(15,nV k)]∧SS w h w_ h_ [⟨b4,28,(R).flatMap qc⟩,⟨b1,40,[iV inp,qS A ((l).length) c,qS O ((os).length) d]⟩] [] [Sq V vs,Si O os,fun h_=>SlO 9 fu ac h_ A l]∧k≤os.length∧R.length=os.length∧(∀ j,j<k→R.getD j 0=vs.getD (os.getD j 0).toNat 0)) _ ⟨0,List.replicate os.length (0:Rat),h6,rfl,rfl,hs.to _ _,Nat.zero_le _,(by simp),fun j hj=>absurd hj (Nat.not_lt_zero j)⟩ ?_);rintro _ _ w8 ⟨k,R,h9,hm10,rfl,hs,hk,hRl,hRv⟩;have hok:=fun h0=>hO2 k h0
 refine aE ?_;cases za:(decide ((k:Int)<(((os).length:Nat):Int)))
 ·
  have zb:=oF za;refine lB 16 za (af (cM (CG.exit ?_)))
  show CG _ _ _ _ _ _ _ _
  refine aa hs [.m 28 5,.m 4 28] (lN (kX ?_));have hkn:k=os.length:=by omega
  have hpl:dV vs os=R:=(Ap oM (fun j hj=>hRv j oM)).symm;obtain ⟨_,hs,sg13,lo14,bc15⟩:=hs.pub 0;replace hs:=(hs.to [⟨b1,40,[iV inp,qS A ((l).length) c,qS O ((os).length) d]⟩] []).aS (SlO.of_flat (sz:=5) (f:=qc) (d:=0) (b:=b4) (o:=0) (l:=R) (fun _=>rfl) sg13);exact hs.ret [] (qS (sB b4) ((os).length) ((os).length)) (by rw[hpl,hRl];exact ⟨_,_,rfl,nR _,hs.f.1⟩)
 have zb:=oT za;refine lB 16 za (af (bS (cK (cQ (kZ (aa hs [.m 17 15] (lX 18 O ((os).length) d 1 (k:Nat) k ((hs.f.2.1).ok oM) ?_)))))));refine lH 19 (iV (os.getD k 0)) hs ((hs.f.2.1).el k oM) (lL hs [.m 6 17,.m 7 19] (lN (kQ (lL hs [.m 20 5,.m 21 6,.m 22 1,.m 23 7] (lX 24 V vs.length cV 5 (os.getD k 0) ((os.getD k 0).toNat) ((hs.f.1).ok oM) ?_)))));refine lH 25 (qv (vs.getD ((os.getD k 0).toNat) 0)) hs ((hs.f.1).el ((os.getD k 0).toNat) oM) (lX 26 (sB b4) ((os).length) ((os).length) 5 (k:Nat) k rfl (lW 0 R qc 5 k (vs.getD ((os.getD k 0).toNat) 0) hs oM (fun _ hs=>?_)));have zc:((R).set k (vs.getD ((os.getD k 0).toNat) 0)).length=((os).length):=by rw[List.length_set];exact hRl
 replace hs:=hs.to [⟨b4,28,((R).set k (vs.getD ((os.getD k 0).toNat) 0)).flatMap qc⟩,⟨b1,40,[iV inp,qS A ((l).length) c,qS O ((os).length) d]⟩] [];refine lN (kQ (bB 27 ((k:Nat)+1) (k+1) ?_));refine lL hs [.m 15 27] (lD ?_);intro a_ ka;refine ⟨_,_,?_,⟨k+1,(R).set k (vs.getD ((os.getD k 0).toNat) 0),h9,rfl,rfl,hs.to _ _,oM,zc,(fun j hj=>by rw[bY oM];split;(rename_i e;rw[e]);exact hRv j oM)⟩,ka.to _ kR⟩
 omega
theorem Hx (inp:Int)(A:Option Addr)(c:Nat)(l:List Stp)(O:Option Addr)(d:Nat)(os:List Int)(at_:List Rat)(X:Option Addr)(cX:Nat)(hl:l.length≤65536)(ho:os.length≤300)(hat2:at_.length≤1000000)(hq:∀ i,LQ 1 (l.getD i ac).q)(hB:be inp l os=0→(at_.length:Int)=inp→∀ k,k≤l.length→bN false l at_ k=0→∀ j,LQ 1000000 ((aU l at_ k).getD j 0))(w:World)(h:Hp)(g:G w h)(hA:SlO 9 fu ac h A l)(hO:Si O os h)(hX:Sq X at_ h)(tb:Tab h):CR 33 #[.agg #[iV inp,.slice A ((l).length) c,.slice O ((os).length) d],.slice X at_.length cX] w h (fun v h1=>∃ A c,v=.tuple #[.slice A (gj false inp l os at_).length c,iV (dU false inp l os at_)]∧(gj false inp l os at_).length≤c∧Sq A (gj false inp l os at_) h1):=by
 have hs:=(((((sS g).aS hA).aS hO).aS hX).aB tb);refine go Tryz.func33 [(0,.agg #[iV inp,qS A ((l).length) c,qS O ((os).length) d]),(1,qS X at_.length cX)] rfl (aE (lA 2 40 ([iV inp,qS A ((l).length) c,qS O ((os).length) d]) hs (fun b1 w2 h3 hs=>lL hs [.v 4 (sZ),.v 5 (iV 0)] (af (aa hs [.o 8 (.agg #[iV inp,qS A ((l).length) c,qS O ((os).length) d]) 0 0 3] (ag 9 hs (iB inp A c l O d os oM oM (fun i _=>hq i) _ _ hs.g hs.f.r.2.1 hs.f.r.1) (fun w4 h5 hs=>?_)))))));cases hb6:((be inp l os:Int) != (0:Int))
 ·
  have phb6:=aI hb6;refine lB 10 hb6 (aj (cK (cQ (aa hs [.m 11 1,.v 12 (nV at_.length),.v 13 (pB b1),.o 14 (iV inp) 0 0 1] ?_))));cases hb7:((at_.length:Int) != (inp:Int))
  ·
   have phb7:=aI hb7;refine lB 15 hb7 (aj (cK (aa hs [.o 17 (.agg #[iV inp,qS A ((l).length) c,qS O ((os).length) d]) 0 0 3,.m 18 1] ?_)));have hck:be inp l os=0:=by omega
   refine lC 19 hs (qN false false rfl inp A c l O d os at_ X cX (d4 hck).1 oM oM hq (hB hck oM) _ _ hs.g hs.f.r.2.1 hs.f.r.1 hs.f.2.1 hs.f.1) ?_;rintro _ w8 h9 hs ⟨Av,cv,rfl,hcv,hAv⟩;replace hs:=hs.aS hAv;refine lL hs [.m 16 19,.v 20 (qS Av ((bR false l at_).length) cv),.v 21 (iV (bN false l at_ l.length)),.m 6 20,.m 7 21] (af (aa hs [.m 22 7] ?_));cases za:((bN false l at_ l.length:Int) != (0:Int))
   ·
    have zb:=aI za;refine lB 23 za (aj (cK (aa hs [.o 25 (.agg #[iV inp,qS A ((l).length) c,qS O ((os).length) d]) 0 0 3,.m 26 6] ?_)));have hter:bN false l at_ l.length=0:=by omega
    have hvl:bR false l at_=aU l at_ l.length:=if_pos hter;refine lC 27 hs (BM inp A c l O d os (bR false l at_) Av cv oM (by rw[hvl,d8];exact (d4 hck).2.1) _ _ hs.g hs.f.q.1 hs.f.r.2.1 hs.f.1) ?_;rintro _ _ _ hs ⟨Ao,co,rfl,hco,hAo⟩;replace hs:=hs.aS hAo;exact lL hs [.m 4 27,.v 5 (iV 0)] (ae hs [] (.tuple #[qS Ao ((dV (bR false l at_) os).length) co,iV 0]) (by obtain ⟨e1,e2⟩:=GE (sm:=false) (inp:=inp) (l:=l) (os:=os) (at_:=at_) hck oM hter;rw[e1,e2];exact ⟨_,_,rfl,hco,hs.f.1⟩))
   have zb:=aJ za;exact lB 23 za (ao (aa hs [.m 24 7,.v 4 (sZ),.m 5 24] (ae hs [] (.tuple #[sZ,iV (bN false l at_ l.length)]) (by obtain ⟨e1,e2⟩:=Gg (sm:=false) (inp:=inp) (l:=l) (os:=os) (at_:=at_) hck oM oM;rw[e1,e2];exact ⟨none,0,rfl,nR _,SlO.nil⟩))))
  have phb7:=aJ hb7;exact lB 15 hb7 (ao (aa hs [.v 4 (sZ),.v 5 (iV 5)] (ae hs [] (.tuple #[sZ,iV 5]) (by obtain ⟨e1,e2⟩:=Gc (sm:=false) (inp:=inp) (l:=l) (os:=os) (at_:=at_) oM oM;rw[e1,e2];exact ⟨none,0,rfl,nR _,SlO.nil⟩))))
 have phb6:=aJ hb6;exact lB 10 hb6 (ao (aa hs [.v 4 (sZ),.v 5 (iV 1)] (ae hs [] (.tuple #[sZ,iV 1]) (by obtain ⟨e1,e2⟩:=Ga (sm:=false) (inp:=inp) (l:=l) (os:=os) (at_:=at_) oM;rw[e1,e2];exact ⟨none,0,rfl,nR _,SlO.nil⟩))))
theorem cF {c:Prop}[Decidable c]{a b:Rat}{k:Nat}(ha:c→LQ k a)(hb:¬c→LQ k b):LQ k (if c then a else b):=by
 by_cases h:c
 ·rw[if_pos h];exact ha h
 ·rw[if_neg h];exact hb h
theorem gY (l:List Stp)(at_:List Rat)(k:Nat):∀ n,k≤n→∀ j,j<k→(aU l at_ n).getD j 0=(aU l at_ k).getD j 0:=fun n hn=>by
  induction hn with
  | refl=>intro j _;rfl
  | @step n hn ih =>
    intro j hj;have hn':k≤n:=hn
    show (aU l at_ n++[_]).getD j 0=_
    rw[cG,d8,if_pos oM];exact ih j hj
theorem wc {l:List Stp}{at_ L:List Rat}(h:L=aU l at_ l.length){k j:Nat}(hj:j<k)(hk:k≤l.length):L.getD j 0=(aU l at_ k).getD j 0:=by rw[h];exact gY l at_ k _ hk j hj
theorem AY {sm:Bool}{l:List Stp}{at_:List Rat}{n:Nat}(h:bN sm l at_ n=0):∀ k,k<n→fN sm (l.getD k ac) (aU l at_ k)=0:=by
  induction n with
  | zero=>intro k hk;omega
  | succ n ih =>
    intro k hk
    have h2:bN sm l at_ n=0:=by
      refine Classical.byContradiction fun hn=>?_
      have:bN sm l at_ (n+1)=bN sm l at_ n:=kH hn 1;exact hn (by rw[←this];exact h)
    by_cases e:k=n
    · subst e
      have:bN sm l at_ (k+1)=fN sm (l.getD k ac) (aU l at_ k):=by show (if _=0 then _ else _)=_;rw[if_pos h2]
      rw[←this];exact h
    · exact ih h2 k oM
theorem E3 {inp:Int}{sm:Bool}{l:List Stp}{at_:List Rat}{k n:Nat}(h:bN sm l at_ n=0)(hk:k<n)(_:∀ k,k<l.length→Formed inp k (l.getD k ac)):(l.getD k ac).op≠2→mF (l.getD k ac).op (l.getD k ac).n ((aU l at_ k).getD (l.getD k ac).a.toNat 0) ((aU l at_ k).getD (l.getD k ac).b.toNat 0):=fun h2=>by
 have:=AY h k hk;refine Classical.byContradiction fun hn=>?_
 rw[vY h2 hn] at this
 exact absurd this kD
theorem Dw {l:List Stp}{at_ L:List Rat}{k:Nat}{s:Stp}(hL:L=aU l at_ l.length)(ho:s.op≠2→mF s.op s.n ((aU l at_ k).getD s.a.toNat 0) ((aU l at_ k).getD s.b.toNat 0))(h2:s.op≠2)(hk:k≤l.length)(ha:s.op=6∨s.op=8→s.a.toNat<k)(hb:s.op=6→s.b.toNat<k)(_:True:=trivial) :
  (s.op=6→L.getD s.b.toNat 0≠0)∧(s.op=8→s.n<0→L.getD s.a.toNat 0≠0):=by
 obtain ⟨h6,h8⟩:=ho h2;refine ⟨fun e=>?_,fun e e2=>?_⟩
 ·rw[wc hL (hb e) hk];exact h6 e
 ·rw[wc hL (ha (.inr e)) hk];exact h8 e e2
theorem CW {D:List Rat}{k B:Nat}{x:Rat}(h:∀ j,LQ B (D.getD j 0))(hx:LQ B x)(j:Nat):LQ B ((D.set k x).getD j 0):=by
 by_cases hk:k<D.length
 ·rw[bY hk];split
  ·exact hx
  ·exact h j
 ·rw[List.set_eq_of_length_le oM];exact h j
section
variable {inp:Int} {l:List Stp} {os:List Int} {at_ way:List Rat}
end
theorem nJ {b d:List Rat}{a:Nat}{y:Rat}(ha:a<b.length):∀ n,c4 (b.set a y) d n=c4 b d n+(if a<n then (y-b.getD a 0)*d.getD a 0 else 0)
  | 0=>by show (0:Rat)=0+_;rw[if_neg (Nat.not_lt_zero a)];grind
  | n+1=>by
    show c4 (b.set a y) d n+(b.set a y).getD n 0*d.getD n 0=(c4 b d n+b.getD n 0*d.getD n 0)+_
    rw[nJ ha n,bY ha]
    rcases Nat.lt_trichotomy a n with h|h|h
    · rw[if_neg (by omega:¬n=a),if_pos h,if_pos oM];grind
    · subst h;rw[if_pos rfl,if_neg (Nat.lt_irrefl _),if_pos oM];grind
    · rw[if_neg oM,if_neg oM,if_neg oM];grind
theorem fb {b d:List Rat}{a n:Nat}{y x:Rat}(ha:a<b.length)(hn:a<n)(hy:y=b.getD a 0+x):c4 (b.set a y) d n=c4 b d n+x*d.getD a 0:=by
 rw[nJ ha,if_pos hn,hy];grind
theorem jo (l:List Stp)(at_ way:List Rat)(k:Nat):∀ n,k≤n→∀ j,j<k→(en l at_ way n).getD j 0=(en l at_ way k).getD j 0:=fun n hn=>by
  induction hn with
  | refl=>intro j _;rfl
  | @step n hn ih =>
    intro j hj;have hn':k≤n:=hn
    show (en l at_ way n++[_]).getD j 0=_
    rw[cG,jw,if_pos oM];exact ih j hj
section
variable {l:List Stp} {at_ way bar g:List Rat} {k:Nat}
theorem jT (hk:k<l.length)(ho:EH k (l.getD k ac)):(en l at_ way l.length).getD k 0=m5 (l.getD k ac) way (aU l at_ l.length) (en l at_ way l.length):=by
 rw[jo l at_ way (k+1) l.length oM k oM]
 show (en l at_ way k++[_]).getD k 0=_
 rw[cG,jw,if_neg (Nat.lt_irrefl k),if_pos rfl]
 unfold m5
 split
 ·rfl
 ·obtain ⟨o1,o2,o3,_⟩:=ho
  by_cases h:0<cC (l.getD k ac).op
  ·rw[if_pos h,if_pos h,←gY l at_ k l.length oM _ (o1 h),←gY l at_ k l.length oM _ (o3 h),←jo l at_ way k l.length oM _ (o1 h)]
   by_cases h2:1<cC (l.getD k ac).op
   ·rw[if_pos h2,if_pos h2,←jo l at_ way k l.length oM _ (o2 h2)]
   ·rw[if_neg h2,if_neg h2]
  ·rw[if_neg h,if_neg h,if_neg oM,if_neg oM]
def Bk (l:List Stp)(at_:List Rat)(inp:Nat)(T:List Rat→Rat)(k:Nat)(bar g:List Rat):Prop :=
  ∀ way,c4 bar (en l at_ way l.length) k+c4 g way inp=T way
section
variable {inp:Nat} {T:List Rat→Rat} (B:Bk l at_ inp T (k+1) bar g) (hk:k<l.length)
include B
theorem Bk.skip (h0:bar.getD k 0=0):Bk l at_ inp T k bar g:=fun way=>by
 have:=B way
 change c4 bar _ k+bar.getD k 0*_+_=_ at this
 rw[h0] at this;rw[←this];grind
theorem Bk.step {x:Rat}(d:∀ way,(en l at_ way l.length).getD k 0=m5 (l.getD k ac) way (aU l at_ l.length) (en l at_ way l.length))(hx:x=bar.getD k 0):∀ way,c4 bar (en l at_ way l.length) k+x*m5 (l.getD k ac) way (aU l at_ l.length) (en l at_ way l.length)+c4 g way inp=T way:=fun way=>by
 have:=B way
 change c4 bar _ k+bar.getD k 0*_+_=_ at this
 rw[d way] at this
 rw[hx];exact this
include hk
theorem Bk.name (ho:EH k (l.getD k ac))(h2:(l.getD k ac).op=2)(hg:(l.getD k ac).n.toNat<g.length)(hi:(l.getD k ac).n.toNat<inp):Bk l at_ inp T k bar (g.set (l.getD k ac).n.toNat (g.getD (l.getD k ac).n.toNat 0+bar.getD k 0)):=fun way=>by
 have:=B.step (fun way=>jT hk ho) rfl way
 unfold m5 at this
 rw[if_pos h2] at this
 rw[fb hg hi rfl,←this];grind
theorem Bk.num (ho:EH k (l.getD k ac))(h2:(l.getD k ac).op≠2)(ha:¬0<cC (l.getD k ac).op):Bk l at_ inp T k bar g:=fun way=>by
 have:=B.step (fun way=>jT hk ho) rfl way
 unfold m5 at this
 rw[if_neg h2,if_neg ha,if_neg oM] at this
 rw[←this];grind
theorem Bk.one {x:Rat}(ho:EH k (l.getD k ac))(h2:(l.getD k ac).op≠2)(ha:0<cC (l.getD k ac).op)(hb:¬1<cC (l.getD k ac).op)(hl:k≤bar.length)
  (hx:x=nj (l.getD k ac).op (l.getD k ac).n ((aU l at_ l.length).getD (l.getD k ac).a.toNat 0) ((aU l at_ l.length).getD (l.getD k ac).b.toNat 0)) :
  Bk l at_ inp T k (bar.set (l.getD k ac).a.toNat (bar.getD (l.getD k ac).a.toNat 0+bar.getD k 0*x)) g:=fun way=>by
 have:=B.step (fun way=>jT hk ho) rfl way;have oa:=ho.1 ha
 unfold m5 at this
 rw[if_neg h2,if_pos ha,if_neg hb,←hx] at this
 rw[fb oM oa rfl,←this];grind
theorem Bk.two {x y:Rat}(ho:EH k (l.getD k ac))(h2:(l.getD k ac).op≠2)(hb:1<cC (l.getD k ac).op)(hl:k<bar.length)
  (hx:x=nj (l.getD k ac).op (l.getD k ac).n ((aU l at_ l.length).getD (l.getD k ac).a.toNat 0) ((aU l at_ l.length).getD (l.getD k ac).b.toNat 0))
  (hy:y=nu (l.getD k ac).op ((aU l at_ l.length).getD (l.getD k ac).a.toNat 0) ((aU l at_ l.length).getD (l.getD k ac).b.toNat 0)){b1:List Rat}
  (h1:b1=bar.set (l.getD k ac).a.toNat (bar.getD (l.getD k ac).a.toNat 0+bar.getD k 0*x)) :
  Bk l at_ inp T k (b1.set (l.getD k ac).b.toNat (b1.getD (l.getD k ac).b.toNat 0+b1.getD k 0*y)) g:=fun way=>by
 have:=B.step (fun way=>jT hk ho) rfl way;have oa:=ho.1 oM;have ob:=ho.2.1 hb
 unfold m5 at this
 rw[if_neg h2,if_pos oM,if_pos hb,←hx,←hy] at this
 have e:b1.getD k 0=bar.getD k 0:=by rw[h1,bY oM,if_neg oM]
 rw[fb (by rw[h1,List.length_set];omega) ob rfl,e,h1,fb oM oa rfl,←this];grind
end
end
def o8 (f:Nat→Nat)(a x:Nat):Nat→Nat:=fun j=>if j=a then f a+x else f j
def iP (wt f:Nat→Nat):Nat→Nat
  | 0=>0
  | k+1=>iP wt f k+f k*wt k
theorem g6 (wt f:Nat→Nat)(a x:Nat):∀ k,iP wt (o8 f a x) k=iP wt f k+(if a<k then x*wt a else 0)
  | 0=>by rw[if_neg (Nat.not_lt_zero a)];rfl
  | k+1=>by
    show iP wt (o8 f a x) k+o8 f a x k*wt k=iP wt f k+f k*wt k+_
    rw[g6 wt f a x k];unfold o8
    rcases Nat.lt_trichotomy a k with h|h|h
    · rw[if_pos h,if_neg (by omega:¬k=a),if_pos oM];omega
    · subst h;rw[if_neg (Nat.lt_irrefl _),if_pos rfl,if_pos oM,Nat.add_mul];omega
    · rw[if_neg oM,if_neg oM,if_neg oM];omega
theorem ng (wt f:Nat→Nat):∀ k,(∀ j,j<k→1≤wt j)→∀ j,j<k→f j≤iP wt f k
  | k+1,hw,j,hj=>by
    show f j≤iP wt f k+f k*wt k
    by_cases e:j=k
    · subst e;have:=Nat.mul_le_mul_left (f j) (hw j hj);omega
    · have:=ng wt f k (fun i hi=>hw i oM) j oM;omega
def Wt (l:List Stp)(wt:Nat→Nat):Prop:=∀ k,k<l.length→1≤wt k∧(0<cC (l.getD k ac).op→wt (l.getD k ac).a.toNat≤wt k)∧(1<cC (l.getD k ac).op→wt (l.getD k ac).a.toNat+wt (l.getD k ac).b.toNat≤wt k)
def kT (wt sg:Nat→Nat):Nat→Nat:=iP wt (fun k=>sg k+2)
def Bz (wt sg:Nat→Nat)(C:Nat)(k:Nat)(bar g:List Rat):Prop :=
  ∃ f:Nat→Nat,∃ E,(∀ j,LQ (f j) (bar.getD j 0))∧(∀ j,LQ E (g.getD j 0))∧E+iP wt f k+kT wt sg k≤C
section
variable {l:List Stp} {bar g:List Rat} {wt sg:Nat→Nat} {C k:Nat}
theorem mH {f:Nat→Nat}{a x:Nat}{y:Rat}(h:∀ j,LQ (f j) (bar.getD j 0))(hy:LQ (f a+x) y)(j:Nat):LQ (o8 f a x j) ((bar.set a y).getD j 0):=by
 unfold o8
 by_cases ha:a<bar.length
 ·rw[bY ha]
  by_cases e:j=a
  ·rw[if_pos e,if_pos e];exact hy
  ·rw[if_neg e,if_neg e];exact h j
 ·rw[List.set_eq_of_length_le oM]
  by_cases e:j=a
  ·rw[if_pos e,e];exact (h a).mono oM
  ·rw[if_neg e];exact h j
theorem Bz.lb (Z:Bz wt sg C k bar g)(hw:∀ j,j<k→1≤wt j):∀ j,j<k→LQ C (bar.getD j 0):=fun j hj=>by
 obtain ⟨f,E,hf,hE,hC⟩:=Z;have:=ng wt f k hw j hj;exact (hf j).mono oM
theorem Bz.lg (Z:Bz wt sg C k bar g):∀ j,LQ C (g.getD j 0):=fun j=>by
 obtain ⟨f,E,hf,hE,hC⟩:=Z;exact (hE j).mono oM
theorem lZ (wt sg:Nat→Nat)(k:Nat):kT wt sg (k+1)=kT wt sg k+(sg k+2)*wt k:=rfl
theorem Bz.skip (Z:Bz wt sg C (k+1) bar g):Bz wt sg C k bar g:=by
 obtain ⟨f,E,hf,hE,hC⟩:=Z;rw[lZ] at hC
 change E+(iP wt f k+_)+_≤_ at hC
 exact ⟨f,E,hf,hE,by omega⟩
theorem Bz.mul (Z:Bz wt sg C (k+1) bar g)(hw:1≤wt k){x:Rat}(hx:LQ (sg k) x):LQ C (bar.getD k 0*x):=by
 obtain ⟨f,E,hf,hE,hC⟩:=Z;rw[lZ] at hC
 change E+(iP wt f k+f k*wt k)+_≤_ at hC
 have h1:=Nat.mul_le_mul_left (f k) hw;have h2:=Nat.mul_le_mul_left (sg k+2) hw;exact ((hf k).mul hx).mono oM
theorem Bz.name (Z:Bz wt sg C (k+1) bar g)(hw:1≤wt k)(n:Nat):Bz wt sg C k bar (g.set n (g.getD n 0+bar.getD k 0)):=by
 obtain ⟨f,E,hf,hE,hC⟩:=Z;rw[lZ] at hC
 change E+(iP wt f k+f k*wt k)+_≤_ at hC
 have h1:=Nat.mul_le_mul_left (f k) hw;have h2:=Nat.mul_le_mul_left (sg k+2) hw;exact ⟨f,E+f k+1,hf,CW (fun j=>(hE j).mono oM) ((hE n).add (hf k)),by omega⟩
theorem Bz.one (Z:Bz wt sg C (k+1) bar g){a:Nat}(ha:wt a≤wt k)(hak:a<k){x:Rat}(hx:LQ (sg k) x):Bz wt sg C k (bar.set a (bar.getD a 0+bar.getD k 0*x)) g:=by
 obtain ⟨f,E,hf,hE,hC⟩:=Z;rw[lZ] at hC
 change E+(iP wt f k+f k*wt k)+_≤_ at hC
 refine ⟨o8 f a (f k+sg k+1),E,mH hf (((hf a).add ((hf k).mul hx)).mono oM),hE,?_⟩;rw[g6,if_pos hak];have h1:=Nat.mul_le_mul_left (f k+sg k+1) ha;rw[show (f k+sg k+1)*wt k=f k*wt k+(sg k+1)*wt k by rw[show f k+sg k+1=f k+(sg k+1) by omega,Nat.add_mul]] at h1
 rw[Nat.add_mul (sg k) 2] at hC
 rw[Nat.add_mul (sg k) 1] at h1
 omega
theorem Bz.two (Z:Bz wt sg C (k+1) bar g){a b:Nat}(hw:1≤wt k)(hws:∀ j,j<k→1≤wt j)(ha:wt a+wt b≤wt k)(hak:a<k)(hbk:b<k)(hl:k<bar.length){x y:Rat}(hx:LQ (sg k) x)(hy:LQ (sg k) y){b1:List Rat}(h1:b1=bar.set a (bar.getD a 0+bar.getD k 0*x)) :
  LQ C (b1.getD k 0)∧LQ C (b1.getD b 0)∧LQ C (b1.getD k 0*y)∧Bz wt sg C k (b1.set b (b1.getD b 0+b1.getD k 0*y)) g:=by
 have e:b1.getD k 0=bar.getD k 0:=by rw[h1,bY oM,if_neg oM]
 have z1:=Z.mul hw hy
 have z0:LQ C (bar.getD k 0):=by
  obtain ⟨f,E,hf,hE,hC⟩:=Z
  change E+(iP wt f k+f k*wt k)+_≤_ at hC
  have h1:=Nat.mul_le_mul_left (f k) hw;exact (hf k).mono oM
 rw[e];obtain ⟨f,E,hf,hE,hC⟩:=Z;rw[lZ] at hC
 change E+(iP wt f k+f k*wt k)+_≤_ at hC
 have hf1:∀ j,LQ (o8 f a (f k+sg k+1) j) (b1.getD j 0):=by
  rw[h1];exact mH hf (((hf a).add ((hf k).mul hx)).mono oM)
 have hp:iP wt (o8 (o8 f a (f k+sg k+1)) b (f k+sg k+1)) k≤iP wt f k+(f k*wt k+(sg k+1)*wt k):=by
  rw[g6,g6,if_pos hak,if_pos hbk];have h2:=Nat.mul_le_mul_left (f k+sg k+1) ha;rw[Nat.mul_add,show (f k+sg k+1)*wt k=f k*wt k+(sg k+1)*wt k by rw[show f k+sg k+1=f k+(sg k+1) by omega,Nat.add_mul]] at h2
  omega
 have hp1:o8 f a (f k+sg k+1) b≤iP wt f k+(f k*wt k+(sg k+1)*wt k):=by
  have h3:=ng wt (o8 f a (f k+sg k+1)) k hws b hbk;rw[g6,if_pos hak] at h3
  have h2:=Nat.mul_le_mul_left (f k+sg k+1) (show wt a≤wt k by omega);rw[show (f k+sg k+1)*wt k=f k*wt k+(sg k+1)*wt k by rw[show f k+sg k+1=f k+(sg k+1) by omega,Nat.add_mul]] at h2
  omega
 refine ⟨z0,(hf1 b).mono ?_,z1,o8 (o8 f a (f k+sg k+1)) b (f k+sg k+1),E,mH hf1 (((hf1 b).add ((hf k).mul hy)).mono oM),hE,?_⟩
 ·rw[Nat.add_mul (sg k) 2] at hC;rw[Nat.add_mul (sg k) 1] at hp1;omega
 ·rw[Nat.add_mul (sg k) 2] at hC;rw[Nat.add_mul (sg k) 1] at hp;omega
end
theorem DA {c:Prop}[Decidable c]{a b:Rat}{k:Nat}(ha:c→LQ k a)(hb:¬c→LQ k b):LQ k (if c then a else b):=by
 by_cases h:c
 ·rw[if_pos h];exact ha h
 ·rw[if_neg h];exact hb h
section
variable {a b q:Rat} {op n:Int} {K M:Nat}
theorem xu (ha:LQ K a)(hn:n.natAbs≤M):LQ (M*K+2) (fe a n):=by
 have h1:LQ 1 (((1:Int):Rat)):=LQ.lit (z:=1) kD;have e:=Nat.mul_le_mul_right K hn
 unfold fe
 exact DA (fun _=>(fz ha _).mono oM) fun _=>(h1.div (fz ha _)).mono oM
theorem x5 (hK:1≤K)(hM:2≤M)(hM2:M≤12)(ha:LQ K a)(hb:LQ K b)(hn:op=8→n.natAbs≤M):LQ ((M+1)*K+5) (nj op n a b):=by
 have h1:LQ 1 (((1:Int):Rat)):=LQ.lit (z:=1) kD;have h0:LQ ((M+1)*K+5) (0:Rat):=j1 oM;have hs:=qy a.num;have h2:=h1.div (h1.add ha.abs);have e:=Nat.mul_le_mul_right K (show 3≤M+1 by omega)
 unfold nj
 exact cF (fun _=>h1.mono oM) fun _=>cF (fun _=>h1.mono oM) fun _=>cF (fun _=>hb.mono oM) fun _=>cF (fun _=>(h1.div hb).mono oM) fun _=>cF (fun _=>h1.neg.mono oM) fun _ =>
  cF (fun e=>cF (fun _=>h0) fun _=>((xu (n:=n-1) (M:=M+1) ha (by have:=hn e;omega)).mul (LQ.int (z:=n) (by have:=hn e;omega) (by have:=hn e;omega))).mono oM) fun _ =>
  cF (fun _=>(LQ.int oM oM).mono oM) fun _=>cF (fun _=>(LQ.int oM oM).mono oM) fun _=>cF (fun _=>(h2.mul h2).mono oM) fun _ =>
  cF (fun _=>cF (fun _=>h1.mono oM) fun _=>h0) fun _=>cF (fun _=>cF (fun _=>h0) fun _=>h1.mono oM) fun _=>h0
theorem xz (hK:1≤K)(hM:2≤M)(ha:LQ K a)(hb:LQ K b):LQ ((M+1)*K+5) (nu op a b):=by
 have h1:LQ 1 (((1:Int):Rat)):=LQ.lit (z:=1) kD;have h0:LQ ((M+1)*K+5) (0:Rat):=j1 oM;have h2:=h1.div hb;have e:=Nat.mul_le_mul_right K (show 3≤M+1 by omega)
 unfold nu
 exact cF (fun _=>h1.mono oM) fun _=>cF (fun _=>h1.neg.mono oM) fun _=>cF (fun _=>ha.mono oM) fun _=>cF (fun _=>((ha.mul h2).mul h2).neg.mono oM) fun _ =>
  cF (fun _=>cF (fun _=>h0) fun _=>h1.mono oM) fun _=>cF (fun _=>cF (fun _=>h1.mono oM) fun _=>h0) fun _=>h0
end
def HI (z:Nat)(l:List Stp):Prop:=∀ k,k<l.length→(l.getD k ac).op=8→(k=z → -12≤(l.getD k ac).n∧(l.getD k ac).n≤12)∧(k≠z → -1≤(l.getD k ac).n∧(l.getD k ac).n≤2)
section
variable {z:Nat} {l:List Stp} {at_ way:List Rat} (ht:HI z l) (hq:∀ i,LQ 1 (l.getD i ac).q) (ha:∀ j,LQ 1 (at_.getD j 0))
include ht hq ha
end
theorem mc (a b:List Rat):∀ n,c4 a b n=c4 b a n
 | 0=>rfl
 | n+1=>by show c4 a b n+_=c4 b a n+_;rw[mc a b n,Rat.mul_comm]
theorem g7 (m:Nat)(b:List Rat):∀ n,c4 (List.replicate m 0) b n=0
 | 0=>rfl
 | n+1=>by show c4 _ b n+_=_;rw[g7 m b n,eD];grind
def vQ (n j:Nat):List Rat:=(List.replicate n (0:Rat)).set j ((1:Int):Rat)
theorem rZ {g:List Rat}{n j:Nat}(h:j<n):c4 g (vQ n j) n=g.getD j 0:=by
 rw[mc];unfold vQ;rw[fb (x:=((1:Int):Rat)) (by simpa using h) h (by rw[eD];grind),g7,show ((1:Int):Rat)=1 from rfl];grind
def wA (l:List Stp)(os:List Int)(at_ by_ way:List Rat):Rat:=c4 by_ (dV (en l at_ way l.length) os) os.length
def gt (inp:Nat)(l:List Stp)(os:List Int)(at_ by_:List Rat):List Rat:=(List.range inp).map fun j=>wA l os at_ by_ (vQ inp j)
def bE (inp:Int)(l:List Stp)(os:List Int)(at_ by_:List Rat):Int:=if be inp l os=0 then (if (at_.length:Int)=inp∧by_.length=os.length then bN true l at_ l.length else 5) else 1
def fl (inp:Int)(l:List Stp)(os:List Int)(at_ by_:List Rat):List Rat:=if bE inp l os at_ by_=0 then dV (aU l at_ l.length) os else []
def cf (inp:Int)(l:List Stp)(os:List Int)(at_ by_:List Rat):List Rat:=if bE inp l os at_ by_=0 then gt inp.toNat l os at_ by_ else []
section
variable {inp:Int} {l:List Stp} {os:List Int} {at_ by_:List Rat}
theorem pP {e:Int}(h:bE inp l os at_ by_=e)(he:e≠0):bE inp l os at_ by_=e∧fl inp l os at_ by_=[]∧cf inp l os at_ by_=[] :=
 ⟨h,if_neg (by rw[h];exact he),if_neg (by rw[h];exact he)⟩
theorem ti (h:be inp l os≠0):bE inp l os at_ by_=1∧fl inp l os at_ by_=[]∧cf inp l os at_ by_=[]:=pP (if_neg h) kD
theorem sT (h:be inp l os=0)(h2:¬((at_.length:Int)=inp∧by_.length=os.length)):bE inp l os at_ by_=5∧fl inp l os at_ by_=[]∧cf inp l os at_ by_=[]:=pP (by unfold bE;rw[if_pos h,if_neg h2]) kD
theorem D2 (h:be inp l os=0)(h2:(at_.length:Int)=inp)(h3:by_.length=os.length)(h4:bN true l at_ l.length≠0):bE inp l os at_ by_=bN true l at_ l.length∧fl inp l os at_ by_=[]∧cf inp l os at_ by_=[]:=pP (by unfold bE;rw[if_pos h,if_pos ⟨h2,h3⟩]) h4
theorem C6 (h:be inp l os=0)(h2:(at_.length:Int)=inp)(h3:by_.length=os.length)(h4:bN true l at_ l.length=0):bE inp l os at_ by_=0∧fl inp l os at_ by_=dV (aU l at_ l.length) os∧cf inp l os at_ by_=gt inp.toNat l os at_ by_:=by
 have e:bE inp l os at_ by_=0:=by unfold bE;rw[if_pos h,if_pos ⟨h2,h3⟩,h4]
 exact ⟨e,if_pos e,if_pos e⟩
end
theorem nU {vs:List Rat}{os:List Int}{i:Nat}(h:i<os.length):(dV vs os).getD i 0=vs.getD (os.getD i 0).toNat 0:=by
 unfold dV;simp[List.getD_eq_getElem?_getD,h]
def Bo (l:List Stp)(os:List Int)(at_ by_:List Rat)(i:Nat)(bar:List Rat):Prop :=
  ∀ way,c4 bar (en l at_ way l.length) l.length=c4 by_ (dV (en l at_ way l.length) os) i
def Bos (wt:Nat→Nat)(n W i:Nat)(bar:List Rat):Prop:=∃ f:Nat→Nat,(∀ j,LQ (f j) (bar.getD j 0))∧iP wt f n≤iP wt (fun _=>1) n+i*(2*W)
section
variable {l:List Stp} {os:List Int} {at_ by_ bar:List Rat} {i:Nat}
theorem Bo.init:Bo l os at_ by_ 0 (List.replicate l.length 0):=fun way=>by rw[g7];rfl
theorem Bo.step (B:Bo l os at_ by_ i bar)(hi:i<os.length)(ho:(os.getD i 0).toNat<l.length)(hl:bar.length=l.length):Bo l os at_ by_ (i+1) (bar.set (os.getD i 0).toNat (bar.getD (os.getD i 0).toNat 0+by_.getD i 0)):=fun way=>by
 show _=c4 by_ _ i+_
 rw[fb oM ho rfl,B way,nU hi]
theorem Bos.init (wt:Nat→Nat)(n W:Nat):Bos wt n W 0 (List.replicate n 0):=⟨fun _=>1,fun j=>by rw[eD];exact j1 (k:=1) (Nat.le_refl 1),Nat.le_add_right _ _⟩
theorem Bos.step {wt:Nat→Nat}{n W o:Nat}{y:Rat}(Z:Bos wt n W i bar)(ho:o<n)(hW:wt o≤W)(hy:LQ 1 y):Bos wt n W (i+1) (bar.set o (bar.getD o 0+y)):=by
 obtain ⟨f,hf,hp⟩:=Z;refine ⟨o8 f o 2,mH hf ((hf o).add hy),?_⟩;rw[g6,if_pos ho,Nat.add_mul];omega
theorem Bos.lb {wt:Nat→Nat}{n W C:Nat}(Z:Bos wt n W i bar)(hw:∀ j,j<n→1≤wt j)(hC:iP wt (fun _=>1) n+i*(2*W)≤C):∀ j,j<n→LQ C (bar.getD j 0):=fun j hj=>by
 obtain ⟨f,hf,hp⟩:=Z;have:=ng wt f n hw j hj;exact (hf j).mono oM
theorem Bos.bz {wt sg:Nat→Nat}{n W C inp:Nat}(Z:Bos wt n W i bar)(hC:1+iP wt (fun _=>1) n+i*(2*W)+kT wt sg n≤C):Bz wt sg C n bar (List.replicate inp 0):=by
 obtain ⟨f,hf,hp⟩:=Z;exact ⟨f,1,hf,fun j=>by rw[eD];exact j1 oM,by omega⟩
theorem Bo.bk (B:Bo l os at_ by_ os.length bar)(inp:Nat):Bk l at_ inp (wA l os at_ by_) l.length bar (List.replicate inp 0):=fun way=>by
 rw[B way,g7,Rat.add_zero];rfl
theorem Bk.fin {inp:Nat}{g:List Rat}(B:Bk l at_ inp (wA l os at_ by_) 0 bar g)(hg:g.length=inp):g=gt inp l os at_ by_∧∀ way,c4 g way inp=wA l os at_ by_ way:=by
 have h1:∀ way,c4 g way inp=wA l os at_ by_ way:=fun way=>by
  have:=B way
  change (0:Rat)+_=_ at this
  rw[←this];grind
 refine ⟨gK (by unfold gt;rw[List.length_map,List.length_range,hg]) fun j=>?_,h1⟩
 by_cases hj:j<inp
 ·unfold gt
  rw[←rZ hj,h1];simp[hj]
 ·rw[cI oM,cI (by unfold gt;rw[List.length_map,List.length_range];omega)]
end
section
variable {inp:Int} {l:List Stp} {os:List Int} {at_ way by_:List Rat}
end
theorem xU {v:List Rat}{os:List Int}{K:Nat}(hK:1≤K)(h:∀ j,LQ K (v.getD j 0))(j:Nat):LQ K ((dV v os).getD j 0):=by
 by_cases e:j<os.length
 ·rw[nU e];exact h _
 ·rw[cI (by unfold dV;rw[List.length_map];omega)];exact j1 hK
def Bw (m:Nat):Nat:=18446744073709551616^m
def Mg (m:Nat)(x:Rat):Prop:=-((Bw m:Nat):Rat)≤x∧x≤((Bw m:Nat):Rat)
def tz (n:Int)(d u:Nat):Int :=
  n*u/d+(if (d:Int)<n*u%d+n*u%d∨(n*u%d+n*u%d=d∧n*u/d%2=1) then 1 else 0)
def dd (x:Rat)(b:Nat):Rat:=mkRat (tz x.num x.den (2^b)) (2^b)
structure Fst2 (l:List Stp):Prop where
  nm:∀ k,k<l.length→k<2→(l.getD k ac).op=2
  pw:∀ k,k<l.length→(l.getD k ac).op=8→(l.getD k ac).n.natAbs≤2
  q:∀ i,LQ 1 (l.getD i ac).q
section
variable {l:List Stp} {at_ way:List Rat} {A:Nat} (F:Fst2 l) (hA:1≤A) (ha:∀ j,LQ A (at_.getD j 0))
include F hA ha
end
def AD (l:List Rat):Nat→Rat
  | 0=>0
  | k+1=>AD l k+l.getD k 0
def bJ (m:Nat)(bt:List Int):Nat→List Rat
  | 0=>List.replicate m 0
  | j+1=>(bJ m bt j).set (bt.getD j 0).toNat ((1:Int):Rat)
theorem jt (m:Nat)(bt:List Int):∀ j,(bJ m bt j).length=m
 | 0=>List.length_replicate
 | j+1=>by unfold bJ;rw[List.length_set];exact jt m bt j
theorem od (m:Nat)(bt:List Int):∀ j i,(bJ m bt j).getD i 0=0∨(bJ m bt j).getD i 0=((1:Int):Rat)
  | 0,i=>.inl (eD i)
  | j + 1,i=>by
    unfold bJ
    rw[List.getD_eq_getElem?_getD,List.getElem?_set]
    split
    · split
      · exact .inr rfl
      · exact .inl rfl
    · rw[←List.getD_eq_getElem?_getD];exact od m bt j i
theorem Bm (m:Nat)(bt:List Int)(j i:Nat):LQ 1 ((bJ m bt j).getD i 0):=by
 rcases od m bt j i with h|h<;>rw[h]
 ·exact j1 kD
 ·exact LQ.lit (z:=1) kD
def xT (ra ke:Rat)(b:Nat)(way g:List Rat)(n:Nat):List Rat:=(List.range n).map fun i=>dd (ke*way.getD i 0-ra*g.getD i 0) b
def GO (b:Nat)(at_ way:List Rat)(n:Nat):List Rat:=(List.range n).map fun i=>dd (at_.getD i 0+way.getD i 0) b
structure DSt where
  e:Int
  at_:List Rat
  way:List Rat
  ls:List Rat
section
variable (inp:Int) (l:List Stp) (os:List Int) (ra ke:Rat) (b:Nat) (bt:Nat→List Int)
def El (k:Nat):List Rat:=bJ os.length (bt k) (bt k).length
def cO (at_:List Rat):Rat:=AD (gj false inp l os at_) (gj false inp l os at_).length
def x3 (k:Nat)(s:DSt):List Rat:=xT ra ke b s.way (cf inp l os s.at_ (El os bt k)) s.at_.length
def BP (k:Nat)(s:DSt):List Rat:=GO b s.at_ (x3 inp l os ra ke b bt k s) s.at_.length
def tA (k:Nat)(s:DSt):DSt :=
  if s.e≠0 then s
  else if bE inp l os s.at_ (El os bt k)≠0 then { s with e:=bE inp l os s.at_ (El os bt k) }
  else ⟨dU false inp l os (BP inp l os ra ke b bt k s),BP inp l os ra ke b bt k s,x3 inp l os ra ke b bt k s,s.ls++[cO inp l os (BP inp l os ra ke b bt k s)]⟩
def dst (at0:List Rat):Nat→DSt
  | 0=>⟨dU false inp l os at0,at0,List.replicate at0.length 0,[cO inp l os at0]⟩
  | k+1=>tA inp l os ra ke b bt k (dst at0 k)
end
section
variable {inp:Int} {l:List Stp} {os:List Int} {ra ke:Rat} {b:Nat} {bt bt2:Nat→List Int} {at0:List Rat}
theorem xI {k:Nat}{s:DSt}(h:s.e≠0):tA inp l os ra ke b bt k s=s:=if_pos h
theorem nW {k:Nat}{s:DSt}(h:s.e=0)(h2:bE inp l os s.at_ (El os bt k)≠0):tA inp l os ra ke b bt k s={ s with e:=bE inp l os s.at_ (El os bt k) }:=by
 unfold tA;rw[if_neg oM,if_pos h2]
theorem tM {k:Nat}{s:DSt}(h:s.e=0)(h2:bE inp l os s.at_ (El os bt k)=0):tA inp l os ra ke b bt k s=⟨dU false inp l os (BP inp l os ra ke b bt k s),BP inp l os ra ke b bt k s,x3 inp l os ra ke b bt k s,s.ls++[cO inp l os (BP inp l os ra ke b bt k s)]⟩:=by
 unfold tA;rw[if_neg oM,if_neg oM]
theorem tZ {k n:Nat}(hkn:k≤n)(h:(dst inp l os ra ke b bt at0 k).e≠0):dst inp l os ra ke b bt at0 n=dst inp l os ra ke b bt at0 k:=by
  induction hkn with
  | refl=>rfl
  | @step n hkn ih =>
    show tA inp l os ra ke b bt n (dst inp l os ra ke b bt at0 n)=_
    rw[ih,xI h]
theorem Es {k n:Nat}(hkn:k≤n)(h:(dst inp l os ra ke b bt at0 n).e=0):(dst inp l os ra ke b bt at0 k).e=0 :=
 Classical.byContradiction fun hk=>hk (by rw[←tZ hkn hk];exact h)
theorem uG:∀ k,(dst inp l os ra ke b bt at0 k).e=0→(dst inp l os ra ke b bt at0 k).ls.length=k+1
  | 0,_=>rfl
  | k + 1,h=>by
    have h0:=Es (Nat.le_succ k) h;have ih:=uG k h0
    have h2:bE inp l os (dst inp l os ra ke b bt at0 k).at_ (El os bt k)=0:=Classical.byContradiction fun hb=>by
      change (tA inp l os ra ke b bt k (dst inp l os ra ke b bt at0 k)).e=0 at h
      rw[nW h0 hb] at h;exact hb h
    show (tA inp l os ra ke b bt k (dst inp l os ra ke b bt at0 k)).ls.length=_
    rw[tM h0 h2,List.length_append,ih];rfl
end
structure DOk (l:List Stp) (os:List Int) (ra ke:Rat) (b:Nat) (at0:List Rat):Prop where
  f2:Fst2 l
  hl:l.length≤6
  ho:os.length≤2
  ra1:LQ 1 ra
  ra0:Mg 0 ra
  ke1:LQ 1 ke
  ke0:Mg 0 ke
  hb:b≤32
  at1:∀ j,LQ 1 (at0.getD j 0)
section
variable {inp:Int} {l:List Stp} {os:List Int} {ra ke:Rat} {b:Nat} {bt:Nat→List Int} {at0:List Rat} (D:DOk l os ra ke b at0)
include D
end
theorem Cs {K:Nat}(hK:1≤K)(j:Nat):LQ K (([]:List Rat).getD j 0):=by rw[cI (by simp)];exact j1 hK
theorem Ai {sm:Bool}{inp:Int}{l:List Stp}{os:List Int}{at_:List Rat}{K:Nat}(hK:1≤K)(h:be inp l os=0→∀ j,LQ K ((aU l at_ l.length).getD j 0))(j:Nat):LQ K ((gj sm inp l os at_).getD j 0):=by
 unfold gj
 split
 ·rename_i e
  by_cases hc:be inp l os=0
  ·exact xU hK (h hc) j
  ·unfold dU at e;rw[if_neg hc] at e;exact absurd e kD
 ·exact Cs hK j
theorem Bf {sm:Bool}{inp:Int}{l:List Stp}{os:List Int}{at_:List Rat}:(gj sm inp l os at_).length≤os.length:=by
 unfold gj;split
 ·unfold dV;rw[List.length_map];exact Nat.le_refl _
 ·exact Nat.zero_le _
section
variable {L M G:List Rat} {ra ke x:Rat} {b n j:Nat}
theorem rc (hj:j<M.length)(h2:∀ i,i<j→M.getD i 0=dd (ke*L.getD i 0-ra*G.getD i 0) b)(h3:∀ i,j≤i→M.getD i 0=L.getD i 0)(hx:x=dd (ke*M.getD j 0-ra*G.getD j 0) b) :
  (∀ i,i<j+1→(M.set j x).getD i 0=dd (ke*L.getD i 0-ra*G.getD i 0) b)∧∀ i,j+1≤i→(M.set j x).getD i 0=L.getD i 0:=by
 refine ⟨fun i hi=>?_,fun i hi=>?_⟩
 ·rw[bY hj]
  by_cases e:i=j
  ·subst e;rw[if_pos rfl,hx,h3 i (Nat.le_refl _)]
  ·rw[if_neg e];exact h2 i oM
 ·rw[bY hj,if_neg oM];exact h3 i oM
theorem qr {W:List Rat}{y:Rat}(hj:j<M.length)(hw:j<W.length)(h2:∀ i,i<j→M.getD i 0=dd (L.getD i 0+W.getD i 0) b)(h3:∀ i,j≤i→M.getD i 0=L.getD i 0)(hy:y=dd (M.getD j 0+(W.set j x).getD j 0) b) :
  (∀ i,i<j+1→(M.set j y).getD i 0=dd (L.getD i 0+(W.set j x).getD i 0) b)∧∀ i,j+1≤i→(M.set j y).getD i 0=L.getD i 0:=by
 refine ⟨fun i hi=>?_,fun i hi=>?_⟩
 ·rw[bY hj]
  by_cases e:i=j
  ·subst e;rw[if_pos rfl,hy,h3 i (Nat.le_refl _)]
  ·rw[if_neg e,bY hw,if_neg e];exact h2 i oM
 ·rw[bY hj,if_neg oM];exact h3 i oM
theorem Dv (hl:M.length=n)(h:∀ i,i<n→M.getD i 0=dd (ke*L.getD i 0-ra*G.getD i 0) b):M=xT ra ke b L G n:=by
 refine gK (by unfold xT;rw[List.length_map,List.length_range,hl]) fun i=>?_
 unfold xT
 by_cases hi:i<n
 ·rw[h i hi];simp[hi]
 ·rw[cI oM,cI (by rw[List.length_map,List.length_range];omega)]
theorem Fd {W:List Rat}(hl:M.length=n)(h:∀ i,i<n→M.getD i 0=dd (L.getD i 0+W.getD i 0) b):M=GO b L W n:=by
 refine gK (by unfold GO;rw[List.length_map,List.length_range,hl]) fun i=>?_
 unfold GO
 by_cases hi:i<n
 ·rw[h i hi];simp[hi]
 ·rw[cI oM,cI (by rw[List.length_map,List.length_range];omega)]
end
def DSt.rat (s:DSt):List Rat:=if s.e=0 then s.at_ else []
def DSt.rls (s:DSt):List Rat:=if s.e=0 then s.ls else []
theorem DSt.bad {s:DSt}(h:s.e≠0):s.rat=[]∧s.rls=[]:=⟨if_neg h,if_neg h⟩
theorem DSt.ok {s:DSt}(h:s.e=0):s.rat=s.at_∧s.rls=s.ls:=⟨if_pos h,if_pos h⟩
section
variable {inp:Int} {l:List Stp} {os:List Int} {ra ke:Rat} {b k n:Nat} {bf:Nat→List Int} {p0 La Lw al:List Rat} {ds:Nat→DSt} (hds:ds=dst inp l os ra ke b bf p0)
include hds
theorem Fo (hE:(ds k).e=0)(hLa:La=(ds k).at_)(hLw:Lw=(ds k).way)(hal:al=(ds k).ls)(hn:La.length=n)(hb:bE inp l os La (bJ os.length (bf k) (bf k).length)=0){Mw Ma:List Rat}(hw:Mw.length=n)(ha:Ma.length=n)
  (h1:∀ i,i<n→Mw.getD i 0=dd (ke*Lw.getD i 0-ra*(cf inp l os La (bJ os.length (bf k) (bf k).length)).getD i 0) b)(h2:∀ i,i<n→Ma.getD i 0=dd (La.getD i 0+Mw.getD i 0) b) :
  ds (k+1)=⟨dU false inp l os Ma,Ma,Mw,al++[cO inp l os Ma]⟩:=by
 subst hds hLa hLw hal hn;have e1:=Dv hw h1;have e2:=Fd ha h2
 show tA inp l os ra ke b bf k _=_
 rw[tM hE hb];have e3:x3 inp l os ra ke b bf k (dst inp l os ra ke b bf p0 k)=Mw:=e1.symm;have e4:BP inp l os ra ke b bf k (dst inp l os ra ke b bf p0 k)=Ma:=by unfold BP;rw[e3];exact e2.symm
 rw[e3,e4]
theorem Br (hE:(ds k).e=0)(hLa:La=(ds k).at_)(hb:bE inp l os La (bJ os.length (bf k) (bf k).length)≠0)(hk:k+1≤n):(ds n).e=bE inp l os La (bJ os.length (bf k) (bf k).length):=by
 subst hds hLa
 have e:(dst inp l os ra ke b bf p0 (k+1)).e=bE inp l os (dst inp l os ra ke b bf p0 k).at_ (bJ os.length (bf k) (bf k).length):=by
  show (tA inp l os ra ke b bf k _).e=_
  rw[nW hE hb];rfl
 rw[tZ hk (by rw[e];exact hb),e]
theorem qL (hS:ds k=⟨dU false inp l os La,La,Lw,al⟩)(hb:dU false inp l os La≠0)(hk:k≤n):(ds n).e=dU false inp l os La:=by
 subst hds;rw[tZ hk (by rw[hS];exact hb),hS]
theorem rL:ds 0=⟨dU false inp l os p0,p0,List.replicate p0.length 0,[cO inp l os p0]⟩:=by subst hds;rfl
end
theorem si {inp:Int}{l:List Stp}{os:List Int}{at_ by_:List Rat}(h:bE inp l os at_ by_=0):(cf inp l os at_ by_).length=inp.toNat:=by
 unfold cf;rw[if_pos h];unfold gt;rw[List.length_map,List.length_range]
section
variable {inp:Int} {l:List Stp} {os:List Int} {ra ke:Rat} {b st:Nat} {bf:Nat→List Int} {p0:List Rat}
end
theorem Gf (a:Rat):0≤a*a:=by
 rcases (Rat.le_total (a:=0) (b:=a)) with h|h
 ·exact Rat.mul_nonneg h h
 ·have:=Rat.mul_nonneg (a:=-a) (b:=-a) (by grind) (by grind)
  grind
def iz (s:ByteArray):List Value:=[.string s]
inductive Tm where
  | mk (op n:Int) (q:Rat) (s:ByteArray) (ks:List Tm)
def Tm.op:Tm→Int|.mk op _ _ _ _=>op
def Tm.n:Tm→Int|.mk _ n _ _ _=>n
def Tm.q:Tm→Rat|.mk _ _ q _ _=>q
def Tm.s:Tm→ByteArray|.mk _ _ _ s _=>s
def Tm.ks:Tm→List Tm|.mk _ _ _ _ ks=>ks
def aZ:Tm:=.mk 0 0 0 ⟨#[]⟩ []
structure PTm where
  op:Int
  n:Int
  q:Rat
  s:ByteArray
  A:Option Addr
  m:Nat
  c:Nat
abbrev pX (p:PTm):Value:=.agg #[iV p.op,iV p.n,.bool (aD p.q.num),uV (lo (ab p.q.num)),.string (hi (ab p.q.num)),uV (lo (qd p.q)),.string (hi (qd p.q)),.string p.s,.slice p.A p.m p.c]
abbrev pC (p:PTm):List Value:=[iV p.op,iV p.n,.bool (aD p.q.num),uV (lo (ab p.q.num)),.string (hi (ab p.q.num)),uV (lo (qd p.q)),.string (hi (qd p.q)),.string p.s,.slice p.A p.m p.c]
abbrev pW (o n:Int)(q:Rat)(s:ByteArray)(A:Option Addr)(m c:Nat):Value:=.agg #[iV o,iV n,.bool (aD q.num),uV (lo (ab q.num)),.string (hi (ab q.num)),uV (lo (qd q)),.string (hi (qd q)),.string s,.slice A m c]
abbrev pG (o n:Int)(q:Rat)(s:ByteArray)(A:Option Addr)(m c:Nat):List Value:=[iV o,iV n,.bool (aD q.num),uV (lo (ab q.num)),.string (hi (ab q.num)),uV (lo (qd q)),.string (hi (qd q)),.string s,.slice A m c]
def bu:PTm:=⟨0,0,0,⟨#[]⟩,none,0,0⟩
def cu (p:PTm):List Value:=[.int .i64 p.op,.int .i64 p.n,.bool (aD p.q.num),.int .u64 (lo (ab p.q.num)),.string (hi (ab p.q.num)),.int .u64 (lo (qd p.q)),.string (hi (qd p.q)),.string p.s,.slice p.A p.m p.c]
def cZ (p:PTm):Value:=.agg #[.int .i64 p.op,.int .i64 p.n,.bool (aD p.q.num),.int .u64 (lo (ab p.q.num)),.string (hi (ab p.q.num)),.int .u64 (lo (qd p.q)),.string (hi (qd p.q)),.string p.s,.slice p.A p.m p.c]
def TmH:Nat→Hp→PTm→Tm→Prop
  | 0,_,_,_=>False
  | d+1,h,p,t=>p.op=t.op∧p.n=t.n∧p.q=t.q∧p.s=t.s∧p.m=t.ks.length∧p.m≤p.c∧∃ ps:List PTm,ps.length=t.ks.length∧SlO 9 cu bu h p.A ps∧∀ i,i<t.ks.length→TmH d h (ps.getD i bu) (t.ks.getD i aZ)
theorem TmH.gw:∀ {d:Nat} {h h':Hp} {p:PTm} {t:Tm},TmH d h p t→Gw h h'→TmH d h' p t
 | 0,_,_,_,_,x,_=>x
 | d+1,_,_,_,_,⟨h1,h2,h3,h4,h5,h6,ps,h7,h8,h9⟩,u=>⟨h1,h2,h3,h4,h5,h6,ps,h7,h8.gw u,fun i hi=>TmH.gw (h9 i hi) u⟩
theorem TmH.mono {h:Hp}:∀ {d e:Nat} {p:PTm} {t:Tm},TmH d h p t→d≤e→TmH e h p t
 | d+1,e+1,_,_,⟨h1,h2,h3,h4,h5,h6,ps,h7,h8,h9⟩,u=>⟨h1,h2,h3,h4,h5,h6,ps,h7,h8,fun i hi=>TmH.mono (h9 i hi) oM⟩
structure RTm where
  op:Int
  n:Int
  neg:Bool
  zA:Option Addr
  zn:Nat
  zc:Nat
  dA:Option Addr
  dn:Nat
  dc:Nat
  s:ByteArray
  A:Option Addr
  m:Nat
  c:Nat
def RTm.t (r:RTm):RT:=(r.neg,.slice r.zA r.zn r.zc,.slice r.dA r.dn r.dc)
def Ei:RTm:=⟨0,0,false,none,0,0,none,0,0,⟨#[]⟩,none,0,0⟩
def H8 (r:RTm):List Value:=[.int .i64 r.op,.int .i64 r.n,.bool r.neg,.slice r.zA r.zn r.zc,.slice r.dA r.dn r.dc,.string r.s,.slice r.A r.m r.c]
def RZ (h:Hp)(t:RT)(q:Rat):Prop:=∃ has:Bool,RP h (G9 t) q.num (if has then q.den else 0)∧(has=false→q=0)
def HT:Nat→Hp→RTm→Tm→Prop
  | 0,_,_,_=>False
  | d+1,h,r,t=>r.op=t.op∧r.n=t.n∧RZ h r.t t.q∧r.s=t.s∧r.m=t.ks.length∧r.m≤r.c∧∃ rs:List RTm,rs.length=t.ks.length∧SlO 7 H8 Ei h r.A rs∧∀ i,i<t.ks.length→HT d h (rs.getD i Ei) (t.ks.getD i aZ)
structure Tms (d:Nat) (h:Hp) (ps:List PTm) (ts:List Tm):Prop where
  len:ps.length=ts.length
  at_:∀ i,i<ts.length→TmH d h (ps.getD i bu) (ts.getD i aZ)
theorem Tms.gw {d:Nat}{h h':Hp}{ps:List PTm}{ts:List Tm}(x:Tms d h ps ts)(u:Gw h h'):Tms d h' ps ts:=⟨x.len,fun i hi=>(x.at_ i hi).gw u⟩
structure Rms (d:Nat) (h:Hp) (rs:List RTm) (ts:List Tm):Prop where
  len:rs.length=ts.length
  at_:∀ i,i<ts.length→HT d h (rs.getD i Ei) (ts.getD i aZ)
theorem Tms.nil {d:Nat}{h:Hp}:Tms d h [] []:=⟨rfl,fun i hi=>by simp at hi⟩
theorem TmH.mk {d:Nat}{h:Hp}{op n:Int}{q:Rat}{s:ByteArray}{A:Option Addr}{c:Nat}{ps:List PTm}{ks:List Tm}(x:Tms d h ps ks)(hc:ps.length≤c)(hA:SlO 9 cu bu h A ps):TmH (d+1) h ⟨op,n,q,s,A,ps.length,c⟩ (.mk op n q s ks) :=
 ⟨rfl,rfl,rfl,rfl,x.len,hc,ps,x.len,hA,x.at_⟩
theorem TmH.open {d:Nat}{h:Hp}{p:PTm}{t:Tm}(x:TmH (d+1) h p t):∃ op n q s A c,∃ ps:List PTm,∃ ks:List Tm,p=⟨op,n,q,s,A,ps.length,c⟩∧t=.mk op n q s ks∧ps.length≤c∧SlO 9 cu bu h A ps∧Tms d h ps ks:=by
  obtain ⟨op,n,q,s,A,m,c⟩:=p;cases t with
  | mk sH n2 q2 s2 ks =>
    obtain ⟨h1,h2,h3,h4,h5,h6,ps,h7,h8,h9⟩:=x;obtain rfl:op=sH:=h1;obtain rfl:n=n2:=h2;obtain rfl:q=q2:=h3;obtain rfl:s=s2:=h4;obtain rfl:m=ps.length:=(show m=ks.length from h5).trans h7.symm;exact ⟨op,n,q,s,A,c,ps,ks,rfl,rfl,h6,h8,h7,h9⟩
def cc (f:Nat→Nat):Nat→Nat
  | 0=>0
  | k+1=>cc f k+f k
def dR (n:Int):Nat:=if n.natAbs≤1 then 1 else n.natAbs
def gW:Nat→Tm→Nat
  | 0,_=>0
  | d+1,t=>if t.ks.length=0 then 1 else (if t.op=11 then 2 else if t.op=8 then dR t.n else 1)*cc (fun i=>gW d (t.ks.getD i aZ)) t.ks.length
def WfT (ok:ByteArray→Prop):Nat→Tm→Prop
  | 0,_=>False
  | d+1,t=>cC t.op=t.ks.length∧(t.op≠1→t.q=0)∧LQ 3000 t.q∧(t.op=2→ok t.s)∧(t.op≠2→t.s=⟨#[]⟩)∧(t.op≠8→t.n=0) ∧ -12≤t.n∧t.n≤12∧∀ i,i<t.ks.length→WfT ok d (t.ks.getD i aZ)
def wq (sm:ByteArray→Prop):Nat→Tm→Prop
  | 0,_=>False
  | d+1,t=>t.ks.length≤3∧(-1000≤t.op∧t.op≤1000)∧(-1000≤t.n∧t.n≤1000)∧LQ 3000 t.q∧sm t.s∧∀ i,i<t.ks.length→wq sm d (t.ks.getD i aZ)
theorem WfT.sm {ok sm:ByteArray→Prop}(h:∀ s,ok s→sm s)(h0:sm ⟨#[]⟩):∀ {d:Nat} {t:Tm},WfT ok d t→wq sm d t
  | d+1,t,⟨h1,h2,h3,h4,h5,h6,h7,h8,h9⟩=>by
    have hc:=aG t.op;refine ⟨by omega,⟨by omega,by omega⟩,⟨by omega,by omega⟩,h3,?_,fun i hi=>WfT.sm h h0 (h9 i hi)⟩
    by_cases e:t.op=2
    · exact h _ (h4 e)
    · rw[h5 e];exact h0
def WfT1 (ok:ByteArray→Prop):Nat→Tm→Prop
  | 0,_=>False
  | d+1,t=>cC t.op=t.ks.length∧(t.op≠1→t.q=0)∧LQ 1 t.q∧(t.op=2→ok t.s)∧(t.op≠2→t.s=⟨#[]⟩)∧(t.op≠8→t.n=0) ∧ -12≤t.n∧t.n≤12∧∀ i,i<t.ks.length→WfT1 ok d (t.ks.getD i aZ)
theorem WfT1.wf {ok:ByteArray→Prop}:∀ {d:Nat} {t:Tm},WfT1 ok d t→WfT ok d t
 | _+1,_,⟨h1,h2,h3,h4,h5,h6,h7,h8,h9⟩=>⟨h1,h2,h3.mono kD,h4,h5,h6,h7,h8,fun i hi=>WfT1.wf (h9 i hi)⟩
def SmT1 (sm:ByteArray→Prop):Nat→Tm→Prop
  | 0,_=>False
  | d+1,t=>t.ks.length≤3∧(-1000≤t.op∧t.op≤1000)∧(-1000≤t.n∧t.n≤1000)∧LQ 1 t.q∧sm t.s∧∀ i,i<t.ks.length→SmT1 sm d (t.ks.getD i aZ)
theorem SmT1.sm {sm:ByteArray→Prop}:∀ {d:Nat} {t:Tm},SmT1 sm d t→wq sm d t
 | _+1,_,⟨h1,h2,h3,h4,h5,h6⟩=>⟨h1,h2,h3,h4.mono kD,h5,fun i hi=>SmT1.sm (h6 i hi)⟩
theorem WfT1.sm {ok sm:ByteArray→Prop}(h:∀ s,ok s→sm s)(h0:sm ⟨#[]⟩):∀ {d:Nat} {t:Tm},WfT1 ok d t→SmT1 sm d t
  | d+1,t,⟨h1,h2,h3,h4,h5,h6,h7,h8,h9⟩=>by
    have hc:=aG t.op;refine ⟨by omega,⟨by omega,by omega⟩,⟨by omega,by omega⟩,h3,?_,fun i hi=>WfT1.sm h h0 (h9 i hi)⟩
    by_cases e:t.op=2
    · exact h _ (h4 e)
    · rw[h5 e];exact h0
def HO (isb:ByteArray→Bool)(op n:Int)(q:Rat)(s:ByteArray)(m:Nat):Prop:=cC op=m∧(op=1∨q.num=0)∧((op=2→isb s=true)∧(op≠2→s=⟨#[]⟩))∧((op=8∨n=0) ∧ -12≤n∧n≤12)
section
variable {isb:ByteArray→Bool} {d:Nat} {op n:Int} {q:Rat} {s:ByteArray} {ks:List Tm}
theorem Bn (w:WfT (fun s=>isb s=true) (d+1) (.mk op n q s ks)):HO isb op n q s ks.length:=by
 obtain ⟨h1,h2,h3,h4,h5,h6,h7,h8,h9⟩:=w;refine ⟨h1,?_,⟨h4,h5⟩,?_,h7,h8⟩
 ·by_cases e:op=1
  ·exact .inl e
  ·exact .inr (Rat.num_eq_zero.2 (h2 e))
 ·by_cases e:op=8
  ·exact .inl e
  ·exact .inr (h6 e)
theorem qH (h:¬HO isb op n q s ks.length):∃ bb,Value.bool false=.bool bb∧(bb=true↔WfT (fun s=>isb s=true) (d+1) (.mk op n q s ks)):=⟨false,rfl,fun h_=>(by cases h_),fun w=>absurd (Bn w) h⟩
theorem EQ {k:Nat}(hk:k<ks.length){bk:Bool}(hb:bk=false)(h:bk=true↔WfT (fun s=>isb s=true) d (ks.getD k aZ)):∃ bb,Value.bool false=.bool bb∧(bb=true↔WfT (fun s=>isb s=true) (d+1) (.mk op n q s ks)):=⟨false,rfl,fun h_=>(by cases h_),fun ⟨_,_,_,_,_,_,_,_,h9⟩=>by rw[h.2 (h9 k hk)] at hb;cases hb⟩
theorem E0 (h:HO isb op n q s ks.length)(hq:LQ 3000 q)(hW:∀ i,i<ks.length→WfT (fun s=>isb s=true) d (ks.getD i aZ)):∃ bb,Value.bool true=.bool bb∧(bb=true↔WfT (fun s=>isb s=true) (d+1) (.mk op n q s ks)):=by
 obtain ⟨h1,h2,⟨h4,h5⟩,h6,h7,h8⟩:=h;refine ⟨true,rfl,fun _=>⟨h1,fun e=>Rat.num_eq_zero.1 (h2.resolve_left e),hq,h4,h5,fun e=>h6.resolve_left e,h7,h8,hW⟩,fun _=>rfl⟩
end
def m0 (nm:Int→ByteArray)(l:List Stp):Nat→Nat→Tm
  | 0,_=>aZ
  | f+1,i =>
    if (l.getD i ac).op=2 then .mk 2 0 0 (nm (l.getD i ac).n) []
    else if cC (l.getD i ac).op=1 then .mk (l.getD i ac).op (l.getD i ac).n 0 ⟨#[]⟩ [m0 nm l f (l.getD i ac).a.toNat]
    else if cC (l.getD i ac).op=2 then .mk (l.getD i ac).op 0 0 ⟨#[]⟩ [m0 nm l f (l.getD i ac).a.toNat,m0 nm l f (l.getD i ac).b.toNat]
    else .mk (l.getD i ac).op 0 (l.getD i ac).q ⟨#[]⟩ []
theorem ja {nm:Int→ByteArray}{l:List Stp}{inp:Int}(hF:∀ k,k<l.length→Formed inp k (l.getD k ac)):∀ (f g i:Nat),i<f→i<g→i<l.length→m0 nm l f i=m0 nm l g i
  | f + 1,g+1,i,hf,hg,hi=>by
    obtain ⟨o1,o2,o3,_⟩:=(hF i hi).opr
    unfold m0
    split
    · rfl
    · split
      · rename_i h1
        have ha:=o1 oM;rw[ja hF f g _ oM oM oM]
      · split
        · rename_i h1 h2
          have ha:=o1 oM;have hb:=o2 oM;rw[ja hF f g _ oM oM oM,ja hF f g (l.getD i ac).b.toNat oM oM oM]
        · rfl
structure MapJ (h0:Hp) (B:List Bx) (w:World) (h:Hp) (b:Nat) (es:List MapEntry) (clk:Nat):Prop where
  obj:w.heap[b]?=some (.map es.toArray clk)
  jk:h[b]?=some bc
  lo:h0.size≤b
  nb:∀ x∈B,x.b≠b
def MapS (h:Hp)(b:Nat)(es:List MapEntry):Prop:=∃ clk,h[b]?=some (.map es.toArray clk)
theorem MapS.gw {h h':Hp}{b:Nat}{es:List MapEntry}(x:MapS h b es)(u:Gw h h'):MapS h' b es:=by
 obtain ⟨c,e⟩:=x;refine ⟨c,?_⟩
 rcases u.blk b (aN e) with k|k
 ·exact k.trans e
 ·rw[e] at k;cases k
theorem MapS.w {w:World}{h:Hp}{b:Nat}{es:List MapEntry}(x:MapS h b es)(g:G w h):∃ clk,w.heap[b]?=some (.map es.toArray clk):=by
 obtain ⟨c,e⟩:=x;refine ⟨c,?_⟩
 rcases g.blk b with k|k
 ·rw[←k];exact e
 ·rw[e] at k;cases k
theorem qQ {P:Program}(w:World){mty kt et:TypeId}{b clk:Nat}{es:Array MapEntry}{s:ByteArray}{val:Value}(hm:P.underlying mty=some (.map kt et))(hk:P.underlying kt=some .string)(hb:w.heap[b]?=some (.map es clk))(hf:Instr.findNow .string (.string s) es.toList 0=some none) :
  (Instr.mapUpdate mty (.map (some b)) (.string s) val).run P w=.ok () { w with heap:=w.heap.setIfInBounds b (.map (es.push { key:=.string s,val:=val,born:=clk }) (clk+1)) }:=by
 have hc:(Instr.checkKey false 10000 kt (.string s)).run P w=.ok () w:=MapKept.run_checkKey (k:=.string s) hk (by simp[MapKept.IsKey]) false 9999
 simp[Instr.mapUpdate,run_underlying hm,MapKept.run_getObj_map hb,hc,MapKept.run_findKey hk hf,MapKept.run_setObj_map _ hb,Result.andThen]
theorem va {P:Program}(w:World){mty kt et:TypeId}{b clk i:Nat}{es:Array MapEntry}{s:ByteArray}{val v0:Value}(hm:P.underlying mty=some (.map kt et))(hk:P.underlying kt=some .string)(hb:w.heap[b]?=some (.map es clk))(hf:Instr.findNow .string (.string s) es.toList 0=some (some (i,v0)))(he:((es[i]?).map (·.key)).getD (.string s)=.string s) :
  (Instr.mapUpdate mty (.map (some b)) (.string s) val).run P w=.ok () { w with heap:=w.heap.setIfInBounds b (.map (es.modify i fun e=>{ e with key:=.string s,val:=val }) clk) }:=by
 have hc:(Instr.checkKey false 10000 kt (.string s)).run P w=.ok () w:=MapKept.run_checkKey (k:=.string s) hk (by simp[MapKept.IsKey]) false 9999;have hq:(s == s)=true:=by first|exact beq_self_eq_true s|(show (s.data == s.data)=true;exact beq_self_eq_true _)|(cases s;rfl)
 have hs:Instr.sameBits 10000 (.string s) (.string s)=true:=by simp[Instr.sameBits,hq]
 simp[Instr.mapUpdate,run_underlying hm,MapKept.run_getObj_map hb,hc,MapKept.run_findKey hk hf,MapKept.run_setObj_map _ hb,Result.andThen,he,Instr.keyThatStays,hs]
theorem vp {P:Program}(w:World){mty kt et:TypeId}{b clk:Nat}{es:Array MapEntry}{s:ByteArray}(ok:Bool){v:Value}{found:Bool}(hm:P.underlying mty=some (.map kt et))(hk:P.underlying kt=some .string)(hb:w.heap[b]?=some (.map es clk))
  (hf:(∃ i,Instr.findNow .string (.string s) es.toList 0=some (some (i,v))∧found=true)∨(Instr.findNow .string (.string s) es.toList 0=some none∧found=false∧(zeroValue et).run P w=.ok v w)) :
  (Instr.lookup mty (.map (some b)) (.string s) ok).run P w=.ok (if ok then .tuple #[v,.bool found] else v) w:=by
 have hc:(Instr.checkKey es.isEmpty 10000 kt (.string s)).run P w=.ok () w:=MapKept.run_checkKey (k:=.string s) hk (by simp[MapKept.IsKey]) _ 9999
 rcases hf with ⟨i,hf,rfl⟩|⟨hf,rfl,hz⟩
 ·simp[Instr.lookup,run_underlying hm,MapKept.run_getObj_map hb,hc,MapKept.run_findKey hk hf,Result.andThen]
 ·simp[Instr.lookup,run_underlying hm,MapKept.run_getObj_map hb,hc,MapKept.run_findKey hk hf,hz,Result.andThen]
theorem Au {w:World}{b:Nat}{o o':Obj}(hb:w.heap[b]?=some o):Put b w { w with heap:=w.heap.setIfInBounds b o' }∧({ w with heap:=w.heap.setIfInBounds b o' }:World).heap[b]?=some o':=by
 have hlt:b<w.heap.size:=(Array.getElem?_eq_some_iff.1 hb).1;refine ⟨⟨rfl,rfl,rfl,by simp,fun c hc=>by show (w.heap.setIfInBounds b o')[c]?=_;rw[Array.getElem?_setIfInBounds_ne (Ne.symm hc)]⟩,?_⟩
 show (w.heap.setIfInBounds b o')[b]?=_
 rw[Array.getElem?_setIfInBounds_self_of_lt hlt]
def vF (s t:ByteArray):Bool:=s.toList == t.toList
def n3 (s t:ByteArray):Bool:=!(s.toList == t.toList)
theorem Ep {s t:ByteArray}(h:vF s t=true):s=t:=by
 have e:=eq_of_beq (show (s.toList == t.toList)=true from h);rw[Lib.toList_data,Lib.toList_data] at e
 cases s;cases t;congr 1;exact Array.toList_inj.1 e
theorem Dp {s t:ByteArray}(h:vF s t=false):¬s=t:=fun e=>by
 subst e;have:vF s s=true:=beq_self_eq_true _;rw[this] at h;cases h
theorem xB {s t:ByteArray}(h:n3 s t=true):¬s=t:=Dp (by unfold n3 at h;unfold vF;cases e:(s.toList == t.toList)<;>rw[e] at h<;>first|rfl|cases h)
theorem An {s t:ByteArray}(h:n3 s t=false):s=t:=Ep (by unfold n3 at h;unfold vF;cases e:(s.toList == t.toList)<;>rw[e] at h<;>first|rfl|cases h)
section laws
variable {P:Program} {n:Nat} {N R:Po} {X:Nat→Po} {ops:Array Oper} {k:Nat} {Γ:bW} {w:World} {h:Hp} {w0:World} {h0:Hp} {B:List Bx} {Rs:List Rw} {F:List (Hp→Prop)}
theorem SS.pokeJ (s:SS w0 h0 w h B [] F){b:Nat}{w':World}(hj:h[b]?=some bc)(hl:h0.size≤b)(hn:∀ x∈B,x.b≠b)(p:Put b w w'):SS w0 h0 w' h B [] F :=
 ⟨s.g0,⟨s.st.up.put p hj hl s.g0.size,fun x hx=>(p.blk _ (hn x hx)).trans (s.st.own x hx),s.st.jk,s.st.lo,s.st.nd⟩,fun _ hx=>(by cases hx),.nil,s.mo,s.f⟩
theorem Hy (t:Nat)(s:SS w0 h0 w h B Rs F)(H:∀ b w' h',SS w0 h0 w' h' B Rs F→MapJ h0 B w' h' b [] 0→LG P n N R X ops (k+1) ((t,.map (some b))::Γ) w')(hc:cL ops Γ k t n=true:=by kernel_rfl)
  (hr:(execOp (ev Γ) (au ops k)).run P w=.ok (.value (.map (some w.heap.size))) (w.alloc (.map #[] 0)):=by kernel_rfl):LG P n N R X ops k Γ w:=by
 have u:Up w h (w.alloc (.map #[] 0)) (h.push bc):=Up.allocAny s.g _ _ (.inr rfl);refine LG.val t _ _ (bH hc).1 (bH hc).2 hr (H _ _ _ (s.step u) ⟨?_,?_,?_,fun x hx e=>?_⟩)
 ·rw[heap_alloc];exact Array.getElem?_push_size
 ·rw[s.g.size];exact Array.getElem?_push_size
 ·rw[s.g.size];exact s.st.sz
 ·have:=aN (s.st.jk x hx)
  have:=s.g.size
  omega
theorem ED {b clk:Nat}{es:List MapEntry}(mty kt et:TypeId)(ky:ByteArray)(val:Value)(s:SS w0 h0 w h B [] F)(m:MapJ h0 B w h b es clk)(H:∀ w',SS w0 h0 w' h B [] F→MapJ h0 B w' h b (es++[⟨.string ky,val,clk⟩]) (clk+1)→LG P n N R X ops (k+1) Γ w')
  (hc:cS ops Γ k=true:=by kernel_rfl)(hx:execOp (ev Γ) (au ops k)=(do Instr.mapUpdate mty (.map (some b)) (.string ky) val;pure .skip):=by kernel_rfl)(hu:P.underlying mty=some (.map kt et):=by kernel_rfl)(hk:P.underlying kt=some .string:=by kernel_rfl)(hf:Instr.findNow .string (.string ky) es 0=some none:=by kernel_rfl):LG P n N R X ops k Γ w:=by
 have hr:=qQ w (val:=val) hu hk m.obj hf;obtain ⟨p,ho⟩:=Au (o':=.map (es.toArray.push { key:=.string ky,val:=val,born:=clk }) (clk+1)) m.obj;refine LG.store _ (i4 hc).1 (i4 hc).2 ?_ (H _ (s.pokeJ m.jk m.lo m.nb p) ⟨?_,m.jk,m.lo,m.nb⟩)
 ·rw[hx];simp[hr,Result.andThen]
 ·rw[ho];simp
theorem GN (t:Nat){b:Nat}{es:List MapEntry}(mty kt et:TypeId)(ky:ByteArray)(ok:Bool)(v:Value)(found:Bool)(s:SS w0 h0 w h B Rs F)(m:MapS h b es)(H:LG P n N R X ops (k+1) ((t,if ok then .tuple #[v,.bool found] else v)::Γ) w)(hc:cL ops Γ k t n=true:=by kernel_rfl)
  (hx:execOp (ev Γ) (au ops k)=(do pure (.value (←Instr.lookup mty (.map (some b)) (.string ky) ok))):=by kernel_rfl)(hu:P.underlying mty=some (.map kt et):=by kernel_rfl)(hk:P.underlying kt=some .string:=by kernel_rfl)
  (hf:(∃ i,Instr.findNow .string (.string ky) es 0=some (some (i,v))∧found=true)∨(Instr.findNow .string (.string ky) es 0=some none∧found=false∧∀ w,(zeroValue et).run P w=.ok v w)):LG P n N R X ops k Γ w:=by
 obtain ⟨clk,hm⟩:=m.w s.g;refine LG.val t _ w (bH hc).1 (bH hc).2 ?_ H;rw[hx];have hr:=vp w ok (v:=v) (found:=found) hu hk hm (hf.imp id fun h=>⟨h.1,h.2.1,h.2.2 w⟩)
 simp[hr,Result.andThen]
theorem If (t:Nat){b:Nat}{es:List MapEntry}(mty ty kt et:TypeId)(s:SS w0 h0 w h B Rs F)(m:MapS h b es)(H:LG P n N R X ops (k+1) ((t,.int .i64 (es.length:Nat))::Γ) w)(hc:cL ops Γ k t n=true:=by kernel_rfl)
  (hx:execOp (ev Γ) (au ops k)=(do pure (.value (←Builtin.len_ #[mty] ty #[.map (some b)]))):=by kernel_rfl)(hu:P.underlying mty=some (.map kt et):=by kernel_rfl):LG P n N R X ops k Γ w:=by
 obtain ⟨clk,hm⟩:=m.w s.g;refine LG.val t _ w (bH hc).1 (bH hc).2 ?_ H;rw[hx]
 have hr:(Builtin.len_ #[mty] ty #[.map (some b)]).run P w=.ok (goInt es.toArray.size) w:=by
  simp[Builtin.len_,run_underlying hu,MapKept.run_getObj_map hm,Result.andThen]
 simp[hr,Result.andThen,goInt]
theorem SS.pubMap {b clk:Nat}{es:List MapEntry}(s:SS w0 h0 w h B [] F)(m:MapJ h0 B w h b es clk):∃ h',SS w0 h0 w h' B [] F∧MapS h' b es:=by
 have hlt:=aN m.jk;refine ⟨h.setIfInBounds b (.map es.toArray clk),⟨s.g0,⟨⟨s.st.up.ext,⟨by simp;exact s.st.up.gr.size,fun c hc=>?_⟩,⟨by simp;exact s.st.up.g.size,fun c=>?_⟩⟩,s.st.own,fun x hx=>?_,s.st.lo,s.st.nd⟩,fun _ hx=>(by cases hx),.nil,s.mo,s.f.gw s.mo ⟨by simp,fun c _=>?_⟩⟩,clk,?_⟩
 ·have:=m.lo
  rw[Array.getElem?_setIfInBounds_ne oM];exact s.st.up.gr.blk c hc
 ·by_cases e:b=c
  ·subst e;left;rw[Array.getElem?_setIfInBounds_self_of_lt hlt];exact m.obj.symm
  ·rw[Array.getElem?_setIfInBounds_ne e];exact s.st.up.g.blk c
 ·rw[Array.getElem?_setIfInBounds_ne (Ne.symm (m.nb x hx))];exact s.st.jk x hx
 ·by_cases e:b=c
  ·subst e;exact .inr m.jk
  ·left;rw[Array.getElem?_setIfInBounds_ne e]
 ·rw[Array.getElem?_setIfInBounds_self_of_lt hlt]
end laws
end Go.Proofs.YtlgfpiiafagihaaGreatDoor
