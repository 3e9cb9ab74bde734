/- Laws and contracts that the card of this claim stands on, part 5. No condition of ours. -/
import Derived.Test.YtfkjipodndiklaaGreatDoorPv0
import Derived.Test.YtfkjipodndiklaaGreatDoorPv1
import Derived.Test.YtfkjipodndiklaaGreatDoorPv2
import Derived.Test.YtfkjipodndiklaaGreatDoorPv3
set_option maxRecDepth 100000
set_option maxHeartbeats 4000000
namespace Go.Proofs.YtfkjipodndiklaaGreatDoor
open Go.RowKit
open Go.RowKit Go.Shelf
theorem rTerm (inp:Int)(A:Option Addr)(c:Nat)(ts:List RSt)(ss:List OSt)(O:Option Addr)(d:Nat)(os:List Int)(ns:List ByteArray)(Nm:Option Addr)(cN:Nat)(nm:Int→ByteArray)(hnm:nm=(fun z=>ns.getD z.toNat ⟨#[]⟩))(hck:chkTp inp (ss.map OSt.stp) os=0)(hin:inp=(ns.length:Nat))(dp:Nat→Nat)(hdp:DpS dp (ss.map OSt.stp))(hl:ss.length≤1000):∀ (n i:Nat),i<n→i<ss.length→∀ (w:World) (h:Hp),G w h→SlO 7 rsc rst0 h A ts→RSs h ts ss→Si O os h→SlO 1 strc ⟨#[]⟩ h Nm ns→Calls Tryz.prog 44 #[.agg #[iV inp,.slice A ts.length c,.slice O os.length d],nV i,.slice Nm ns.length cN] w (Ret w h (fun v h1=>∃ r,v=rmv r∧RmH (dp i) h1 r (tr nm (ss.map OSt.stp) i)))
  | n+1,i,hn,hi,w,h,g,hA,hT,hO,hN=>rTermS inp A c ts ss O d os i hi ns Nm cN nm hnm hck hin dp hdp hl (fun j z e hj w h g a b c d=>by subst e;exact rTerm inp A _ ts ss O _ os ns Nm cN nm hnm hck hin dp hdp hl n j oM oM w h g a b c d) w h g hA hT hO hN
structure Dif (M:List Nat) (w w0:World):Prop where
  mo:Mo M w w0
  sz:w0.heap.size=w.heap.size
section frn
variable {w0 w w' wi:World} {h0 h h':Hp} {B:List Bx} {R:List Rw} {F:List (Hp→Prop)} {M:List Nat}
end frn
section get
variable {P:Program} {n:Nat} {N R:Po} {X:Nat→Po} {ops:Array Oper} {k:Nat} {Γ:Env} {w:World} {h:Hp} {w0:World} {h0:Hp} {B:List Bx} {Rs:List Rw} {F:List (Hp→Prop)}
end get
section gete
variable {M:Ms} {P:Program} {n:Nat} {N R:Po} {X:Nat→Po} {ops:Array Oper} {k0:Nat} {hr:Hp} {AL:List Al} {L:Array Bool} {Γ:Env} {w:World} {h:Hp} {w0:World} {h0:Hp} {B:List Bx} {Rs:List Rw} {F:List (Hp→Prop)}
end gete
section ops
variable {P:Program} {Γ:Env} {o:Oper}
end ops
section laws
variable {M:Ms} {P:Program} {n:Nat} {N R:Po} {X:Nat→Po} {ops:Array Oper} {k k0:Nat} {hr:Hp} {AL:List Al} {L:Array Bool} {Γ:Env} {w:World} {h:Hp} {w0 wi:World} {h0:Hp} {B:List Bx} {Rs:List Rw} {F:List (Hp→Prop)} {Ml:List Nat}
end laws
section zone
variable {w0 w w':World} {h0 h h':Hp} {B:List Bx} {R:List Rw} {F:List (Hp→Prop)}
end zone
section ret
variable {P:Program} {n:Nat} {Γ:Env} {w:World} {h:Hp} {w0 wz:World} {h0 hz:Hp} {B:List Bx} {Rs:List Rw} {F:List (Hp→Prop)}
end ret
section call
variable {M:Ms} {P:Program} {n:Nat} {N R:Po} {X:Nat→Po} {ops:Array Oper} {k0:Nat} {hr:Hp} {AL:List Al} {L:Array Bool} {Γ:Env} {w:World} {h:Hp} {w0:World} {h0:Hp} {B:List Bx} {Rs:List Rw} {F:List (Hp→Prop)}
end call
def RetS (Φ:Value→World→Hp→Prop):Ending→World→Prop:=fun e w'=>∃ v h',e=.returned v∧Φ v w' h'
section perm
variable {w0:World} {h0:Hp} {w:World} {h:Hp} {B B':List Bx} {R R':List Rw} {F:List (Hp→Prop)}
theorem SS.permBR (s:SS w0 h0 w h B R F)(pB:B.Perm B')(pR:R.Perm R'):SS w0 h0 w h B' R' F :=
  ⟨s.g0,⟨s.st.up,fun x hx=>s.st.own x (pB.mem_iff.2 hx),fun x hx=>s.st.jk x (pB.mem_iff.2 hx),fun x hx=>s.st.lo x (pB.mem_iff.2 hx),((pB.map (·.b)).nodup_iff).1 s.st.nd⟩,
   fun r hr=>⟨(s.ro r (pR.mem_iff.2 hr)).own,(s.ro r (pR.mem_iff.2 hr)).jk,fun b hb hm=>(s.ro r (pR.mem_iff.2 hr)).ap b hb ((pB.map (·.b)).mem_iff.2 hm)⟩,(pR.pairwise_iff (fun h=>h.symm)).1 s.ap,s.mo,s.f⟩
end perm
section ret
variable {P:Program} {n:Nat} {Γ:Env} {w:World} {h:Hp} {w0:World} {h0:Hp} {B:List Bx} {Rs:List Rw} {F:List (Hp→Prop)}
theorem SS.retS {fn:Func}{Φ:Value→World→Hp→Prop}(s:SS w0 h0 w h B Rs F)(ps:List (Nat × Nat × Nat))(v:Value)(hΦ:Φ v w h)(hk:(resK fn Γ && partsOk B ps)=true:=by kernel_rfl)(he:evalL P (resE fn Γ) (partsV B ps)=some (v,partsA B ps):=by kernel_rfl):∀ a,Kn n a Γ→RetP P fn (RetS Φ) a w:=by
  intro a ka;rw[Bool.and_eq_true] at hk
  refine ⟨ka.df.trans (resK_df hk.1),v,?_,v,h,rfl,hΦ⟩;rw[results_env ka hk.1];exact evalL_run _ _ _ _ he (parts_cells s.st.own ps hk.2)
end ret
section call
variable {P:Program} {n:Nat} {N R:Po} {X:Nat→Po} {ops:Array Oper} {k:Nat} {Γ:Env} {w:World}
theorem lCs (t:Nat){f:FuncId}{args:Array Value}{Φ:Value→World→Hp→Prop}(c:Calls P f args w (RetS Φ))(H:∀ v w' h',Φ v w' h'→LG P n N R X ops (k+1) ((t,v)::Γ) w')(hc:cL ops Γ k t n=true:=by kernel_rfl)(hr:(execOp (ev Γ) (opAt ops k)).run P w=.ok (.enter f args) w:=by kernel_rfl):LG P n N R X ops k Γ w :=
  LG.call t f args (cL_1 hc).1 (cL_1 hc).2 hr (c.mono fun e w' ⟨v,h',he,hΦ⟩=>⟨v,he,H v w' h' hΦ⟩)
end call
structure Whole (lo:Nat) (h:Hp) (b:Nat) (ty:TypeId) (vs:List Value):Prop where
  lo:lo≤b
  ty0:(ty == 0)=false
  at_:h[b]?=some (.cells vs.toArray ty (0,0))
section ss
variable {w0:World} {h0:Hp} {w:World} {h:Hp} {B:List Bx} {R:List Rw} {F:List (Hp→Prop)}
end ss
structure Poked (h h':Hp) (b:Nat):Prop where
  oth:∀ c,c≠b→c<h.size→h'[c]?=h[c]?
section ss
variable {w0:World} {h0:Hp} {w:World} {h:Hp} {B:List Bx} {R:List Rw} {F:List (Hp→Prop)}
end ss
section laws
variable {M:Ms} {P:Program} {n:Nat} {N R:Po} {X:Nat→Po} {ops:Array Oper} {k k0:Nat} {hr:Hp} {AL:List Al} {L:Array Bool} {Γ:Env} {w:World} {h:Hp} {w0:World} {h0:Hp} {B:List Bx} {Rs:List Rw} {F:List (Hp→Prop)}
theorem tC (i t:Nat){f:FuncId}{args:Array Value}(c:Calls P f args w fun e w'=>∃ v,e=.returned v∧Tl M w w'∧AG M P n N R X ops k0 (L.setIfInBounds i true) ((t,v)::Γ) w')(hc:(chkT ops k0 L i && knownOp Γ (opAt ops i) && ((opAt ops i).dst == some t) && decide (t<n))=true:=by kernel_rfl)(hw:wantE ops Γ (opAt ops i)=some true:=by kernel_rfl)
    (hr:(execOp (ev Γ) (opAt ops i)).run P w=.ok (.enter f args) w:=by kernel_rfl):AG M P n N R X ops k0 L Γ w:=by
  simp only[Bool.and_eq_true,decide_eq_true_eq,beq_iff_eq] at hc
  obtain ⟨⟨⟨h1,h2⟩,h3⟩,h4⟩:=hc;obtain ⟨hg,hs⟩:=chkT_get h1;intro a ka;refine A.one h1 hg (R':=fun v w'=>Tl M w w'∧AG M P n N R X ops k0 (L.setIfInBounds i true) ((t,v)::Γ) w') ⟨ka.want hw,.inr (.inr ⟨f,args,?_,c⟩)⟩ (fun v w' hq=>hq.1) (fun v w' hq=>?_)
  · rw[ka.exec (Region.noSelect_spec hs i _ · · hg) h2];exact hr
  · rw[h3];exact hq.2 _ (ka.put h4 v)
theorem lAu (t:Nat)(ty:TypeId)(vs:List Value)(s:SS w0 h0 w h B Rs F)(H:∀ b w' h',Up w h w' h'→h.size≤b→SS w0 h0 w' h' (⟨b,ty,vs⟩::B) Rs F→LG P n N R X ops (k+1) ((t,.pointer (some ⟨b,0,none⟩))::Γ) w')(hc:cL ops Γ k t n=true:=by kernel_rfl)
    (hr:(execOp (ev Γ) (opAt ops k)).run P w=.ok (.value (.pointer (some ⟨w.heap.size,0,none⟩))) (w.alloc (.cells vs.toArray ty (0,0))):=by kernel_rfl):LG P n N R X ops k Γ w :=
  LG.var t ty vs s.st (cL_1 hc).1 (cL_1 hc).2 hr (fun b w' h' hb u s'=>H b w' h' u hb (s.new u hb s'))
theorem UpM.put2 {M2:List Nat}{wa w':World}{ha:Hp}{b:Nat}(u:UpM M2 wa ha w h)(p:Put b w w')(hb:ha.size≤b)(ga:G wa ha)(g:G w' h):UpM M2 wa ha w' h :=
  ⟨⟨p.os.trans u.mo.os,p.tape.trans u.mo.tape,p.output.trans u.mo.output,by rw[p.size];exact u.mo.size,fun c hc hm=>(p.blk c (fun e=>by subst e;have:=ga.size;omega)).trans (u.mo.blk c hc hm)⟩,u.gr,g⟩
end laws
theorem mNames  (w:World)(h:Hp)(g:G w h):CR 7 #[] w h (fun v h1=>∃ b,v=.slice (sB b) 3 3∧SlO 1 strc ⟨#[]⟩ h1 (sB b) ([⟨#[120]⟩,⟨#[121]⟩,⟨#[122]⟩]:List ByteArray)):=by
 have hs:=sS g;refine go Tryz.func7 [] rfl (cSLlL hs [.v 0 (sZ)] (lNS (lR 1 9 3 ([.string (⟨#[120]⟩),.string (⟨#[121]⟩),.string (⟨#[122]⟩)]) hs (fun b1 w2 h3 hs=>?_))));replace hs:=hs.aS (SlO.of_flat (sz:=1) (f:=strc) (d:=⟨#[]⟩) (b:=b1) (o:=0) (l:=([⟨#[120]⟩,⟨#[121]⟩,⟨#[122]⟩]:List ByteArray)) (fun _=>rfl) hs.f.1);exact lL hs [.m 0 1] (lNkXr hs [] (qS (sB b1) 3 3) (⟨_,rfl,hs.f.1⟩))
theorem rOneT (op:Int)(ra:RTm)(w:World)(h:Hp)(g:G w h):CR 51 #[iV op,.agg #[iV ra.op,iV ra.n,.bool ra.neg,.slice ra.zA ra.zn ra.zc,.slice ra.dA ra.dn ra.dc,.string ra.s,.slice ra.A ra.m ra.c]] w h (fun v h1=>∃ b,v=rmv ⟨op,0,false,none,0,0,none,0,0,⟨#[]⟩,sB b,1,1⟩∧SlO 7 rmc rtm0 h1 (sB b) [ra]):=by
 have hs:=sS g;refine go Tryz.func51 [(0,iV op),(1,.agg #[iV ra.op,iV ra.n,.bool ra.neg,qS ra.zA ra.zn ra.zc,qS ra.dA ra.dn ra.dc,.string ra.s,qS ra.A ra.m ra.c])] rfl (cSL (lA 3 33 ([iV ra.op,iV ra.n,.bool ra.neg,qS ra.zA ra.zn ra.zc,qS ra.dA ra.dn ra.dc,.string ra.s,qS ra.A ra.m ra.c]) hs (fun b1 w2 h3 hs=>lA 4 33 ([iV 0,iV 0,qF,sZ,sZ,eS,sZ]) hs (fun b4 w5 h6 hs=>lNS (lL hs [.m 5 0,.o 6 (.agg #[iV ra.op,iV ra.n,.bool ra.neg,qS ra.zA ra.zn ra.zc,qS ra.dA ra.dn ra.dc,.string ra.s,qS ra.A ra.m ra.c]) 1 0 7] (lR 7 33 1 ([iV ra.op,iV ra.n,.bool ra.neg,qS ra.zA ra.zn ra.zc,qS ra.dA ra.dn ra.dc,.string ra.s,qS ra.A ra.m ra.c]) hs (fun b7 w8 h9 hs=>?_)))))));replace hs:=hs.aS (SlO.of_flat (sz:=7) (f:=rmc) (d:=rtm0) (b:=b7) (o:=0) (l:=([(⟨ra.op,ra.n,ra.neg,ra.zA,ra.zn,ra.zc,ra.dA,ra.dn,ra.dc,ra.s,ra.A,ra.m,ra.c⟩:RTm)]:List RTm)) (fun _=>rfl) hs.f.1);exact lL hs [.v 8 (.agg #[iV op,iV 0,qF,sZ,sZ,eS,qS (sB b7) 1 1])] (lP 0 0 ([iV op,iV 0,qF,sZ,sZ,eS,qS (sB b7) 1 1]) hs (fun _ hs=>lNkXr hs [(0,0,7)] (.agg #[iV op,iV 0,qF,sZ,sZ,eS,qS (sB b7) 1 1]) (⟨_,rfl,hs.f.1⟩)))
theorem rPowT (ra:RTm)(nn:Int)(w:World)(h:Hp)(g:G w h):CR 19 #[.agg #[iV ra.op,iV ra.n,.bool ra.neg,.slice ra.zA ra.zn ra.zc,.slice ra.dA ra.dn ra.dc,.string ra.s,.slice ra.A ra.m ra.c],iV nn] w h (fun v h1=>∃ b,v=rmv ⟨8,nn,false,none,0,0,none,0,0,⟨#[]⟩,sB b,1,1⟩∧SlO 7 rmc rtm0 h1 (sB b) [ra]):=by
 have hs:=sS g;refine go Tryz.func19 [(0,.agg #[iV ra.op,iV ra.n,.bool ra.neg,qS ra.zA ra.zn ra.zc,qS ra.dA ra.dn ra.dc,.string ra.s,qS ra.A ra.m ra.c]),(1,iV nn)] rfl (cSL (lA 2 33 ([iV ra.op,iV ra.n,.bool ra.neg,qS ra.zA ra.zn ra.zc,qS ra.dA ra.dn ra.dc,.string ra.s,qS ra.A ra.m ra.c]) hs (fun b1 w2 h3 hs=>lA 4 33 ([iV 0,iV 0,qF,sZ,sZ,eS,sZ]) hs (fun b4 w5 h6 hs=>lNS (lL hs [.m 5 1,.o 6 (.agg #[iV ra.op,iV ra.n,.bool ra.neg,qS ra.zA ra.zn ra.zc,qS ra.dA ra.dn ra.dc,.string ra.s,qS ra.A ra.m ra.c]) 1 0 7] (lR 7 33 1 ([iV ra.op,iV ra.n,.bool ra.neg,qS ra.zA ra.zn ra.zc,qS ra.dA ra.dn ra.dc,.string ra.s,qS ra.A ra.m ra.c]) hs (fun b7 w8 h9 hs=>?_)))))));replace hs:=hs.aS (SlO.of_flat (sz:=7) (f:=rmc) (d:=rtm0) (b:=b7) (o:=0) (l:=([(⟨ra.op,ra.n,ra.neg,ra.zA,ra.zn,ra.zc,ra.dA,ra.dn,ra.dc,ra.s,ra.A,ra.m,ra.c⟩:RTm)]:List RTm)) (fun _=>rfl) hs.f.1);exact lL hs [.v 8 (.agg #[iV 8,iV nn,qF,sZ,sZ,eS,qS (sB b7) 1 1])] (lP 0 0 ([iV 8,iV nn,qF,sZ,sZ,eS,qS (sB b7) 1 1]) hs (fun _ hs=>lNkXr hs [(0,0,7)] (.agg #[iV 8,iV nn,qF,sZ,sZ,eS,qS (sB b7) 1 1]) (⟨_,rfl,hs.f.1⟩)))
section
variable {d:Nat}
theorem rOfH (b:Bool)(zA:Option Addr)(zn zc:Nat)(dA:Option Addr)(dn dc:Nat){q:Rat}(w:World)(h:Hp)(g:G w h)(hz:RZ h (b,.slice zA zn zc,.slice dA dn dc) q):CR 48 #[.agg #[.bool b,.slice zA zn zc,.slice dA dn dc]] w h (fun v h1=>∃ r,v=rmv r∧RmH (d+1) h1 r (.mk 1 0 q ⟨#[]⟩ [])) :=
  (rOfT b zA zn zc dA dn dc w h g).mono fun e w' ⟨v,h',e1,u,e2⟩=>⟨v,h',e1,u,_,e2,rm_num (hz.gw u.gr.gw)⟩
theorem rTwoH (op:Int)(ra rb:RTm)(t u:Tm)(w:World)(h:Hp)(g:G w h)(x:RmH d h ra t)(y:RmH d h rb u):CR 50 #[iV op,rmv ra,rmv rb] w h (fun v h1=>∃ r,v=rmv r∧RmH (d+1) h1 r (.mk op 0 0 ⟨#[]⟩ [t,u])) :=
  (rTwoT op ra rb w h g).mono fun e w' ⟨v,h',e1,up,b,e2,e3⟩=>⟨v,h',e1,up,_,e2,rm_two (x.gw up.gr.gw) (y.gw up.gr.gw) e3⟩
theorem rOneH (op:Int)(ra:RTm)(t:Tm)(w:World)(h:Hp)(g:G w h)(x:RmH d h ra t):CR 51 #[iV op,rmv ra] w h (fun v h1=>∃ r,v=rmv r∧RmH (d+1) h1 r (.mk op 0 0 ⟨#[]⟩ [t])) :=
  (rOneT op ra w h g).mono fun e w' ⟨v,h',e1,up,b,e2,e3⟩=>⟨v,h',e1,up,_,e2,rm_one (x.gw up.gr.gw) e3⟩
theorem rPowH (ra:RTm)(t:Tm)(nn:Int)(w:World)(h:Hp)(g:G w h)(x:RmH d h ra t):CR 19 #[rmv ra,iV nn] w h (fun v h1=>∃ r,v=rmv r∧RmH (d+1) h1 r (.mk 8 nn 0 ⟨#[]⟩ [t])) :=
  (rPowT ra nn w h g).mono fun e w' ⟨v,h',e1,up,b,e2,e3⟩=>⟨v,h',e1,up,_,e2,rm_one (x.gw up.gr.gw) e3⟩
end
theorem mGrowS (rbk:Nat)(A:Option Addr)(cap:Nat)(zs:List Int)(hl:zs.length≤9223372036854775807)(hz:I64s zs)(dp:Nat)(hdp:dp≤1000)(ih:∀ z:Int,z+1=(dp:Nat)→0≤z→∀ at_:Nat,at_≤zs.length→∀ (w:World) (h:Hp),G w h→Own w rbk 70 [.slice A zs.length cap,nV at_]→h[rbk]?=some junk→Si A zs h→Calls Tryz.prog 16 #[pB rbk,iV z,.bool false] w (RetM rbk w h (fun v w' h'=>∃ (r:RTm) (t:Tm) (at2:Nat),v=rmv r∧at2≤zs.length∧Own w' rbk 70 [.slice A zs.length cap,nV at2]∧RmH dp h' r t∧GrT dp t)))(at_:Nat)(ha:at_≤zs.length)(w:World)(h:Hp)(g:G w h)(ho:Own w rbk 70 [.slice A zs.length cap,nV at_])(hj:h[rbk]?=some junk)(hA:Si A zs h):Calls Tryz.prog 16 #[pB rbk,nV dp,.bool false] w (RetM rbk w h (fun v w' h'=>∃ (r:RTm) (t:Tm) (at2:Nat),v=rmv r∧at2≤zs.length∧Own w' rbk 70 [.slice A zs.length cap,nV at2]∧RmH (dp+1) h' r t∧GrT (dp+1) t)):=by
 have hmo:UpM [rbk] w h w h:=UpM.refl g;obtain ⟨wz,hz0_,hs⟩:=SS.at_ g ho hj;replace hs:=hs.aS hA;refine go Tryz.func16 [(0,pB rbk),(1,nV dp),(2,qF)] rfl (cSL (lAu 6 33 ([iV 0,iV 0,qF,sZ,sZ,eS,sZ]) hs (fun b1 w2 h3 u4 hlo_b1 hs=>?_)));replace hlo_b1:=Nat.le_trans hmo.gr.size hlo_b1;replace hmo:=hmo.trans (u4.m _);refine lNS (lL hs [.m 10 0] (lCm 11 (rNext A cap zs hl hz rbk at_ oM _ _ hs.g (hs.own 1) (hs.jk 1) hs.f.1) ?_));rintro _ w6 h7 u8 ⟨z5,at_z5,rfl,haz5,hzz5,hOz5⟩;replace hs:=(hs.stepM 1 u8 hOz5).to [⟨b1,33,[iV 0,iV 0,qF,sZ,sZ,eS,sZ]⟩,⟨rbk,70,[qS A zs.length cap,nV at_z5]⟩] [];replace hmo:=hmo.trans u8;have hzz51:=hzz5.1;have hzz52:=hzz5.2;refine lCu 12 (hPick (z5) 19 oM oM _ _ hs.g) ?_;rintro _ _ zu u12 rfl;replace hmo:=hmo.trans (u12.m _);replace hs:=hs.step u12;have lp9:=pick_lt (z5) 19 oM;refine lL hs [.m 7 12] (lNcQ (cSLlL hs [.m 13 2,.m 14 13] (lG 15 ?_)));refine lG 16 ?_;refine lL hs [.v 17 qF] (lNIF (cK (cQ (kZ (CG.join (fun Γ w_=>∃ (zt:Bool) (h_:Hp),Γ=[(0,pB rbk),(1,nV dp),(2,qF),(6,pB b1),(7,nV (pick (z5) 19)),(20,.bool zt)]∧SS wz hz0_ w_ h_ [⟨b1,33,[iV 0,iV 0,qF,sZ,sZ,eS,sZ]⟩,⟨rbk,70,[qS A zs.length cap,nV at_z5]⟩] [] [Si A zs]∧(zt=true→¬(1≤dp∧2≤(pick (z5) 19)∧(pick (z5) 19)<17))∧(zt=false→(1≤dp∧2≤(pick (z5) 19)∧(pick (z5) 19)<17))∧UpM [rbk] w h w_ h_) ?_ ?_)))))
 ·
  refine kQ (lL hs [.m 21 1] ?_);cases zb:(decide ((dp:Int)<(1:Int)))
  ·
   have zw:=oF zb;refine lB 22 zb (lL hs [.m 23 22,.m 24 7] ?_);cases zd:(decide (((pick (z5) 19:Nat):Int)<(2:Int)))
   ·
    have zx:=oF zd;refine lB 25 zd (lL hs [.v 26 qF,.m 27 26,.m 28 7] ?_);cases ze:(decide ((17:Int)≤((pick (z5) 19:Nat):Int)))
    ·
     have zB:=oF ze;refine lB 29 ze (lL hs [.v 30 qF,.m 20 30] (lD ?_));intro a_ ka;exact ⟨_,⟨false,zu,rfl,hs.to _ _,(fun h_=>absurd h_ kD),(fun _=>by omega),hmo⟩,ka.to _ kR⟩
    have zB:=oT ze;refine lB 29 ze (lL hs [.v 30 qT,.m 20 30] (lD ?_));intro a_ ka;exact ⟨_,⟨true,zu,rfl,hs.to _ _,(fun _=>by omega),(fun h_=>absurd h_ kD),hmo⟩,ka.to _ kR⟩
   have zx:=oT zd;refine lB 25 zd (lL hs [.v 26 qT,.m 27 26] (lG 28 ?_));refine lG 29 (lL hs [.v 30 qT,.m 20 30] (lD ?_));intro a_ ka;exact ⟨_,⟨true,zu,rfl,hs.to _ _,(fun _=>by omega),(fun h_=>absurd h_ kD),hmo⟩,ka.to _ kR⟩
  have zw:=oT zb;refine lB 22 zb (lL hs [.m 23 22] (lG 24 ?_));refine lG 25 (lL hs [.v 26 qT,.m 27 26] (lG 28 ?_));refine lG 29 (lL hs [.v 30 qT,.m 20 30] (lD ?_));intro a_ ka;exact ⟨_,⟨true,zu,rfl,hs.to _ _,(fun _=>by omega),(fun h_=>absurd h_ kD),hmo⟩,ka.to _ kR⟩
 rintro _ _ ⟨zt,_,rfl,hs,hT20,hF20,hmo⟩;cases zf:(zt)
 ·
  try rw[zf] at hs
  try rw[zf]
  refine cIF (cSL ?_);have hF20_:=hF20 aM;refine lL hs [.m 48 7] ?_;cases zg:(decide (((pick (z5) 19:Nat):Int)<(4:Int)))
  ·
   have zD:=oF zg;refine lB 49 zg (lL hs [.m 47 49] (lNIF (cSLlL hs [.m 62 7] ?_)));cases zi:(decide (((pick (z5) 19:Nat):Int)<(5:Int)))
   ·
    have zE:=oF zi;refine lB 63 zi (lL hs [.m 61 63] (lNIF (cSLlL hs [.m 76 7] ?_)));cases zj:(decide (((pick (z5) 19:Nat):Int)<(7:Int)))
    ·
     have zG:=oF zj;refine lB 77 zj (lL hs [.m 75 77] (lNIF (cSLlL hs [.m 90 7] ?_)));cases zk:(decide (((pick (z5) 19:Nat):Int)<(8:Int)))
     ·
      have zH:=oF zk;refine lB 91 zk (lL hs [.m 89 91] (lNIF (cSLlL hs [.m 99 7] ?_)));cases zl:(decide (((pick (z5) 19:Nat):Int)<(9:Int)))
      ·
       have zI:=oF zl;refine lB 100 zl (lL hs [.m 98 100] (lNIF (cSLlL hs [.m 116 7] ?_)));cases zm:(decide (((pick (z5) 19:Nat):Int)<(11:Int)))
       ·
        have zJ:=oF zm;refine lB 117 zm (lL hs [.m 115 117] (lNIF (cSLlL hs [.m 130 7] ?_)));cases zo:(decide (((pick (z5) 19:Nat):Int)<(12:Int)))
        ·
         have zK:=oF zo;refine lB 131 zo (lL hs [.m 129 131] (lNIF (cSLlL hs [.m 139 7] ?_)));cases zp:(decide (((pick (z5) 19:Nat):Int)<(13:Int)))
         ·
          have zL:=oF zp;refine lB 140 zp (lL hs [.m 138 140] (lNIF (cSLlL hs [.m 148 7] ?_)));cases zq:(decide (((pick (z5) 19:Nat):Int)<(15:Int)))
          ·
           have zM:=oF zq;refine lB 149 zq (lL hs [.m 147 149] (lNIF (cSLlL hs [.m 157 7] ?_)));cases zr:(decide (((pick (z5) 19:Nat):Int)<(16:Int)))
           ·
            have zN:=oF zr;refine lB 158 zr (lL hs [.m 156 158] (lNIF (cK (cSLlL hs [.m 170 0,.m 171 1] (lI 172 ((dp:Nat)-1) ?_)))));refine lL hs [.m 173 2] (lCm 174 (ih ((dp:Nat)-1) oM oM at_z5 oM _ _ hs.g (hs.own 1) (hs.jk 1) hs.f.1) ?_);rintro _ _ _ u44 ⟨rz41,tz41,at_z41,rfl,haz41,hOz41,hRz41,hGz41⟩;replace hs:=(hs.stepM 1 u44 hOz41).to [⟨b1,33,[iV 0,iV 0,qF,sZ,sZ,eS,sZ]⟩,⟨rbk,70,[qS A zs.length cap,nV at_z41]⟩] [];replace hmo:=hmo.trans u44;replace hs:=(hs.add (K:=fun h_=>RmH dp h_ rz41 tz41) hRz41);refine lL hs [.m 175 0,.m 176 1] (lI 177 ((dp:Nat)-1) ?_);refine lL hs [.m 178 2] (lCm 179 (ih ((dp:Nat)-1) oM oM at_z41 oM _ _ hs.g (hs.own 1) (hs.jk 1) hs.f.2.1) ?_);rintro _ _ _ u48 ⟨rz45,tz45,at_z45,rfl,haz45,hOz45,hRz45,hGz45⟩;replace hs:=(hs.stepM 1 u48 hOz45).to [⟨b1,33,[iV 0,iV 0,qF,sZ,sZ,eS,sZ]⟩,⟨rbk,70,[qS A zs.length cap,nV at_z45]⟩] [];replace hmo:=hmo.trans u48;replace hs:=(hs.add (K:=fun h_=>RmH dp h_ rz45 tz45) hRz45);refine lCu 180 (rTwoH 13 rz41 rz45 tz41 tz45 _ _ hs.g hs.f.2.1 hs.f.1) ?_;rintro _ _ _ u52 ⟨r49,rfl,hRr49⟩;replace hmo:=hmo.trans (u52.m _);replace hs:=hs.step u52;replace hs:=(hs.add (K:=fun h_=>RmH (dp+1) h_ r49 (.mk 13 0 0 ⟨#[]⟩ [tz41,tz45])) hRr49);refine lPu 0 0 ([iV r49.op,iV r49.n,.bool r49.neg,qS r49.zA r49.zn r49.zc,qS r49.dA r49.dn r49.dc,.string r49.s,qS r49.A r49.m r49.c]) hs (fun _ pu hs=>?_);replace hmo:=hmo.put2 pu hlo_b1 g hs.g;refine lN (cTo [(6,pB b1)] ?_);exact kX (hs.retM hmo [(0,0,7)] (rmv r49) ⟨_,_,at_z45,rfl,haz45,hs.own 1,hs.f.1,hGz41.two hGz45 rfl⟩)
           have zN:=oT zr;refine lB 158 zr (lL hs [.m 156 158] (lNIT (cSLlL hs [.m 159 0,.m 160 1] (lI 161 ((dp:Nat)-1) ?_))));refine lL hs [.m 162 2] (lCm 163 (ih ((dp:Nat)-1) oM oM at_z5 oM _ _ hs.g (hs.own 1) (hs.jk 1) hs.f.1) ?_);rintro _ _ _ u57 ⟨rz54,tz54,at_z54,rfl,haz54,hOz54,hRz54,hGz54⟩;replace hs:=(hs.stepM 1 u57 hOz54).to [⟨b1,33,[iV 0,iV 0,qF,sZ,sZ,eS,sZ]⟩,⟨rbk,70,[qS A zs.length cap,nV at_z54]⟩] [];replace hmo:=hmo.trans u57;replace hs:=(hs.add (K:=fun h_=>RmH dp h_ rz54 tz54) hRz54);refine lL hs [.m 164 0,.m 165 1] (lI 166 ((dp:Nat)-1) ?_);refine lL hs [.m 167 2] (lCm 168 (ih ((dp:Nat)-1) oM oM at_z54 oM _ _ hs.g (hs.own 1) (hs.jk 1) hs.f.2.1) ?_);rintro _ _ _ u61 ⟨rz58,tz58,at_z58,rfl,haz58,hOz58,hRz58,hGz58⟩;replace hs:=(hs.stepM 1 u61 hOz58).to [⟨b1,33,[iV 0,iV 0,qF,sZ,sZ,eS,sZ]⟩,⟨rbk,70,[qS A zs.length cap,nV at_z58]⟩] [];replace hmo:=hmo.trans u61;replace hs:=(hs.add (K:=fun h_=>RmH dp h_ rz58 tz58) hRz58);refine lCu 169 (rTwoH 12 rz54 rz58 tz54 tz58 _ _ hs.g hs.f.2.1 hs.f.1) ?_;rintro _ _ _ u65 ⟨r62,rfl,hRr62⟩;replace hmo:=hmo.trans (u65.m _);replace hs:=hs.step u65;replace hs:=(hs.add (K:=fun h_=>RmH (dp+1) h_ r62 (.mk 12 0 0 ⟨#[]⟩ [tz54,tz58])) hRr62);refine lPu 0 0 ([iV r62.op,iV r62.n,.bool r62.neg,qS r62.zA r62.zn r62.zc,qS r62.dA r62.dn r62.dc,.string r62.s,qS r62.A r62.m r62.c]) hs (fun _ pu hs=>?_);replace hmo:=hmo.put2 pu hlo_b1 g hs.g;refine lN (cTo [(0,pB rbk),(1,nV dp),(2,qF),(6,pB b1)] ?_);exact kX (hs.retM hmo [(0,0,7)] (rmv r62) ⟨_,_,at_z58,rfl,haz58,hs.own 1,hs.f.1,hGz54.two hGz58 rfl⟩)
          have zM:=oT zq;refine lB 149 zq (lL hs [.m 147 149] (lNIT (cSLlL hs [.m 150 0,.m 151 1] (lI 152 ((dp:Nat)-1) ?_))));refine lL hs [.m 153 2] (lCm 154 (ih ((dp:Nat)-1) oM oM at_z5 oM _ _ hs.g (hs.own 1) (hs.jk 1) hs.f.1) ?_);rintro _ _ _ u70 ⟨rz67,tz67,at_z67,rfl,haz67,hOz67,hRz67,hGz67⟩;replace hs:=(hs.stepM 1 u70 hOz67).to [⟨b1,33,[iV 0,iV 0,qF,sZ,sZ,eS,sZ]⟩,⟨rbk,70,[qS A zs.length cap,nV at_z67]⟩] [];replace hmo:=hmo.trans u70;replace hs:=(hs.add (K:=fun h_=>RmH dp h_ rz67 tz67) hRz67);refine lCu 155 (rOneH 11 rz67 tz67 _ _ hs.g hs.f.1) ?_;rintro _ _ _ u74 ⟨r71,rfl,hRr71⟩;replace hmo:=hmo.trans (u74.m _);replace hs:=hs.step u74;replace hs:=(hs.add (K:=fun h_=>RmH (dp+1) h_ r71 (.mk 11 0 0 ⟨#[]⟩ [tz67])) hRr71);refine lPu 0 0 ([iV r71.op,iV r71.n,.bool r71.neg,qS r71.zA r71.zn r71.zc,qS r71.dA r71.dn r71.dc,.string r71.s,qS r71.A r71.m r71.c]) hs (fun _ pu hs=>?_);replace hmo:=hmo.put2 pu hlo_b1 g hs.g;exact lN (kX (hs.retM hmo [(0,0,7)] (rmv r71) ⟨_,_,at_z67,rfl,haz67,hs.own 1,hs.f.1,hGz67.one rfl (fun _=>rfl) kD kD⟩))
         have zL:=oT zp;refine lB 140 zp (lL hs [.m 138 140] (lNIT (cSLlL hs [.m 141 0,.m 142 1] (lI 143 ((dp:Nat)-1) ?_))));refine lL hs [.m 144 2] (lCm 145 (ih ((dp:Nat)-1) oM oM at_z5 oM _ _ hs.g (hs.own 1) (hs.jk 1) hs.f.1) ?_);rintro _ _ _ u79 ⟨rz76,tz76,at_z76,rfl,haz76,hOz76,hRz76,hGz76⟩;replace hs:=(hs.stepM 1 u79 hOz76).to [⟨b1,33,[iV 0,iV 0,qF,sZ,sZ,eS,sZ]⟩,⟨rbk,70,[qS A zs.length cap,nV at_z76]⟩] [];replace hmo:=hmo.trans u79;replace hs:=(hs.add (K:=fun h_=>RmH dp h_ rz76 tz76) hRz76);refine lCu 146 (rOneH 10 rz76 tz76 _ _ hs.g hs.f.1) ?_;rintro _ _ _ u83 ⟨r80,rfl,hRr80⟩;replace hmo:=hmo.trans (u83.m _);replace hs:=hs.step u83;replace hs:=(hs.add (K:=fun h_=>RmH (dp+1) h_ r80 (.mk 10 0 0 ⟨#[]⟩ [tz76])) hRr80);refine lPu 0 0 ([iV r80.op,iV r80.n,.bool r80.neg,qS r80.zA r80.zn r80.zc,qS r80.dA r80.dn r80.dc,.string r80.s,qS r80.A r80.m r80.c]) hs (fun _ pu hs=>?_);replace hmo:=hmo.put2 pu hlo_b1 g hs.g;exact lN (kX (hs.retM hmo [(0,0,7)] (rmv r80) ⟨_,_,at_z76,rfl,haz76,hs.own 1,hs.f.1,hGz76.one rfl (fun _=>rfl) kD kD⟩))
        have zK:=oT zo;refine lB 131 zo (lL hs [.m 129 131] (lNIT (cSLlL hs [.m 132 0,.m 133 1] (lI 134 ((dp:Nat)-1) ?_))));refine lL hs [.m 135 2] (lCm 136 (ih ((dp:Nat)-1) oM oM at_z5 oM _ _ hs.g (hs.own 1) (hs.jk 1) hs.f.1) ?_);rintro _ _ _ u88 ⟨rz85,tz85,at_z85,rfl,haz85,hOz85,hRz85,hGz85⟩;replace hs:=(hs.stepM 1 u88 hOz85).to [⟨b1,33,[iV 0,iV 0,qF,sZ,sZ,eS,sZ]⟩,⟨rbk,70,[qS A zs.length cap,nV at_z85]⟩] [];replace hmo:=hmo.trans u88;replace hs:=(hs.add (K:=fun h_=>RmH dp h_ rz85 tz85) hRz85);refine lCu 137 (rOneH 9 rz85 tz85 _ _ hs.g hs.f.1) ?_;rintro _ _ _ u92 ⟨r89,rfl,hRr89⟩;replace hmo:=hmo.trans (u92.m _);replace hs:=hs.step u92;replace hs:=(hs.add (K:=fun h_=>RmH (dp+1) h_ r89 (.mk 9 0 0 ⟨#[]⟩ [tz85])) hRr89);refine lPu 0 0 ([iV r89.op,iV r89.n,.bool r89.neg,qS r89.zA r89.zn r89.zc,qS r89.dA r89.dn r89.dc,.string r89.s,qS r89.A r89.m r89.c]) hs (fun _ pu hs=>?_);replace hmo:=hmo.put2 pu hlo_b1 g hs.g;exact lN (kX (hs.retM hmo [(0,0,7)] (rmv r89) ⟨_,_,at_z85,rfl,haz85,hs.own 1,hs.f.1,hGz85.one rfl (fun _=>rfl) kD kD⟩))
       have zJ:=oT zm;refine lB 117 zm (lL hs [.m 115 117] (lNIT (cSLlL hs [.m 118 0,.m 119 1] (lI 120 ((dp:Nat)-1) ?_))));refine lL hs [.m 121 2] (lCm 122 (ih ((dp:Nat)-1) oM oM at_z5 oM _ _ hs.g (hs.own 1) (hs.jk 1) hs.f.1) ?_);rintro _ _ _ u97 ⟨rz94,tz94,at_z94,rfl,haz94,hOz94,hRz94,hGz94⟩;replace hs:=(hs.stepM 1 u97 hOz94).to [⟨b1,33,[iV 0,iV 0,qF,sZ,sZ,eS,sZ]⟩,⟨rbk,70,[qS A zs.length cap,nV at_z94]⟩] [];replace hmo:=hmo.trans u97;replace hs:=(hs.add (K:=fun h_=>RmH dp h_ rz94 tz94) hRz94);refine lL hs [.m 123 0,.m 124 1] (lI 125 ((dp:Nat)-1) ?_);refine lL hs [.m 126 2] (lCm 127 (ih ((dp:Nat)-1) oM oM at_z94 oM _ _ hs.g (hs.own 1) (hs.jk 1) hs.f.2.1) ?_);rintro _ _ _ u101 ⟨rz98,tz98,at_z98,rfl,haz98,hOz98,hRz98,hGz98⟩;replace hs:=(hs.stepM 1 u101 hOz98).to [⟨b1,33,[iV 0,iV 0,qF,sZ,sZ,eS,sZ]⟩,⟨rbk,70,[qS A zs.length cap,nV at_z98]⟩] [];replace hmo:=hmo.trans u101;replace hs:=(hs.add (K:=fun h_=>RmH dp h_ rz98 tz98) hRz98);refine lCu 128 (rTwoH 6 rz94 rz98 tz94 tz98 _ _ hs.g hs.f.2.1 hs.f.1) ?_;rintro _ _ _ u105 ⟨r102,rfl,hRr102⟩;replace hmo:=hmo.trans (u105.m _);replace hs:=hs.step u105;replace hs:=(hs.add (K:=fun h_=>RmH (dp+1) h_ r102 (.mk 6 0 0 ⟨#[]⟩ [tz94,tz98])) hRr102);refine lPu 0 0 ([iV r102.op,iV r102.n,.bool r102.neg,qS r102.zA r102.zn r102.zc,qS r102.dA r102.dn r102.dc,.string r102.s,qS r102.A r102.m r102.c]) hs (fun _ pu hs=>?_);replace hmo:=hmo.put2 pu hlo_b1 g hs.g;exact lN (kX (hs.retM hmo [(0,0,7)] (rmv r102) ⟨_,_,at_z98,rfl,haz98,hs.own 1,hs.f.1,hGz94.two hGz98 rfl⟩))
      have zI:=oT zl;refine lB 100 zl (lL hs [.m 98 100] (lNIT (cSLlL hs [.m 101 0] (lCm 102 (rNext A cap zs hl hz rbk at_z5 oM _ _ hs.g (hs.own 1) (hs.jk 1) hs.f.1) ?_))));rintro _ _ _ u110 ⟨z107,at_z107,rfl,haz107,hzz107,hOz107⟩;replace hs:=(hs.stepM 1 u110 hOz107).to [⟨b1,33,[iV 0,iV 0,qF,sZ,sZ,eS,sZ]⟩,⟨rbk,70,[qS A zs.length cap,nV at_z107]⟩] [];replace hmo:=hmo.trans u110;have hzz1071:=hzz107.1;have hzz1072:=hzz107.2;refine lCu 103 (hPick (z107) 6 oM oM _ _ hs.g) ?_;rintro _ _ _ u114 rfl;replace hmo:=hmo.trans (u114.m _);replace hs:=hs.step u114;have lp111:=pick_lt (z107) 6 oM;refine lI 104 ((pick (z107) 6:Nat)-2) (lL hs [.m 9 104] (lNcQ (cSLlL hs [.m 105 2] (lNIF (cK (cSLlL hs [.m 108 0,.m 109 1] (lI 110 ((dp:Nat)-1) ?_)))))));refine lL hs [.m 111 2] (lCm 112 (ih ((dp:Nat)-1) oM oM at_z107 oM _ _ hs.g (hs.own 1) (hs.jk 1) hs.f.1) ?_);rintro _ _ _ u118 ⟨rz115,tz115,at_z115,rfl,haz115,hOz115,hRz115,hGz115⟩;replace hs:=(hs.stepM 1 u118 hOz115).to [⟨b1,33,[iV 0,iV 0,qF,sZ,sZ,eS,sZ]⟩,⟨rbk,70,[qS A zs.length cap,nV at_z115]⟩] [];replace hmo:=hmo.trans u118;replace hs:=(hs.add (K:=fun h_=>RmH dp h_ rz115 tz115) hRz115);refine lL hs [.m 113 9] (lCu 114 (rPowH rz115 tz115 ((pick (z107) 6:Nat)-2) _ _ hs.g hs.f.1) ?_);rintro _ _ _ u122 ⟨r119,rfl,hRr119⟩;replace hmo:=hmo.trans (u122.m _);replace hs:=hs.step u122;replace hs:=(hs.add (K:=fun h_=>RmH (dp+1) h_ r119 (.mk 8 ((pick (z107) 6:Nat)-2) 0 ⟨#[]⟩ [tz115])) hRr119);refine lPu 0 0 ([iV r119.op,iV r119.n,.bool r119.neg,qS r119.zA r119.zn r119.zc,qS r119.dA r119.dn r119.dc,.string r119.s,qS r119.A r119.m r119.c]) hs (fun _ pu hs=>?_);replace hmo:=hmo.put2 pu hlo_b1 g hs.g;exact lN (kX (hs.retM hmo [(0,0,7)] (rmv r119) ⟨_,_,at_z115,rfl,haz115,hs.own 1,hs.f.1,hGz115.one rfl (fun h_=>absurd rfl h_) oM oM⟩))
     have zH:=oT zk;refine lB 91 zk (lL hs [.m 89 91] (lNIT (cSLlL hs [.m 92 0,.m 93 1] (lI 94 ((dp:Nat)-1) ?_))));refine lL hs [.m 95 2] (lCm 96 (ih ((dp:Nat)-1) oM oM at_z5 oM _ _ hs.g (hs.own 1) (hs.jk 1) hs.f.1) ?_);rintro _ _ _ u127 ⟨rz124,tz124,at_z124,rfl,haz124,hOz124,hRz124,hGz124⟩;replace hs:=(hs.stepM 1 u127 hOz124).to [⟨b1,33,[iV 0,iV 0,qF,sZ,sZ,eS,sZ]⟩,⟨rbk,70,[qS A zs.length cap,nV at_z124]⟩] [];replace hmo:=hmo.trans u127;replace hs:=(hs.add (K:=fun h_=>RmH dp h_ rz124 tz124) hRz124);refine lCu 97 (rOneH 7 rz124 tz124 _ _ hs.g hs.f.1) ?_;rintro _ _ _ u131 ⟨r128,rfl,hRr128⟩;replace hmo:=hmo.trans (u131.m _);replace hs:=hs.step u131;replace hs:=(hs.add (K:=fun h_=>RmH (dp+1) h_ r128 (.mk 7 0 0 ⟨#[]⟩ [tz124])) hRr128);refine lPu 0 0 ([iV r128.op,iV r128.n,.bool r128.neg,qS r128.zA r128.zn r128.zc,qS r128.dA r128.dn r128.dc,.string r128.s,qS r128.A r128.m r128.c]) hs (fun _ pu hs=>?_);replace hmo:=hmo.put2 pu hlo_b1 g hs.g;exact lN (kX (hs.retM hmo [(0,0,7)] (rmv r128) ⟨_,_,at_z124,rfl,haz124,hs.own 1,hs.f.1,hGz124.one rfl (fun _=>rfl) kD kD⟩))
    have zG:=oT zj;refine lB 77 zj (lL hs [.m 75 77] (lNIT (cSLlL hs [.m 78 0,.m 79 1] (lI 80 ((dp:Nat)-1) ?_))));refine lL hs [.m 81 2] (lCm 82 (ih ((dp:Nat)-1) oM oM at_z5 oM _ _ hs.g (hs.own 1) (hs.jk 1) hs.f.1) ?_);rintro _ _ _ u136 ⟨rz133,tz133,at_z133,rfl,haz133,hOz133,hRz133,hGz133⟩;replace hs:=(hs.stepM 1 u136 hOz133).to [⟨b1,33,[iV 0,iV 0,qF,sZ,sZ,eS,sZ]⟩,⟨rbk,70,[qS A zs.length cap,nV at_z133]⟩] [];replace hmo:=hmo.trans u136;replace hs:=(hs.add (K:=fun h_=>RmH dp h_ rz133 tz133) hRz133);refine lL hs [.m 83 0,.m 84 1] (lI 85 ((dp:Nat)-1) ?_);refine lL hs [.m 86 2] (lCm 87 (ih ((dp:Nat)-1) oM oM at_z133 oM _ _ hs.g (hs.own 1) (hs.jk 1) hs.f.2.1) ?_);rintro _ _ _ u140 ⟨rz137,tz137,at_z137,rfl,haz137,hOz137,hRz137,hGz137⟩;replace hs:=(hs.stepM 1 u140 hOz137).to [⟨b1,33,[iV 0,iV 0,qF,sZ,sZ,eS,sZ]⟩,⟨rbk,70,[qS A zs.length cap,nV at_z137]⟩] [];replace hmo:=hmo.trans u140;replace hs:=(hs.add (K:=fun h_=>RmH dp h_ rz137 tz137) hRz137);refine lCu 88 (rTwoH 5 rz133 rz137 tz133 tz137 _ _ hs.g hs.f.2.1 hs.f.1) ?_;rintro _ _ _ u144 ⟨r141,rfl,hRr141⟩;replace hmo:=hmo.trans (u144.m _);replace hs:=hs.step u144;replace hs:=(hs.add (K:=fun h_=>RmH (dp+1) h_ r141 (.mk 5 0 0 ⟨#[]⟩ [tz133,tz137])) hRr141);refine lPu 0 0 ([iV r141.op,iV r141.n,.bool r141.neg,qS r141.zA r141.zn r141.zc,qS r141.dA r141.dn r141.dc,.string r141.s,qS r141.A r141.m r141.c]) hs (fun _ pu hs=>?_);replace hmo:=hmo.put2 pu hlo_b1 g hs.g;exact lN (kX (hs.retM hmo [(0,0,7)] (rmv r141) ⟨_,_,at_z137,rfl,haz137,hs.own 1,hs.f.1,hGz133.two hGz137 rfl⟩))
   have zE:=oT zi;refine lB 63 zi (lL hs [.m 61 63] (lNIT (cSLlL hs [.m 64 0,.m 65 1] (lI 66 ((dp:Nat)-1) ?_))));refine lL hs [.m 67 2] (lCm 68 (ih ((dp:Nat)-1) oM oM at_z5 oM _ _ hs.g (hs.own 1) (hs.jk 1) hs.f.1) ?_);rintro _ _ _ u149 ⟨rz146,tz146,at_z146,rfl,haz146,hOz146,hRz146,hGz146⟩;replace hs:=(hs.stepM 1 u149 hOz146).to [⟨b1,33,[iV 0,iV 0,qF,sZ,sZ,eS,sZ]⟩,⟨rbk,70,[qS A zs.length cap,nV at_z146]⟩] [];replace hmo:=hmo.trans u149;replace hs:=(hs.add (K:=fun h_=>RmH dp h_ rz146 tz146) hRz146);refine lL hs [.m 69 0,.m 70 1] (lI 71 ((dp:Nat)-1) ?_);refine lL hs [.m 72 2] (lCm 73 (ih ((dp:Nat)-1) oM oM at_z146 oM _ _ hs.g (hs.own 1) (hs.jk 1) hs.f.2.1) ?_);rintro _ _ _ u153 ⟨rz150,tz150,at_z150,rfl,haz150,hOz150,hRz150,hGz150⟩;replace hs:=(hs.stepM 1 u153 hOz150).to [⟨b1,33,[iV 0,iV 0,qF,sZ,sZ,eS,sZ]⟩,⟨rbk,70,[qS A zs.length cap,nV at_z150]⟩] [];replace hmo:=hmo.trans u153;replace hs:=(hs.add (K:=fun h_=>RmH dp h_ rz150 tz150) hRz150);refine lCu 74 (rTwoH 4 rz146 rz150 tz146 tz150 _ _ hs.g hs.f.2.1 hs.f.1) ?_;rintro _ _ _ u157 ⟨r154,rfl,hRr154⟩;replace hmo:=hmo.trans (u157.m _);replace hs:=hs.step u157;replace hs:=(hs.add (K:=fun h_=>RmH (dp+1) h_ r154 (.mk 4 0 0 ⟨#[]⟩ [tz146,tz150])) hRr154);refine lPu 0 0 ([iV r154.op,iV r154.n,.bool r154.neg,qS r154.zA r154.zn r154.zc,qS r154.dA r154.dn r154.dc,.string r154.s,qS r154.A r154.m r154.c]) hs (fun _ pu hs=>?_);replace hmo:=hmo.put2 pu hlo_b1 g hs.g;exact lN (kX (hs.retM hmo [(0,0,7)] (rmv r154) ⟨_,_,at_z150,rfl,haz150,hs.own 1,hs.f.1,hGz146.two hGz150 rfl⟩))
  have zD:=oT zg;refine lB 49 zg (lL hs [.m 47 49] (lNIT (cSLlL hs [.m 50 0,.m 51 1] (lI 52 ((dp:Nat)-1) ?_))));refine lL hs [.m 53 2] (lCm 54 (ih ((dp:Nat)-1) oM oM at_z5 oM _ _ hs.g (hs.own 1) (hs.jk 1) hs.f.1) ?_);rintro _ _ _ u162 ⟨rz159,tz159,at_z159,rfl,haz159,hOz159,hRz159,hGz159⟩;replace hs:=(hs.stepM 1 u162 hOz159).to [⟨b1,33,[iV 0,iV 0,qF,sZ,sZ,eS,sZ]⟩,⟨rbk,70,[qS A zs.length cap,nV at_z159]⟩] [];replace hmo:=hmo.trans u162;replace hs:=(hs.add (K:=fun h_=>RmH dp h_ rz159 tz159) hRz159);refine lL hs [.m 55 0,.m 56 1] (lI 57 ((dp:Nat)-1) ?_);refine lL hs [.m 58 2] (lCm 59 (ih ((dp:Nat)-1) oM oM at_z159 oM _ _ hs.g (hs.own 1) (hs.jk 1) hs.f.2.1) ?_);rintro _ _ _ u166 ⟨rz163,tz163,at_z163,rfl,haz163,hOz163,hRz163,hGz163⟩;replace hs:=(hs.stepM 1 u166 hOz163).to [⟨b1,33,[iV 0,iV 0,qF,sZ,sZ,eS,sZ]⟩,⟨rbk,70,[qS A zs.length cap,nV at_z163]⟩] [];replace hmo:=hmo.trans u166;replace hs:=(hs.add (K:=fun h_=>RmH dp h_ rz163 tz163) hRz163);refine lCu 60 (rTwoH 3 rz159 rz163 tz159 tz163 _ _ hs.g hs.f.2.1 hs.f.1) ?_;rintro _ _ _ u170 ⟨r167,rfl,hRr167⟩;replace hmo:=hmo.trans (u170.m _);replace hs:=hs.step u170;replace hs:=(hs.add (K:=fun h_=>RmH (dp+1) h_ r167 (.mk 3 0 0 ⟨#[]⟩ [tz159,tz163])) hRr167);refine lPu 0 0 ([iV r167.op,iV r167.n,.bool r167.neg,qS r167.zA r167.zn r167.zc,qS r167.dA r167.dn r167.dc,.string r167.s,qS r167.A r167.m r167.c]) hs (fun _ pu hs=>?_);replace hmo:=hmo.put2 pu hlo_b1 g hs.g;exact lN (kX (hs.retM hmo [(0,0,7)] (rmv r167) ⟨_,_,at_z163,rfl,haz163,hs.own 1,hs.f.1,hGz159.two hGz163 rfl⟩))
 try rw[zf] at hs
 try rw[zf]
 refine cIT (cSLlL hs [.m 31 0] (lCm 32 (rNext A cap zs hl hz rbk at_z5 oM _ _ hs.g (hs.own 1) (hs.jk 1) hs.f.1) ?_));rintro _ _ _ u175 ⟨z172,at_z172,rfl,haz172,hzz172,hOz172⟩;replace hs:=(hs.stepM 1 u175 hOz172).to [⟨b1,33,[iV 0,iV 0,qF,sZ,sZ,eS,sZ]⟩,⟨rbk,70,[qS A zs.length cap,nV at_z172]⟩] [];replace hmo:=hmo.trans u175;have hzz1721:=hzz172.1;have hzz1722:=hzz172.2;have htd_:=tdiv_bd z172 3 oM hzz1721 hzz1722;refine lL hs [.m 8 32] (lNcQ (cSLlL hs [.m 33 8] (lCu 34 (hPick (z172) 3 oM oM _ _ hs.g) ?_)));rintro _ _ _ u179 rfl;replace hmo:=hmo.trans (u179.m _);replace hs:=hs.step u179;have lp176:=pick_lt (z172) 3 oM;cases za:(((pick (z172) 3:Nat):Int) == (0:Int))
 ·
  have zv:=neOfBeq za;refine lB 35 za (lNIF (cK (cSL (lCu 40 (mNames _ _ hs.g) ?_))));rintro _ _ _ u183 ⟨bN,rfl,hN0⟩;replace hmo:=hmo.trans (u183.m _);replace hs:=hs.step u183;replace hs:=hs.aS hN0;have hnl3:([⟨#[120]⟩,⟨#[121]⟩,⟨#[122]⟩]:List ByteArray).length=3:=rfl;refine lL hs [.m 41 8] (lV 42 (iV ((z172).tdiv 3)) ?_ (hr:=rS (((z172).tdiv 3)) kR (fitI64 oM oM)));refine lCu 43 (hPick ((z172).tdiv 3) 3 oM oM _ _ hs.g) ?_;rintro _ _ _ u187 rfl;replace hmo:=hmo.trans (u187.m _);replace hs:=hs.step u187;have lp184:=pick_lt ((z172).tdiv 3) 3 oM;refine lX 44 (sB bN) 3 3 1 (pick ((z172).tdiv 3) 3:Nat) (pick ((z172).tdiv 3) 3:Nat) ((hs.f.1).ok oM) (lH 45 (.string (([⟨#[120]⟩,⟨#[121]⟩,⟨#[122]⟩]:List ByteArray).getD (pick ((z172).tdiv 3) 3:Nat) ⟨#[]⟩)) hs ((hs.f.1).el (pick ((z172).tdiv 3) 3:Nat) oM) (lL hs [.v 46 (.agg #[iV 2,iV 0,qF,sZ,sZ,.string (([⟨#[120]⟩,⟨#[121]⟩,⟨#[122]⟩]:List ByteArray).getD (pick ((z172).tdiv 3) 3:Nat) ⟨#[]⟩),sZ])] (lPu 0 0 ([iV 2,iV 0,qF,sZ,sZ,.string (([⟨#[120]⟩,⟨#[121]⟩,⟨#[122]⟩]:List ByteArray).getD (pick ((z172).tdiv 3) 3:Nat) ⟨#[]⟩),sZ]) hs (fun _ pu hs=>?_))));replace hmo:=hmo.put2 pu hlo_b1 g hs.g;exact lN (kX (hs.retM hmo [(0,0,7)] (.agg #[iV 2,iV 0,qF,sZ,sZ,.string (([⟨#[120]⟩,⟨#[121]⟩,⟨#[122]⟩]:List ByteArray).getD (pick ((z172).tdiv 3) 3:Nat) ⟨#[]⟩),sZ]) ⟨⟨2,0,false,none,0,0,none,0,0,([⟨#[120]⟩,⟨#[121]⟩,⟨#[122]⟩]:List ByteArray).getD (pick ((z172).tdiv 3) 3:Nat) ⟨#[]⟩,none,0,0⟩,_,at_z172,rfl,haz172,hs.own 1,rm_name,GrT.name (okx_at oM)⟩))
 have zv:=eq_of_beq za;refine lB 35 za (lNIT (cSLlL hs [.m 36 8] (lV 37 (iV ((z172).tdiv 3)) ?_ (hr:=rS (((z172).tdiv 3)) kR (fitI64 oM oM)))));refine lCu 38 (hR ((z172).tdiv 3) oM oM _ _ hs.g) ?_;rintro _ _ _ u199 ⟨zU,zW,zX,ya,rfl,zP,zQ,zR,zS⟩;replace hmo:=hmo.trans (u199.m _);replace hs:=hs.step u199;replace hs:=hs.aP zR zS;refine lCu 39 (rOfH (d:=dp) (ineg (handRq ((z172).tdiv 3)).num) zU ((lim (iabs (handRq ((z172).tdiv 3)).num)).length) zW zX ((lim (handRq ((z172).tdiv 3)).den).length) ya _ _ hs.g ⟨true,⟨_,_,_,_,rfl,zP,zQ,hs.f.2.1,hs.f.1⟩,fun h_=>(by cases h_)⟩) ?_;rintro _ _ _ u203 ⟨r200,rfl,hRr200⟩;replace hmo:=hmo.trans (u203.m _);replace hs:=hs.step u203;replace hs:=(hs.add (K:=fun h_=>RmH (dp+1) h_ r200 (.mk 1 0 (handRq ((z172).tdiv 3)) ⟨#[]⟩ [])) hRr200);refine lPu 0 0 ([iV r200.op,iV r200.n,.bool r200.neg,qS r200.zA r200.zn r200.zc,qS r200.dA r200.dn r200.dc,.string r200.s,qS r200.A r200.m r200.c]) hs (fun _ pu hs=>?_);replace hmo:=hmo.put2 pu hlo_b1 g hs.g;exact lN (kX (hs.retM hmo [(0,0,7)] (rmv r200) ⟨_,_,at_z172,rfl,haz172,hs.own 1,hs.f.1,GrT.num (LQ.hand _)⟩))
theorem grown_snoc {d:Nat}{l:List Tm}{t:Tm}(h:∀ i,i<l.length→GrT d (l.getD i tm0))(x:GrT d t):∀ i,i<(l++[t]).length→GrT d ((l++[t]).getD i tm0):=fun i hi=>by
  rw[List.length_append,List.length_singleton] at hi
  rw[getD_snoc]
  by_cases e:i<l.length
  · rw[if_pos e];exact h i e
  · rw[if_neg e,if_pos oM];exact x
theorem mGrow (rbk:Nat):∀ (k:Nat) {z:Int},z=(k:Nat)→∀ (A:Option Addr) (cap:Nat) (zs:List Int) (hl:zs.length≤9223372036854775807) (hz:I64s zs) (dp:Nat),dp=k→dp≤1000→∀ (at_:Nat),at_≤zs.length→∀ (w:World) (h:Hp),G w h→Own w rbk 70 [.slice A zs.length cap,nV at_]→h[rbk]?=some junk→Si A zs h→Calls Tryz.prog 16 #[pB rbk,iV z,.bool false] w (RetM rbk w h (fun v w' h'=>∃ (r:RTm) (t:Tm) (at2:Nat),v=rmv r∧at2≤zs.length∧Own w' rbk 70 [.slice A zs.length cap,nV at2]∧RmH (dp+1) h' r t∧GrT (dp+1) t))
  | 0,z,e,A,cap,zs,hl,hz,dp,ed,hd,at_,ha,w,h,g,ho,hj,hA=>by
    subst ed e;exact mGrowS rbk A cap zs hl hz 0 hd (fun z h1 h2=>by omega) at_ ha w h g ho hj hA
  | k+1,z,e,A,cap,zs,hl,hz,dp,ed,hd,at_,ha,w,h,g,ho,hj,hA=>by
    subst ed e;exact mGrowS rbk A cap zs hl hz (k+1) hd (fun z h1 h2=>mGrow rbk k (z:=z) oM A cap zs hl hz k rfl oM) at_ ha w h g ho hj hA
theorem mTerms {w0:World}{h0:Hp}{B2:List Bx}{R2:List Rw}{F2:List (Hp→Prop)}(A:Option Addr)(cap:Nat)(zs:List Int)(hl:zs.length≤9223372036854775807)(hz:I64s zs)(dp n:Nat)(hdp:dp≤1000)(hn:n≤1000)(w:World)(h:Hp)(g:G w h)(hA:Si A zs h)(hs:SS w0 h0 w h B2 R2 F2):Calls Tryz.prog 4 #[.slice A zs.length cap,nV dp,nV n] w (RetS fun v w1 h1=>∃ (A1:Option Addr) (c1:Nat) (rs:List RTm) (ts:List Tm),v=.slice A1 rs.length c1∧ts.length=n∧Rms (dp+1) h1 rs ts∧(∀ i,i<ts.length→GrT (dp+1) (ts.getD i tm0))∧SS w0 h0 w1 h1 B2 (⟨33,7,A1,c1,(rs).length,(rs).flatMap rmc⟩::R2) F2):=by
 replace hs:=hs.to ([]++B2) ([]++R2);replace hs:=hs.aS hA;refine go Tryz.func4 [(0,qS A zs.length cap),(1,nV dp),(2,nV n)] rfl (cSLlL hs [.v 6 (sZ)] (lNS (lL hs [.m 10 0,.v 11 (.agg #[qS A zs.length cap,iV 0])] (lA 12 70 ([qS A zs.length cap,iV 0]) hs (fun b1 w2 h3 hs=>lL hs [.m 7 12] (lNS (lL hs [.v 8 (sZ)] (lNcQ (cSLlL hs [.v 9 (iV 0)] (lNkZ ?_))))))))));replace hs:=hs.nil 33 7;refine cTo [(1,nV dp),(2,nV n),(6,sZ),(7,pB b1),(9,iV 0),(8,sZ)] ?_;replace hs:=hs.add (K:=fun h_=>Rms (dp+1) h_ ([]) ([])) (Rms.nil);refine CG.loop (fun μ_ Γ w_=>∃ (k:Nat) (saA:Option Addr) (sac:Nat) (al:List RTm) (ul:List Tm) (at1:Nat) (h_:Hp),μ_=n-k∧Γ=[(1,nV dp),(2,nV n),(6,sZ),(7,pB b1),(9,nV k),(8,qS saA ((al).length) sac)]∧SS w0 h0 w_ h_ ([⟨b1,70,[qS A zs.length cap,nV at1]⟩]++B2) ([⟨33,7,saA,sac,(al).length,(al).flatMap rmc⟩]++R2) ([fun h_=>Rms (dp+1) h_ al ul,Si A zs]++F2)∧k≤n∧at1≤zs.length∧ul.length=k∧(∀ i,i<ul.length→GrT (dp+1) (ul.getD i tm0))) _ ⟨0,none,0,[],[],0,h3,rfl,rfl,hs.to _ _,Nat.zero_le _,Nat.zero_le _,rfl,(fun i hi=>absurd hi (Nat.not_lt_zero i))⟩ ?_;rintro _ _ w4 ⟨k,saA,sac,al,ul,at1,h5,hm6,rfl,hs,hk,hat1,hkl,hGa⟩;have hla:=(hs.f.1).len;refine cQ (cSLlL hs [.m 13 9,.m 14 2] ?_);cases hb7:(decide ((k:Int)<(n:Int)))
 ·
  have phb7:=oF hb7;refine lB 15 hb7 (lNIF (CG.exit ?_))
  show CG _ _ _ _ _ _ _ _
  refine cSLlL hs [.m 24 8,.m 6 24] (lN (kX (hs.retS [] (qS saA ((al).length) sac) ?_)));exact ⟨saA,sac,al,ul,rfl,by omega,hs.f.1,hGa,(hs.tl.tl.drop 1 0).to _ _⟩
 have phb7:=oT hb7;refine lB 15 hb7 (lNIT (cK (cQ (kZ (kQ (lL hs [.m 18 8,.m 19 7,.m 20 1] (lCm 21 (mGrow b1 dp rfl A cap zs hl hz dp rfl hdp at1 oM _ _ hs.g (hs.own 0) (hs.jk 0) hs.f.2.1) ?_)))))));rintro _ w9 _ u11 ⟨rz8,tz8,at_z8,rfl,haz8,hOz8,hRz8,hGz8⟩;replace hs:=(hs.stepM 0 u11 hOz8).to ([⟨b1,70,[qS A zs.length cap,nV at_z8]⟩]++B2) ([⟨33,7,saA,sac,(al).length,(al).flatMap rmc⟩]++R2);replace hs:=(hs.add (K:=fun h_=>RmH (dp+1) h_ rz8 tz8) hRz8);refine lR 22 33 1 ([iV rz8.op,iV rz8.n,.bool rz8.neg,qS rz8.zA rz8.zn rz8.zc,qS rz8.dA rz8.dn rz8.dc,.string rz8.s,qS rz8.A rz8.m rz8.c]) hs (fun za _ _ hs=>lY 23 0 33 7 sac saA al rmc rz8 112 za (.agg #[iV 0,iV 0,qF,sZ,sZ,eS,sZ]) hs hs.f.1 (fun zb zd _ ze hs=>lL hs [.m 8 23] (lN (kQ (lL hs [.m 16 9] (lIn 17 ((k:Nat)+1) (k+1) ?_))))));refine lL hs [.m 9 17] (lD ?_);intro a_ ka;replace hs:=(hs.tl.tl.tl.add (K:=fun h_=>Rms (dp+1) h_ (al++[rz8]) (ul++[tz8])) ((hs.f.r.1).snoc hs.f.2.1));refine ⟨_,_,?_,⟨k+1,zb,zd,al++[rz8],ul++[tz8],at_z8,ze,rfl,rfl,hs.to _ _,oM,haz8,(by rw[List.length_append,hkl];rfl),(grown_snoc hGa hGz8)⟩,ka.to _ kR⟩
 omega
def strL (s t:ByteArray):Bool:=Go.Op.bytesLess s.toList t.toList
section
variable {M:Ms} {P:Program} {n:Nat} {N R:Po} {X:Nat→Po} {ops:Array Oper} {k k0:Nat} {hr:Hp} {AL:List Al} {L:Array Bool} {Γ:Env} {w:World} {h:Hp} {w0:World} {h0:Hp} {B:List Bx} {Rs:List Rw} {F:List (Hp→Prop)}
theorem own_cap {base:Nat}{e:TypeId}{sz:Nat}{A:Option Addr}{l c n:Nat}{xs:List Value}(o:w.ownsRow base e sz (.slice A l c) n xs):l≤c:=by
  rcases o with ⟨_,⟨e1,_⟩|⟨g,cap,cur,e1,_,_,h1,_⟩⟩
  · cases e1;exact Nat.le_refl _
  · cases e1;exact h1
theorem app_none {α:Type}{o:Oper}{ty:TypeId}{sz bt c c2 j:Nat}{z:Value}{A A2:Option Addr}{l:List α}{f:α→List Value}(s:SS w0 h0 w h B Rs F)(he:apE P (ev Γ) o=some (.slice A l.length c,.slice A2 0 c2,ty,z,sz,bt))(hr':Rs.getD j default=⟨ty,sz,A,c,l.length,l.flatMap f⟩)(hj:j<Rs.length) :
    (execOp (ev Γ) o).run P w=.ok (.value (.slice A l.length c)) w:=by
  obtain ⟨x,y,ty',ho,hx,hy,hu,hi⟩:=apE_op he;have r:=s.ro _ (List.getElem_mem hj);rw[rw_get hr' hj] at r
  cases hinf:P.info? ty with
  | none=>rw[hinf] at hi;cases hi
  | some inf =>
    rw[hinf] at hi
    have hs:Src P inf.size ty' (.slice A2 0 c2) 0 [] w:=by
      cases A2 with
      | none=>exact Src.ofNil w hu c2
      | some a=>exact Src.ofSlice w hu a 0 c2 [] (by simp) (fun j u hj=>by cases hj) (fun u hu=>by cases hu)
    have hrun:=run_append_nothing (P:=P) w ty' ty' o.type ty inf hu hinf A l.length c (own_cap r.own) (.slice A2 0 c2) hs
    unfold execOp
    simp only[ho,resolve,invoke,builtin,Sem.run_bind,Sem.run_pure,Result.andThen_ok,List.map_toArray,List.map_cons,List.map_nil,hx,hy,hrun]
theorem lYa {α:Type}(t j:Nat)(ty:TypeId)(sz c:Nat)(A:Option Addr)(l:List α)(f:α→List Value)(d:α)(A2:Option Addr)(m:List α)(n2 c2 bt:Nat)(z:Value)(s:SS w0 h0 w h B Rs F)(so:SlO sz f d h A2 m)
    (H:∀ A' c' w' h',SS w0 h0 w' h' B (Rs.set j ⟨ty,sz,A',c',(l++m).length,(l++m).flatMap f⟩) F→LG P n N R X ops (k+1) ((t,.slice A' (l++m).length c')::Γ) w')
    (hc:cL ops Γ k t n=true:=by kernel_rfl)(he:apE P (ev Γ) (opAt ops k)=some (.slice A l.length c,.slice A2 n2 c2,ty,z,sz,bt):=by kernel_rfl)(hn:n2=m.length:=by omega)(hf:∀ x,(f x).length=sz:=by intro _;rfl)(h1:∀ x,(f x).all (·.oneCell')=true:=by intro _;kernel_rfl)(hzs:z.cells.size=sz:=by kernel_rfl)(hpos:0<sz:=by decide)
    (hr:Rs.getD j default=⟨ty,sz,A,c,l.length,l.flatMap f⟩:=by kernel_rfl)(hj:decide (j<Rs.length)=true:=by kernel_rfl)(hm:l.length+m.length≤1099511627776:=by omega)(hb:(l.length+m.length)*bt≤140737488355328:=by omega):LG P n N R X ops k Γ w:=by
  subst hn;cases m with
  | nil =>
    have hj':=oT hj;have e0:l++[]=l:=List.append_nil l;rw[e0] at H
    have es:Rs.set j ⟨ty,sz,A,c,l.length,l.flatMap f⟩=Rs:=by
      have:=rw_get hr hj';rw[←this,List.set_getElem_self]
    have s1:=s;rw[←es] at s1
    exact LG.val t _ w (cL_1 hc).1 (cL_1 hc).2 (app_none s he hr hj') (H A c w h s1)
  | cons x xs=>exact lYs t j ty sz c A l f d A2 (x::xs) c2 bt z s so (Nat.succ_pos _) H hc he hf h1 hzs hpos hr hj hm hb
theorem anyR_firstV {Q:Exit→Act→World→Prop}{i:Nat}{oi:Oper}{v:Value}(hi:ops[i]?=some oi)(hsel:∀ (j:Nat) (o:Oper) cs b,ops[j]?=some o→o.op≠.select cs b)
    (hQ:∀ c a w,Q (.panic c) (a.put oi.dst v) w→Q (.panic c) a w) :
    ∀ (n:Nat) (L:Array Bool) (a:Act) (w:World),
      (∀ j oj,ops[j]?=some oj→j≠i→L.getD j true=false→(∀ e∈oj.after,Region.binds .any e=true→e.on≠i)→oi.apart ops oj=true) →
      i∈Region.ready .any ops L→YieldsIf P ops (fun _=>True) oi v a→anyR M P ops Q k0 n (L.setIfInBounds i true) (a.put oi.dst v) w→anyR M P ops Q k0 (n+1) L a w:=by
  intro n
  induction n with
  | zero =>
    intro L a w _ hr hy H;refine ⟨fun h=>(by rw[h] at hr;cases hr),fun j hj=>?_⟩
    by_cases hji:j=i
    · subst hji;exact hy.wpOp hi trivial ⟨Rl.refl _ _ _ _,H⟩
    · have:=ready_mono hj hji
      rw[H.1] at this
      cases this
  | succ n ih =>
    intro L a w hfree hr hy H;refine ⟨fun h=>(by rw[h] at hr;cases hr),fun j hj=>?_⟩
    by_cases hji:j=i
    · subst hji;exact hy.wpOp hi trivial ⟨Rl.refl _ _ _ _,H⟩
    · have h1:=H.2 j (ready_mono hj hji)
      obtain ⟨hjun,oj,hoj,hall⟩:=mem_ready.1 hj
      have hnot:∀ e∈oj.after,Region.binds .any e=true→e.on≠i:=fun e he hb heq=>by
        have h1:=hall e he hb;have h0:=(mem_ready.1 hr).1;rw[heq] at h1
        obtain ⟨hl,h0'⟩:=unl h0
        simp[Array.getD,hl,h0'] at h1
      have h2:=wpOp_putIf hoj (hfree j oj hoj hji hjun hnot) (fun cs b=>hsel i oi cs b hi) (fun cs b=>hsel j oj cs b hoj) hQ hy h1
      have hfree':∀ k ok,ops[k]?=some ok→k≠i→(L.setIfInBounds j true).getD k true=false →
          (∀ e∈ok.after,Region.binds .any e=true→e.on≠i)→oi.apart ops ok=true:=fun k ok hk hki hun hno=>by
        refine hfree k ok hk hki ?_ hno
        by_cases hjk:j=k
        · subst hjk;exact hjun
        · rw[getD_set_ne true hjk] at hun;exact hun
      refine wpOp_mono (fun a' w' h3=>⟨h3.2.1,ih (L.setIfInBounds j true) a' w' hfree' (ready_mono hr (Ne.symm hji)) h3.1 ?_⟩) h2;rw[Array.setIfInBounds_comm _ _ hji];exact h3.2.2
theorem tU (i t:Nat)(v:Value)(H:AG M P n N R X ops k0 (L.setIfInBounds i true) ((t,v)::Γ) w)(hc:chkZ n ops L Γ i t=true:=by kernel_rfl)(hv:∀ w,(execOp (ev Γ) (opAt ops i)).run P w=.ok (.value v) w:=by intro _;kernel_rfl):AG M P n N R X ops k0 L Γ w:=by
  unfold chkZ at hc
  simp only[Bool.and_eq_true,decide_eq_true_eq,beq_iff_eq] at hc
  obtain ⟨⟨⟨⟨⟨⟨⟨h1,h2⟩,h3⟩,h4⟩,h5⟩,h6⟩,h7⟩,h8⟩:=hc;have hr:i∈Region.ready .any ops L:=by simpa using h4
  have hg:=opAt_get (ops:=ops) h1;intro a ka;have e1:=ka.exec (Region.noSelect_spec h2 i _ · · hg) h7;have HA:=H _ (ka.put h6 v)
  unfold A at *
  rw[rem_ready hr];refine anyR_firstV hg (Region.noSelect_spec h2) (fun c a w hq=>hq.elim) _ _ _ _ (fun j oj hj hji hun=>Region.free_spec hg h3 j oj hj hji hun) hr (.inl ⟨ka.want h8,fun w' _=>by rw[e1];exact hv w'⟩) ?_;rw[h5];exact HA
theorem kn_swap {n:Nat}{a:Act}{Γ:Env}{t1 t2:Nat}{v1 v2:Value}(h:t1≠t2)(k:Kn n a ((t1,v1)::(t2,v2)::Γ)):Kn n a ((t2,v2)::(t1,v1)::Γ):=by
  have e:∀ s:Nat,((t2,v2)::(t1,v1)::Γ).lookup s=((t1,v1)::(t2,v2)::Γ).lookup s:=fun s=>by
    simp only[List.lookup_cons]
    by_cases e1:s=t1
    · subst e1
      have:(s == t2)=false:=by simpa using h
      rw[this]
    · have:(s == t1)=false:=by simpa using e1
      rw[this]
  refine k.mono (fun s u hu=>(e s)▸hu) ?_
  unfold dfOf
  rw[e]
theorem tl_own {K b:Nat}{w w':World}{v:Value}(hz:M.z=some (K,[]))(hK:K≤w.heap.size)(hv:∀ b,v.ownBlock=some b→K≤b)(gr:w.grownBy w' v.ownBlock):Tl M w w':=fun K' bs e=>by
  rw[hz] at e
  injection e with e
  injection e with e1 e2
  subst e1 e2;exact ⟨gr.size,fun b hb _=>gr.block b oM (fun e=>by have:=hv b e.symm;omega)⟩
theorem zTwo (i j ti tj:Nat)(vi vj:Value)(wi wj:World)
    (hc:(Region.ready .any ops L == [i,j] && decide (i<ops.size) && decide (j<ops.size) && Region.noSelect ops && knownOp Γ (opAt ops i) && knownOp Γ (opAt ops j) && ((opAt ops i).dst == some ti) && ((opAt ops j).dst == some tj) && decide (ti<n) && decide (tj<n))=true)
    (hwi:wantE ops Γ (opAt ops i)=some true)(hwj:wantE ops Γ (opAt ops j)=some true)
    (hri:(execOp (ev Γ) (opAt ops i)).run P w=.ok (.value vi) wi)(hTi:Tl M w wi)(Hi:AG M P n N R X ops 0 (L.setIfInBounds i true) ((ti,vi)::Γ) wi)
    (hrj:(execOp (ev Γ) (opAt ops j)).run P w=.ok (.value vj) wj)(hTj:Tl M w wj)(Hj:AG M P n N R X ops 0 (L.setIfInBounds j true) ((tj,vj)::Γ) wj):AG M P n N R X ops 0 L Γ w:=by
  simp only[Bool.and_eq_true,decide_eq_true_eq,beq_iff_eq] at hc
  obtain ⟨⟨⟨⟨⟨⟨⟨⟨⟨c1,c2⟩,c3⟩,c4⟩,c5⟩,c6⟩,c7⟩,c8⟩,c9⟩,c10⟩:=hc;intro a ka;refine A.intro (fun h0=>by rw[c1] at h0;cases h0) (fun k hk=>?_);rw[c1] at hk
  rcases List.mem_cons.1 hk with rfl|hk
  · refine OpR.wpOp (opAt_get c2) (R:=fun v w'=>Tl M w w'∧A M P ops (mkQ N R X) 0 (L.setIfInBounds k true) (a.put (opAt ops k).dst v) w') ⟨ka.want hwi,?_⟩ (fun v w' hq=>⟨Rl.tl (Nat.zero_le _) hq.1,hq.2⟩)
    rw[ka.exec (Region.noSelect_spec c4 k _ · · (opAt_get c2)) c5,c7];exact .inl ⟨_,_,hri,hTi,Hi _ (ka.put c9 _)⟩
  · rw[List.mem_singleton] at hk
    subst hk;refine OpR.wpOp (opAt_get c3) (R:=fun v w'=>Tl M w w'∧A M P ops (mkQ N R X) 0 (L.setIfInBounds k true) (a.put (opAt ops k).dst v) w') ⟨ka.want hwj,?_⟩ (fun v w' hq=>⟨Rl.tl (Nat.zero_le _) hq.1,hq.2⟩);rw[ka.exec (Region.noSelect_spec c4 k _ · · (opAt_get c3)) c6,c8];exact .inl ⟨_,_,hrj,hTj,Hj _ (ka.put c10 _)⟩
theorem tl_alloc {K:Nat}(hz:M.z=some (K,[]))(o:Obj){W:World}(hW:K≤W.heap.size):Tl M W (W.alloc o)∧K≤(W.alloc o).heap.size:=by
  have hs:(W.alloc o).heap.size=W.heap.size+1:=Array.size_push _;refine ⟨fun K' bs e=>?_,by omega⟩;rw[hz] at e
  injection e with e
  injection e with e1 e2
  subst e1 e2
  exact ⟨by omega,fun b hb _=>by
    show (W.heap.push o)[b]?=W.heap[b]?
    rw[Array.getElem?_push,if_neg oM]⟩
theorem SS.new0 {α:Type}(f:α→List Value){sz:Nat}(s:SS w0 h0 w h B Rs F)(ty:TypeId)(hf:∀ x,(f x).length=sz):SS w0 h0 (w.alloc (.cells #[] ty (0,0))) (h.push junk) B (⟨ty,sz,some ⟨w.heap.size,0,none⟩,0,0,[]⟩::Rs) F:=s.newr (l:=([]:List α)) (f:=f) ty hf (Nat.zero_le _)
theorem SS.newS (s:SS w0 h0 w h B Rs F)(ty:TypeId)(cs:List Value):SS w0 h0 (w.alloc (.cells cs.toArray ty (0,0))) (h.push (.cells cs.toArray ty (0,0))) B Rs ((fun h=>Seg h w.heap.size 0 cs)::F):=by
  refine (s.step (Up.allocAny s.g _ _ (.inl rfl))).a_Seg ?_;have e:h.size=w.heap.size:=by have:=s.g.size;omega
  rw[←e];exact Seg.new cs ty
theorem y0_run {K:Nat}{α:Type}{o:Oper}{ty:TypeId}{sz:Nat}{f:α→List Value}{d:α}{b0:Nat}{A2:Option Addr}{m:List α}{c2 bt:Nat}{z:Value}(hz:M.z=some (K,[]))(hK:K≤w.heap.size)(hb0:K≤b0)(s:SS w0 h0 w h B (⟨ty,sz,some ⟨b0,0,none⟩,0,0,[]⟩::Rs) F)(so:SlO sz f d h A2 m)
    (he:apE P (ev Γ) o=some (.slice (some ⟨b0,0,none⟩) 0 0,.slice A2 m.length c2,ty,z,sz,bt))(hf:∀ x,(f x).length=sz)(h1:∀ x,(f x).all (·.oneCell')=true)(hzs:z.cells.size=sz)(hpos:0<sz)(hm:m.length≤1099511627776)(hb:m.length*bt≤140737488355328) :
    ∃ A' c' w' h',(execOp (ev Γ) o).run P w=.ok (.value (.slice A' m.length c')) w'∧Tl M w w'∧(∀ b,(Value.slice A' m.length c').ownBlock=some b→K≤b)∧K≤w'.heap.size∧SS w0 h0 w' h' B (⟨ty,sz,A',c',m.length,m.flatMap f⟩::Rs) F:=by
  cases m with
  | nil=>exact ⟨_,_,w,h,app_none (α:=α) (j:=0) (l:=[]) (f:=f) s he rfl (Nat.succ_pos _),Tl.refl _ _,(fun b e=>by cases e;exact hb0),hK,s⟩
  | cons x xs =>
    have hm0:0<(x::xs).length:=Nat.succ_pos _;rw[so.ok hm0] at he
    obtain ⟨x',y,ty',ho,hx,hy,hu,hi⟩:=apE_op he
    obtain ⟨v',w',hrun,ow,gr,hloc⟩:=app_runE (P:=P) ho hx hy hu hi hzs hpos s.st (len_flat hf (x::xs)) (seg_newsO s.g (so.flat hf)) (fun u hu=>by
      obtain ⟨y,_,hy⟩:=List.mem_flatMap.1 hu;exact (List.all_eq_true.1 (h1 y)) u hy) hm0 hm hb
    have hv:∀ b,v'.ownBlock=some b→K≤b:=fun b e=>by
      rcases hloc with h1|h1
      · rw[h1] at e;cases e
      · rw[h1] at e;cases e;exact hK
    obtain ⟨h',A',c',rfl,e2,s2⟩:=(s.nil ty sz).grown (j:=0) (by simp) (w':=w') (v':=v') (m2:=(x::xs).length) (news:=(x::xs).flatMap f) ow gr hloc;have hT:Tl M w w':=tl_own (b:=0) hz hK (v:=Value.slice none 0 0) (fun b e=>by cases e) gr;have s3:SS w0 h0 w' h' B (⟨ty,sz,A',c',(x::xs).length,(x::xs).flatMap f⟩::⟨ty,sz,some ⟨b0,0,none⟩,0,0,[]⟩::Rs) F:=by simpa using s2
    have hrun':(execOp (ev Γ) o).run P w=.ok (.value (.slice A' (x::xs).length c')) w':=by rw[hrun];simp
    refine ⟨A',c',w',h',hrun',hT,(fun b e=>hv b (by simpa using e)),Nat.le_trans hK gr.size,⟨s3.g0,s3.st,fun r hr=>s3.ro r ?_,?_,s3.mo,s3.f⟩⟩
    · rcases List.mem_cons.1 hr with e|e
      · exact List.mem_cons.2 (.inl e)
      · exact List.mem_cons.2 (.inr (List.mem_cons.2 (.inr e)))
    · exact List.Pairwise.sublist (List.Sublist.cons_cons _ (List.sublist_cons_self _ _)) s3.ap
theorem kn_swap2 {n:Nat}{a:Act}{Γ:Env}{t0 t1 t2:Nat}{v0 v1 v2:Value}(h:t1≠t2)(k:Kn n a ((t0,v0)::(t1,v1)::(t2,v2)::Γ)):Kn n a ((t0,v0)::(t2,v2)::(t1,v1)::Γ):=by
  have e:∀ s:Nat,((t0,v0)::(t2,v2)::(t1,v1)::Γ).lookup s=((t0,v0)::(t1,v1)::(t2,v2)::Γ).lookup s:=fun s=>by
    simp only[List.lookup_cons]
    by_cases e1:s=t1
    · subst e1
      have:(s == t2)=false:=by simpa using h
      rw[this]
    · have:(s == t1)=false:=by simpa using e1
      rw[this]
  refine k.mono (fun s u hu=>(e s)▸hu) ?_
  unfold dfOf
  rw[e]
theorem zR3 {K:Nat}{α:Type}(i j k ti tj tk:Nat)(tyi tyj:TypeId)(sz:Nat)(f:α→List Value)(d:α)(mj:Nat)(cs:List Value)(A2:Option Addr)(m:List α)(n2 c2 bt:Nat)(z:Value)(hz:M.z=some (K,[]))(hK:K≤w.heap.size)(s:SS w0 h0 w h B Rs F)(so:∀ h,AllF F h→SlO sz f d h A2 m)
    (H:∀ b0 A' c' b' w' h',(∀ b,(Value.slice A' m.length c').ownBlock=some b→K≤b)→K≤w'.heap.size→SS w0 h0 w' h' B (⟨tyi,sz,A',c',m.length,m.flatMap f⟩::Rs) ((fun h=>Seg h b' 0 cs)::F) →
      AG M P n N R X ops 0 (((L.setIfInBounds i true).setIfInBounds j true).setIfInBounds k true) ((tk,.slice A' m.length c')::(tj,.slice (some ⟨b',0,none⟩) mj mj)::(ti,.slice (some ⟨b0,0,none⟩) 0 0)::Γ) w')
    (hn:n2=m.length:=by omega)(hd:(decide (ti≠tj) && decide (tj≠tk) && decide (i≠j) && decide (j≠k))=true:=by kernel_rfl)
    (c1:(Region.ready .any ops L == [i,j] && decide (i<ops.size) && decide (j<ops.size) && Region.noSelect ops && knownOp Γ (opAt ops i) && knownOp Γ (opAt ops j) && ((opAt ops i).dst == some ti) && ((opAt ops j).dst == some tj) && decide (ti<n) && decide (tj<n))=true:=by kernel_rfl)
    (c2_:∀ u,(Region.ready .any ops (L.setIfInBounds i true) == [k,j] && decide (k<ops.size) && decide (j<ops.size) && Region.noSelect ops && knownOp ((ti,u)::Γ) (opAt ops k) && knownOp ((ti,u)::Γ) (opAt ops j) && ((opAt ops k).dst == some tk) && ((opAt ops j).dst == some tj) && decide (tk<n) && decide (tj<n))=true:=by intro _;kernel_rfl)
    (hwi:wantE ops Γ (opAt ops i)=some true:=by kernel_rfl)(hwj:wantE ops Γ (opAt ops j)=some true:=by kernel_rfl)(hwj2:∀ u,wantE ops ((ti,u)::Γ) (opAt ops j)=some true:=by intro _;kernel_rfl)(hwk2:∀ u,wantE ops ((ti,u)::Γ) (opAt ops k)=some true:=by intro _;kernel_rfl)
    (ci:∀ u,(chkT ops 0 (L.setIfInBounds j true) i && knownOp ((tj,u)::Γ) (opAt ops i) && ((opAt ops i).dst == some ti) && decide (ti<n))=true:=by intro _;kernel_rfl)(hwi2:∀ u,wantE ops ((tj,u)::Γ) (opAt ops i)=some true:=by intro _;kernel_rfl)
    (cj:∀ u v,(chkT ops 0 ((L.setIfInBounds i true).setIfInBounds k true) j && knownOp ((tk,v)::(ti,u)::Γ) (opAt ops j) && ((opAt ops j).dst == some tj) && decide (tj<n))=true:=by intro _ _;kernel_rfl)(hwj3:∀ u v,wantE ops ((tk,v)::(ti,u)::Γ) (opAt ops j)=some true:=by intro _ _;kernel_rfl)
    (ck1:∀ u v,cT n ops 0 ((L.setIfInBounds i true).setIfInBounds j true) ((tj,v)::(ti,u)::Γ) k tk=true:=by intro _ _;kernel_rfl)(ck2:∀ u v,cT n ops 0 ((L.setIfInBounds j true).setIfInBounds i true) ((ti,u)::(tj,v)::Γ) k tk=true:=by intro _ _;kernel_rfl)
    (hri:∀ w,(execOp (ev Γ) (opAt ops i)).run P w=.ok (.value (.slice (some ⟨w.heap.size,0,none⟩) 0 0)) (w.alloc (.cells #[] tyi (0,0))):=by intro _;kernel_rfl)(hri2:∀ u w,(execOp (ev ((tj,u)::Γ)) (opAt ops i)).run P w=.ok (.value (.slice (some ⟨w.heap.size,0,none⟩) 0 0)) (w.alloc (.cells #[] tyi (0,0))):=by intro _ _;kernel_rfl)
    (hrj:∀ w,(execOp (ev Γ) (opAt ops j)).run P w=.ok (.value (.slice (some ⟨w.heap.size,0,none⟩) mj mj)) (w.alloc (.cells cs.toArray tyj (0,0))):=by intro _;kernel_rfl)(hrj2:∀ u w,(execOp (ev ((ti,u)::Γ)) (opAt ops j)).run P w=.ok (.value (.slice (some ⟨w.heap.size,0,none⟩) mj mj)) (w.alloc (.cells cs.toArray tyj (0,0))):=by intro _ _;kernel_rfl)
    (hrj3:∀ u v w,(execOp (ev ((tk,v)::(ti,u)::Γ)) (opAt ops j)).run P w=.ok (.value (.slice (some ⟨w.heap.size,0,none⟩) mj mj)) (w.alloc (.cells cs.toArray tyj (0,0))):=by intro _ _ _;kernel_rfl)
    (e1:∀ b,apE P (ev ((ti,.slice (some ⟨b,0,none⟩) 0 0)::Γ)) (opAt ops k)=some (.slice (some ⟨b,0,none⟩) 0 0,.slice A2 n2 c2,tyi,z,sz,bt):=by intro _;kernel_rfl)
    (e2:∀ b v,apE P (ev ((tj,v)::(ti,.slice (some ⟨b,0,none⟩) 0 0)::Γ)) (opAt ops k)=some (.slice (some ⟨b,0,none⟩) 0 0,.slice A2 n2 c2,tyi,z,sz,bt):=by intro _ _;kernel_rfl)
    (e3:∀ b v,apE P (ev ((ti,.slice (some ⟨b,0,none⟩) 0 0)::(tj,v)::Γ)) (opAt ops k)=some (.slice (some ⟨b,0,none⟩) 0 0,.slice A2 n2 c2,tyi,z,sz,bt):=by intro _ _;kernel_rfl)
    (hf:∀ x,(f x).length=sz:=by intro _;rfl)(h1:∀ x,(f x).all (·.oneCell')=true:=by intro _;kernel_rfl)(hzs:z.cells.size=sz:=by kernel_rfl)(hpos:0<sz:=by decide)(hm:m.length≤1099511627776:=by omega)(hb:m.length*bt≤140737488355328:=by omega):AG M P n N R X ops 0 L Γ w:=by
  subst hn
  simp only[Bool.and_eq_true,decide_eq_true_eq] at hd
  obtain ⟨⟨⟨d1,d2⟩,d3⟩,d4⟩:=hd;have si:=s.new0 f tyi hf;have sj:=s.newS tyj cs;obtain ⟨x1,x2⟩:=tl_alloc (M:=M) hz (.cells #[] tyi (0,0)) hK;obtain ⟨y1,y2⟩:=tl_alloc (M:=M) hz (.cells cs.toArray tyj (0,0)) hK;refine zTwo i j ti tj _ _ _ _ c1 hwi hwj (hri w) x1 ?_ (hrj w) y1 ?_
  · obtain ⟨A',c',w',h',r1,r2,r3,r4,r5⟩:=y0_run (M:=M) (Γ:=(ti,.slice (some ⟨w.heap.size,0,none⟩) 0 0)::Γ) hz x2 hK si (so _ si.f) (e1 _) hf h1 hzs hpos hm hb
    obtain ⟨q1,q2⟩:=tl_alloc (M:=M) hz (.cells cs.toArray tyj (0,0)) x2;refine zTwo k j tk tj _ _ _ _ (c2_ _) (hwk2 _) (hwj2 _) r1 r2 ?_ (hrj2 _ _) q1 ?_
    · obtain ⟨p1,p2⟩:=tl_alloc (M:=M) hz (.cells cs.toArray tyj (0,0)) r4
      refine T.val j tj _ _ (cj _ _) (hwj3 _ _) (hrj3 _ _ _) ?_ p1;intro a ka;have hh:=H _ A' c' _ _ _ r3 p2 (r5.newS tyj cs) a (kn_swap d2 ka);rw[Array.setIfInBounds_comm _ _ d4] at hh
      exact hh
    · have sij:=si.newS tyj cs
      obtain ⟨A',c',w',h',r1,r2,r3,r4,r5⟩:=y0_run (M:=M) (Γ:=(tj,.slice (some ⟨_,0,none⟩) mj mj)::(ti,.slice (some ⟨w.heap.size,0,none⟩) 0 0)::Γ) hz q2 hK sij (so _ sij.f.2) (e2 _ _) hf h1 hzs hpos hm hb;exact T.val k tk _ _ (cT_1 (ck1 _ _)).1 (cT_1 (ck1 _ _)).2 r1 (H _ A' c' _ _ _ r3 r4 r5) r2
  · obtain ⟨q1,q2⟩:=tl_alloc (M:=M) hz (.cells #[] tyi (0,0)) y2
    have sji:=sj.new0 f tyi hf;refine T.val i ti _ _ (ci _) (hwi2 _) (hri2 _ _) ?_ q1;obtain ⟨A',c',w',h',r1,r2,r3,r4,r5⟩:=y0_run (M:=M) (Γ:=(ti,.slice (some ⟨_,0,none⟩) 0 0)::(tj,.slice (some ⟨w.heap.size,0,none⟩) mj mj)::Γ) hz q2 y2 sji (so _ sji.f.2) (e3 _ _) hf h1 hzs hpos hm hb;refine T.val k tk _ _ (cT_1 (ck2 _ _)).1 (cT_1 (ck2 _ _)).2 r1 ?_ r2;intro a ka;have hh:=H _ A' c' _ _ _ r3 r4 r5 a (kn_swap2 d1 ka);rw[Array.setIfInBounds_comm _ _ d3] at hh
    exact hh
theorem zY1 {K:Nat}{α:Type}(i t j:Nat)(ty:TypeId)(sz c:Nat)(A:Option Addr)(l:List α)(f:α→List Value)(x:α)(bt b:Nat)(z:Value)(hz:M.z=some (K,[]))(hK:K≤w.heap.size)(hv:∀ b,(Value.slice A l.length c).ownBlock=some b→K≤b)(s:SS w0 h0 w h B Rs F)(sg:Seg h b 0 (f x))
    (H:∀ A' c' w' h',(∀ b,(Value.slice A' (l++[x]).length c').ownBlock=some b→K≤b)→K≤w'.heap.size→SS w0 h0 w' h' B (Rs.set j ⟨ty,sz,A',c',(l++[x]).length,(l++[x]).flatMap f⟩) F→AG M P n N R X ops 0 (L.setIfInBounds i true) ((t,.slice A' (l++[x]).length c')::Γ) w')
    (hc:cT n ops 0 L Γ i t=true:=by kernel_rfl)(he:apE P (ev Γ) (opAt ops i)=some (.slice A l.length c,.slice (some ⟨b,0,none⟩) 1 1,ty,z,sz,bt):=by kernel_rfl)(hzs:z.cells.size=sz:=by kernel_rfl)(hpos:0<sz:=by decide)
    (hr':Rs.getD j default=⟨ty,sz,A,c,l.length,l.flatMap f⟩:=by kernel_rfl)(hj:decide (j<Rs.length)=true:=by kernel_rfl)(h1:(f x).all (·.oneCell')=true:=by kernel_rfl)(hl:(f x).length=1*sz:=by kernel_rfl)(hm:l.length+1≤1099511627776:=by omega)(hb:(l.length+1)*bt≤140737488355328:=by omega):AG M P n N R X ops 0 L Γ w:=by
  have hj':=oT hj;obtain ⟨x',y,ty',ho,hx,hy,hu,hi⟩:=apE_op he;have r:=s.ro _ (List.getElem_mem hj');have er:=rw_get hr' hj';rw[er] at r
  obtain ⟨v',w',hrun,ow,gr,hloc⟩:=app_run (P:=P) ho hx hy hu hi hzs hpos s.st r hl (seg_news s.g sg) (fun u hu=>(List.all_eq_true.1 h1) u hu) hm hb
  have hv':∀ b,v'.ownBlock=some b→K≤b:=fun b e=>by
    rcases hloc with h1|h1
    · exact hv b (h1▸e)
    · rw[h1] at e;cases e;exact hK
  have hT:Tl M w w':=tl_own (b:=0) hz hK hv gr;have hg:=s.grown (j:=j) hj' (w':=w') (v':=v') (m2:=1) (news:=f x) (by rw[er];exact ow) (by rw[er];exact gr) (by rw[er];exact hloc);rw[er] at hg
  obtain ⟨h',A',c',rfl,e2,s'⟩:=hg;have e1:l.length+1=(l++[x]).length:=by simp
  simp only[] at s'
  rw[snoc_row,e1] at s'
  rw[e1] at hrun hv'
  exact T.val i t _ w' (cT_1 hc).1 (cT_1 hc).2 hrun (H A' c' w' h' hv' (Nat.le_trans hK gr.size) s') hT
theorem zYa {K:Nat}{α:Type}(i t j:Nat)(ty:TypeId)(sz c:Nat)(A:Option Addr)(l:List α)(f:α→List Value)(d:α)(A2:Option Addr)(m:List α)(n2 c2 bt:Nat)(z:Value)(hz:M.z=some (K,[]))(hK:K≤w.heap.size)(hv:∀ b,(Value.slice A l.length c).ownBlock=some b→K≤b)(s:SS w0 h0 w h B Rs F)(so:SlO sz f d h A2 m)
    (H:∀ A' c' w' h',K≤w'.heap.size→SS w0 h0 w' h' B (Rs.set j ⟨ty,sz,A',c',(l++m).length,(l++m).flatMap f⟩) F→AG M P n N R X ops 0 (L.setIfInBounds i true) ((t,.slice A' (l++m).length c')::Γ) w')
    (hc:cT n ops 0 L Γ i t=true:=by kernel_rfl)(he:apE P (ev Γ) (opAt ops i)=some (.slice A l.length c,.slice A2 n2 c2,ty,z,sz,bt):=by kernel_rfl)(hn:n2=m.length:=by omega)(hf:∀ x,(f x).length=sz:=by intro _;rfl)(h1:∀ x,(f x).all (·.oneCell')=true:=by intro _;kernel_rfl)(hzs:z.cells.size=sz:=by kernel_rfl)(hpos:0<sz:=by decide)
    (hr':Rs.getD j default=⟨ty,sz,A,c,l.length,l.flatMap f⟩:=by kernel_rfl)(hj:decide (j<Rs.length)=true:=by kernel_rfl)(hm:l.length+m.length≤1099511627776:=by omega)(hb:(l.length+m.length)*bt≤140737488355328:=by omega):AG M P n N R X ops 0 L Γ w:=by
  subst hn;have hj':=oT hj;cases m with
  | nil =>
    have e0:l++[]=l:=List.append_nil l;rw[e0] at H
    have es:Rs.set j ⟨ty,sz,A,c,l.length,l.flatMap f⟩=Rs:=by
      have:=rw_get hr' hj';rw[←this,List.set_getElem_self]
    have s1:=s;rw[←es] at s1
    exact T.val i t _ w (cT_1 hc).1 (cT_1 hc).2 (app_none s he hr' hj') (H A c w h hK s1)
  | cons x xs =>
    have hm0:0<(x::xs).length:=Nat.succ_pos _;rw[so.ok hm0] at he
    obtain ⟨x',y,ty',ho,hx,hy,hu,hi⟩:=apE_op he;have r:=s.ro _ (List.getElem_mem hj');have er:=rw_get hr' hj';rw[er] at r
    obtain ⟨v',w',hrun,ow,gr,hloc⟩:=app_run (P:=P) ho hx hy hu hi hzs hpos s.st r (len_flat hf (x::xs)) (seg_newsO s.g (so.flat hf)) (fun u hu=>by
      obtain ⟨y,_,hy⟩:=List.mem_flatMap.1 hu;exact (List.all_eq_true.1 (h1 y)) u hy) hm hb
    have hT:Tl M w w':=tl_own (b:=0) hz hK hv gr;have hg:=s.grown (j:=j) hj' (w':=w') (v':=v') (m2:=(x::xs).length) (news:=(x::xs).flatMap f) (by rw[er];exact ow) (by rw[er];exact gr) (by rw[er];exact hloc);rw[er] at hg
    obtain ⟨h',A',c',rfl,e2,s'⟩:=hg;have e1:l.length+(x::xs).length=(l++(x::xs)).length:=by simp
    simp only[] at s'
    rw[flat_row,e1] at s'
    rw[e1] at hrun
    exact T.val i t _ w' (cT_1 hc).1 (cT_1 hc).2 hrun (H A' c' w' h' (Nat.le_trans hK gr.size) s') hT
theorem zT (i t:Nat)(A:Option Addr)(len cap sz:Nat)(x:Int)(j:Nat)(H:AG M P n N R X ops 0 (L.setIfInBounds i true) ((t,.slice A j cap)::Γ) w)(hc:chkZ n ops L Γ i t=true:=by kernel_rfl)(he:slE P (ev Γ) (opAt ops i)=some (.slice A len cap,none,some (.int .i64 x),sz):=by kernel_rfl)(hk:x=j:=by omega)(hlt:j≤cap:=by omega):AG M P n N R X ops 0 L Γ w :=
  zV i t _ H hc (slE_to j he hk hlt)
theorem zF (i t:Nat)(A:Option Addr)(len cap sz:Nat)(x:Int)(j:Nat)(H:AG M P n N R X ops 0 (L.setIfInBounds i true) ((t,.slice (if cap=j then A else A.map (·.add (j*sz))) (len-j) (cap-j))::Γ) w)(hc:chkZ n ops L Γ i t=true:=by kernel_rfl)(he:slE P (ev Γ) (opAt ops i)=some (.slice A len cap,some (.int .i64 x),none,sz):=by kernel_rfl)(hk:x=j:=by omega)(hlt:j≤len:=by omega):AG M P n N R X ops 0 L Γ w :=
  zV i t _ H hc (slE_from j he hk hlt)
end
theorem rWholeT (z:Int)(h0 : -9223372036854775808≤z)(h1:z≤9223372036854775807)(w:World)(h:Hp)(g:G w h):CR 18 #[iV z] w h (fun v h1=>∃ r,v=rmv r∧RmH 1 h1 r (.mk 1 0 ((z:Int):Rat) ⟨#[]⟩ [])):=by
 have hs:=sS g;refine go Tryz.func18 [(0,iV z)] rfl (cSL (lA 2 33 ([iV 0,iV 0,qF,sZ,sZ,eS,sZ]) hs (fun b1 w2 h3 hs=>lNS (lL hs [.m 3 0] (lC 4 hs (rOf z h0 oM _ _ hs.g) ?_)))));rintro _ _ _ hs ⟨A4,c5,A8,c9,rfl,hc6,za,hA7,zb⟩;replace hs:=hs.aP hA7 zb;refine lC 5 hs (rOfH (d:=0) (ineg ((z:Int):Rat).num) A4 ((lim (iabs ((z:Int):Rat).num)).length) c5 A8 ((lim ((z:Int):Rat).den).length) c9 _ _ hs.g ⟨true,⟨_,_,_,_,rfl,hc6,za,hs.f.2.1,hs.f.1⟩,fun h_=>(by cases h_)⟩) ?_;rintro _ _ _ hs ⟨r0,rfl,hr0⟩;replace hs:=(hs.add (K:=fun h_=>RmH 1 h_ r0 (.mk 1 0 ((z:Int):Rat) ⟨#[]⟩ [])) hr0);exact lP 0 0 ([iV r0.op,iV r0.n,.bool r0.neg,qS r0.zA r0.zn r0.zc,qS r0.dA r0.dn r0.dc,.string r0.s,qS r0.A r0.m r0.c]) hs (fun _ hs=>lNkXr hs [(0,0,7)] (.agg #[iV r0.op,iV r0.n,.bool r0.neg,qS r0.zA r0.zn r0.zc,qS r0.dA r0.dn r0.dc,.string r0.s,qS r0.A r0.m r0.c]) (⟨r0,rfl,hs.f.1⟩))
theorem rWholeH (z:Int)(h0 : -9223372036854775808≤z)(h1:z≤9223372036854775807)(w:World)(h:Hp)(g:G w h):CR 18 #[iV z] w h (fun v h1=>∃ r,v=rmv r∧RmH 1 h1 r (.mk 1 0 ((z:Int):Rat) ⟨#[]⟩ [])):=rWholeT z h0 h1 w h g
theorem sm_w {d:Nat}:SmT smw (d+1) (.mk 1 0 ((1:Int):Rat) ⟨#[]⟩ []):=⟨by show 0≤3;decide,by show (-1000:Int)≤1∧(1:Int)≤1000;decide,by show (-1000:Int)≤0∧(0:Int)≤1000;decide,LQ.int kD kD,smw0,fun i hi=>absurd hi (Nat.not_lt_zero i)⟩
theorem mSpoiltS  (d:Nat)(ih:∀ (r:RTm) (t:Tm) (way at_ by_:Int) (w:World) (h:Hp),G w h→RmH d h r t→WfT okx d t→Calls Tryz.prog 6 #[rmv r,iV way,iV at_,iV by_] w (Ret w h (fun v h1=>∃ r1 t1,v=rmv r1∧SpO d h1 r1 t1)))(op n:Int)(bq:Bool)(zA:Option Addr)(zn zc:Nat)(dA:Option Addr)(dn dc:Nat)(q:Rat)(s:ByteArray)(A:Option Addr)(c:Nat)(rs:List RTm)(ks:List Tm)(hc:rs.length≤c)(way at_ by_:Int)(hl2:ks.length≤2)(hari:ari op=(ks.length:Nat))(hn1 : -12≤n)(hn2:n≤12)(hq:LQ 1 q)(hsw:smw s)(hW:∀ i,i<ks.length→WfT okx d (ks.getD i tm0))(w:World)(h:Hp)(g:G w h)(hZ:RZ h (bq,.slice zA zn zc,.slice dA dn dc) q)(hK:SlO 7 rmc rtm0 h A rs)(hKs:Rms d h rs ks):CR 6 #[.agg #[iV op,iV n,.bool bq,.slice zA zn zc,.slice dA dn dc,.string s,.slice A rs.length c],iV way,iV at_,iV by_] w h (fun v h1=>∃ r1 t1,v=rmv r1∧SpO (d+1) h1 r1 t1):=by
 have hs:=((((sS g).add (K:=fun h_=>RZ h_ (bq,qS zA zn zc,qS dA dn dc) q) hZ).aS hK).add (K:=fun h_=>Rms d h_ rs ks) hKs);have hln:=(hs.f.1).len;have hac:=ari_cases op;have hnl0_:([]:List RTm).length=0:=rfl;have hnl1_:(([]:List RTm)++rs).length=rs.length:=rfl;refine go Tryz.func6 [(0,.agg #[iV op,iV n,.bool bq,qS zA zn zc,qS dA dn dc,.string s,qS A rs.length c]),(1,iV way),(2,iV at_),(3,iV by_)] rfl (cSL (lA 4 33 ([iV op,iV n,.bool bq,qS zA zn zc,qS dA dn dc,.string s,qS A rs.length c]) hs (fun b1 w2 h3 hs=>lA 8 33 ([iV 0,iV 0,qF,sZ,sZ,eS,sZ]) hs (fun b4 w5 h6 hs=>lNS (lL hs [.m 11 2] (lCval 12 hs (hPick (at_) 4 oM oM _ _ hs.g) (fun w8 h9 hs=>?_)))))));have lp7:=pick_lt (at_) 4 oM;refine lL hs [.m 2 12] (lNcQ (CG.join (fun Γ w_=>∃ (zp:Bool) (h_:Hp),Γ=[(1,iV way),(2,nV (pick (at_) 4)),(3,iV by_),(4,pB b1),(8,pB b4),(20,.bool zp)]∧SS w h w_ h_ [⟨b4,33,[iV 0,iV 0,qF,sZ,sZ,eS,sZ]⟩,⟨b1,33,[iV op,iV n,.bool bq,qS zA zn zc,qS dA dn dc,.string s,qS A rs.length c]⟩] [] [fun h_=>Rms d h_ rs ks,fun h_=>SlO 7 rmc rtm0 h_ A rs,fun h_=>RZ h_ (bq,qS zA zn zc,qS dA dn dc) q]∧(zp=true→¬(pick at_ 4=0∨rs.length=0))∧(zp=false→(pick at_ 4=0∨rs.length=0))) ?_ ?_))
 ·
  refine kQ (lL hs [.m 13 2] ?_);cases zd:(decide ((0:Int)<((pick (at_) 4:Nat):Int)))
  ·
   have zD:=oF zd;refine lB 14 zd (lL hs [.m 15 14] (lG 16 ?_));refine lG 17 (lG 18 (lG 19 (lL hs [.v 20 qF] (lD ?_))));intro a_ ka;exact ⟨_,⟨false,h9,rfl,hs.to _ _,(fun h_=>absurd h_ kD),(fun _=>by omega)⟩,ka.to _ kR⟩
  have zD:=oT zd;refine lB 14 zd (lL hs [.m 15 14,.v 16 (qP b1 6),.o 17 (qS A rs.length c) 1 6 1,.v 18 (nV rs.length)] ?_);cases ze:(decide ((0:Int)<(rs.length:Int)))
  ·
   have zE:=oF ze;refine lB 19 ze (lL hs [.v 20 qF] (lD ?_));intro a_ ka;exact ⟨_,⟨false,h9,rfl,hs.to _ _,(fun h_=>absurd h_ kD),(fun _=>by omega)⟩,ka.to _ kR⟩
  have zE:=oT ze;refine lB 19 ze (lL hs [.v 20 qT] (lD ?_));intro a_ ka;exact ⟨_,⟨true,h9,rfl,hs.to _ _,(fun _=>by omega),(fun h_=>absurd h_ kD)⟩,ka.to _ kR⟩
 rintro _ _ ⟨zp,_,rfl,hs,zR,hF20⟩;cases zf:(zp)
 ·
  try rw[zf] at hs
  try rw[zf]
  refine cIF (cK (CG.join (fun Γ w_=>∃ (r1:RTm) (t1:Tm) (h_:Hp),Γ=[(4,pB b1),(8,pB b4)]∧SS w h w_ h_ [⟨b4,33,[iV 0,iV 0,qF,sZ,sZ,eS,sZ]⟩,⟨b1,33,[iV r1.op,iV r1.n,.bool r1.neg,qS r1.zA r1.zn r1.zc,qS r1.dA r1.dn r1.dc,.string r1.s,qS r1.A r1.m r1.c]⟩] [] [fun h_=>SpO (d+1) h_ r1 t1,fun h_=>Rms d h_ rs ks,fun h_=>SlO 7 rmc rtm0 h_ A rs,fun h_=>RZ h_ (bq,qS zA zn zc,qS dA dn dc) q]) ?_ ?_))
  ·
   refine cSLlL hs [.m 47 1] (lCval 48 hs (hPick (way) 9 oM oM _ _ hs.g) (fun _ zP hs=>?_));have lp21:=pick_lt (way) 9 oM;refine lNkZ (cSL ?_);cases zg:(((pick (way) 9:Nat):Int) == (0:Int))
   ·
    have zG:=neOfBeq zg;refine lB 50 zg (lL hs [.m 49 50] (lNIF (cSL ?_)));cases zi:(((pick (way) 9:Nat):Int) == (1:Int))
    ·
     have zH:=neOfBeq zi;refine lB 56 zi (lL hs [.m 55 56] (lNIF (cSL ?_)));cases zj:(((pick (way) 9:Nat):Int) == (2:Int))
     ·
      have zI:=neOfBeq zj;refine lB 62 zj (lL hs [.m 61 62] (lNIF (cSL ?_)));cases zk:(((pick (way) 9:Nat):Int) == (3:Int))
      ·
       have zJ:=neOfBeq zk;refine lB 69 zk (lL hs [.m 68 69] (lNIF (cSL ?_)));cases zl:(((pick (way) 9:Nat):Int) == (4:Int))
       ·
        have zK:=neOfBeq zl;refine lB 75 zl (lL hs [.m 74 75] (lNIF (cSL ?_)));cases zm:(((pick (way) 9:Nat):Int) == (5:Int))
        ·
         have zL:=neOfBeq zm;refine lB 85 zm (lL hs [.m 84 85] (lNIF (cSL ?_)));cases zo:(((pick (way) 9:Nat):Int) == (6:Int))
         ·
          have zM:=neOfBeq zo;refine lB 88 zo (lL hs [.m 87 88] (lNIF (CG.skip ?_)));intro a_ ka;replace hs:=(hs.add (K:=fun h_=>SpO (d+1) h_ (⟨op,n,bq,zA,zn,zc,dA,dn,dc,s,A,rs.length,c⟩:RTm) (.mk (op) (n) q (s) ks)) ⟨(RmH.mk hs.f.r.1 hs.f.1 hc hs.f.2.1).mono oM,sm_mk oM (by omega:(-1000:Int)≤op∧(op:Int)≤1000) (by omega:(-1000:Int)≤n∧(n:Int)≤1000) hq hsw (fun i hi=>(wf_smw (hW i hi)).mono oM)⟩);exact ⟨_,⟨(⟨op,n,bq,zA,zn,zc,dA,dn,dc,s,A,rs.length,c⟩:RTm),(.mk (op) (n) q (s) ks),zP,rfl,hs.to _ _⟩,ka.to _ kR⟩
         have zM:=eq_of_beq zo;refine lB 88 zo (lL hs [.m 87 88] (lNIT (kQ (lL hs [.o 89 (.agg #[iV op,iV n,.bool bq,qS zA zn zc,qS dA dn dc,.string s,qS A rs.length c]) 1 0 7] (lC 90 hs (rPowH (d:=d+1) ⟨op,n,bq,zA,zn,zc,dA,dn,dc,s,A,rs.length,c⟩ (.mk op n q s ks) (12) _ _ hs.g (RmH.mk hs.f.r.1 hs.f.1 hc hs.f.2.1)) ?_)))));rintro _ _ _ hs ⟨r32,rfl,hRr32⟩;replace hs:=(hs.add (K:=fun h_=>RmH (d+2) h_ r32 (.mk 8 (12) 0 ⟨#[]⟩ [(.mk op n q s ks)])) hRr32);refine lL hs [.m 91 3] (lCval 92 hs (hPick (by_) 20 oM oM _ _ hs.g) (fun _ _ hs=>?_));have lp35:=pick_lt (by_) 20 oM;refine lI 93 ((pick (by_) 20:Nat)-10) (lC 94 hs (rPowH (d:=d+2) r32 (.mk 8 (12) 0 ⟨#[]⟩ [(.mk op n q s ks)]) ((pick (by_) 20:Nat)-10) _ _ hs.g hs.f.1) ?_);rintro _ _ _ hs ⟨r38,rfl,hRr38⟩;replace hs:=(hs.add (K:=fun h_=>RmH (d+3) h_ r38 (.mk 8 ((pick (by_) 20:Nat)-10) 0 ⟨#[]⟩ [(.mk 8 (12) 0 ⟨#[]⟩ [(.mk op n q s ks)])])) hRr38);refine lC 95 hs (rPowH (d:=d+3) r38 (.mk 8 ((pick (by_) 20:Nat)-10) 0 ⟨#[]⟩ [(.mk 8 (12) 0 ⟨#[]⟩ [(.mk op n q s ks)])]) (9) _ _ hs.g hs.f.1) ?_;rintro _ _ yf hs ⟨r41,rfl,hRr41⟩;replace hs:=(hs.add (K:=fun h_=>RmH (d+4) h_ r41 (.mk 8 (9) 0 ⟨#[]⟩ [(.mk 8 ((pick (by_) 20:Nat)-10) 0 ⟨#[]⟩ [(.mk 8 (12) 0 ⟨#[]⟩ [(.mk op n q s ks)])])])) hRr41);refine lP 1 0 ([iV r41.op,iV r41.n,.bool r41.neg,qS r41.zA r41.zn r41.zc,qS r41.dA r41.dn r41.dc,.string r41.s,qS r41.A r41.m r41.c]) hs (fun _ hs=>lD ?_);intro a_ ka;replace hs:=(hs.tl.tl.tl.add (K:=fun h_=>SpO (d+1) h_ r41 (.mk 8 (9) 0 ⟨#[]⟩ [(.mk 8 ((pick (by_) 20:Nat)-10) 0 ⟨#[]⟩ [(.mk 8 (12) 0 ⟨#[]⟩ [(.mk op n q s ks)])])])) ⟨hs.f.1,sm_one oM (sm_one oM (sm_one oM ((sm_mk oM (by omega:(-1000:Int)≤op∧(op:Int)≤1000) (by omega:(-1000:Int)≤n∧(n:Int)≤1000) hq hsw (fun i hi=>(wf_smw (hW i hi)).mono oM)))))⟩);exact ⟨_,⟨r41,(.mk 8 (9) 0 ⟨#[]⟩ [(.mk 8 ((pick (by_) 20:Nat)-10) 0 ⟨#[]⟩ [(.mk 8 (12) 0 ⟨#[]⟩ [(.mk op n q s ks)])])]),yf,rfl,hs.to _ _⟩,ka.to _ kR⟩
        have zL:=eq_of_beq zm;refine lB 85 zm (lL hs [.m 84 85] (lNIT (kQ (lL hs [.v 86 (qP b1 6)] (lP 1 6 ([sZ]) hs (fun _ hs=>lD ?_))))));intro a_ ka;replace hs:=(hs.add (K:=fun h_=>SpO (d+1) h_ (⟨op,n,bq,zA,zn,zc,dA,dn,dc,s,none,0,0⟩:RTm) (.mk op n q s [])) ⟨RmH.mk (ps:=[]) hs.f.r.1 Rms.nil (nR _) SlO.nil,sm_mk (by show 0≤3;decide) (by omega:(-1000:Int)≤op∧(op:Int)≤1000) (by omega:(-1000:Int)≤n∧(n:Int)≤1000) hq hsw (fun i hi=>absurd hi (Nat.not_lt_zero i))⟩);exact ⟨_,⟨(⟨op,n,bq,zA,zn,zc,dA,dn,dc,s,none,0,0⟩:RTm),(.mk op n q s []),zP,rfl,hs.to _ _⟩,ka.to _ kR⟩
       have zK:=eq_of_beq zl;refine lB 75 zl (lL hs [.m 74 75] (lNIT (kQ (lRw 76 33 7 rmc ([]:List RTm) hs (fun yg _ _ hs=>lL hs [.v 77 (qP b1 6),.o 78 (qS A rs.length c) 1 6 1] (lYa 79 0 33 7 ((([]:List RTm)).length) (sB yg) ([]:List RTm) rmc rtm0 A rs rs.length c 112 (.agg #[iV 0,iV 0,qF,sZ,sZ,eS,sZ]) hs hs.f.2.1 (fun yi yj _ _ hs=>lC 80 hs (rWholeH 1 kD kD _ _ hs.g) ?_)))))));rintro _ _ _ hs ⟨rw_,rfl,hrw⟩;replace hs:=(hs.add (K:=fun h_=>RmH 1 h_ rw_ (.mk 1 0 (((1:Int)):Rat) ⟨#[]⟩ [])) hrw);refine lR 81 33 1 ([iV rw_.op,iV rw_.n,.bool rw_.neg,qS rw_.zA rw_.zn rw_.zc,qS rw_.dA rw_.dn rw_.dc,.string rw_.s,qS rw_.A rw_.m rw_.c]) hs (fun zQ _ _ hs=>?_);replace hs:=hs.aS (SlO.of_flat (sz:=7) (f:=rmc) (d:=rtm0) (b:=zQ) (o:=0) (l:=([rw_]:List RTm)) (fun _=>rfl) hs.f.1);refine lY 82 0 33 7 yj yi (([]:List RTm)++rs) rmc rw_ 112 zQ (.agg #[iV 0,iV 0,qF,sZ,sZ,eS,sZ]) hs hs.f.2.1 (fun zs zt _ _ hs=>lL hs [.v 83 (qP b1 6)] (lP 1 6 ([qS zs ((([]:List RTm)++rs++[rw_]).length) zt]) hs (fun _ hs=>lD ?_)));obtain ⟨yk,hs,zS⟩:=hs.pubr 0 (A:=zs) (c:=zt) (l:=([]:List RTm)++rs++[rw_]) (f:=rmc) (ty:=33) (sz:=7) rtm0 (fun _=>rfl);intro a_ ka;replace hs:=(hs.tl.tl.tl.tl.add (K:=fun h_=>SpO (d+1) h_ (⟨op,n,bq,zA,zn,zc,dA,dn,dc,s,zs,(([]:List RTm)++rs++[rw_]).length,zt⟩:RTm) (.mk op n q s (ks++[.mk 1 0 (((1:Int)):Rat) ⟨#[]⟩ []]))) ⟨(RmH.mk hs.f.q.r.1 (((hs.f.q.1).mono (show d≤d+3 by omega)).snoc ((hs.f.r.2.1).mono oM)) zS hs.f.1),sm_mk (by rw[List.length_append,List.length_singleton];omega) (by omega:(-1000:Int)≤op∧(op:Int)≤1000) (by omega:(-1000:Int)≤n∧(n:Int)≤1000) hq hsw (fun i hi=>getD_snocE (SmT smw (d+3)) (fun i hi=>(wf_smw (hW i hi)).mono oM) sm_w hi)⟩);exact ⟨_,⟨(⟨op,n,bq,zA,zn,zc,dA,dn,dc,s,zs,(([]:List RTm)++rs++[rw_]).length,zt⟩:RTm),(.mk op n q s (ks++[.mk 1 0 (((1:Int)):Rat) ⟨#[]⟩ []])),yk,rfl,hs.to _ _⟩,ka.to _ kR⟩
      have zJ:=eq_of_beq zk;refine lB 69 zk (lL hs [.m 68 69] (lNIT (kQ (lL hs [.m 70 3] (lCval 71 hs (hPick (by_) 3 oM oM _ _ hs.g) (fun _ _ hs=>?_))))));have lp75:=pick_lt (by_) 3 oM;refine lC 72 hs (rOf (pick (by_) 3:Nat) oM oM _ _ hs.g) ?_;rintro _ _ yl hs ⟨zu,zv,zw,zx,rfl,zU,zW,zX,ya⟩;replace hs:=hs.aP zX ya;refine lL hs [.v 73 (qP b1 2)] (lP 1 2 (rqx (((pick (by_) 3:Nat):Int):Rat) zu zv zw zx) hs (fun _ hs=>lD ?_));intro a_ ka;replace hs:=(hs.tl.tl.add (K:=fun h_=>SpO (d+1) h_ (⟨op,n,ineg (((pick (by_) 3:Nat):Int):Rat).num,zu,(lim (iabs (((pick (by_) 3:Nat):Int):Rat).num)).length,zv,zw,(lim (((pick (by_) 3:Nat):Int):Rat).den).length,zx,s,A,rs.length,c⟩:RTm) (.mk (op) (n) ((((pick (by_) 3:Nat):Int):Rat)) (s) ks)) ⟨(RmH.mk ⟨true,⟨_,_,_,_,rfl,zU,zW,hs.f.2.1,hs.f.1⟩,fun h_=>(by cases h_)⟩ hs.f.r.1 hc hs.f.r.2.1).mono oM,sm_mk oM (by omega:(-1000:Int)≤op∧(op:Int)≤1000) (by omega:(-1000:Int)≤n∧(n:Int)≤1000) (LQ.int oM oM) hsw (fun i hi=>(wf_smw (hW i hi)).mono oM)⟩);exact ⟨_,⟨(⟨op,n,ineg (((pick (by_) 3:Nat):Int):Rat).num,zu,(lim (iabs (((pick (by_) 3:Nat):Int):Rat).num)).length,zv,zw,(lim (((pick (by_) 3:Nat):Int):Rat).den).length,zx,s,A,rs.length,c⟩:RTm),(.mk (op) (n) ((((pick (by_) 3:Nat):Int):Rat)) (s) ks),yl,rfl,hs.to _ _⟩,ka.to _ kR⟩
     have zI:=eq_of_beq zj;refine lB 62 zj (lL hs [.m 61 62] (lNIT (kQ (lL hs [.v 63 (.agg #[eS,.string (⟨#[109,97,120]⟩),.string (⟨#[120,95,49]⟩),.string (⟨#[49,120]⟩)]),.m 64 3] ?_))))
     rcases pick4 by_ with hq0|hq1|hq2|hq3
     ·
      refine lCval 65 hs ((by have q_:=hPick by_ 4 oM oM _ _ hs.g;rw[hq0] at q_;exact q_)) (fun _ ym hs=>lL hs [.v 66 (eS),.v 67 (qP b1 5)] (lP 1 5 ([eS]) hs (fun _ hs=>lD ?_)));intro a_ ka;replace hs:=(hs.add (K:=fun h_=>SpO (d+1) h_ (⟨op,n,bq,zA,zn,zc,dA,dn,dc,⟨#[]⟩,A,rs.length,c⟩:RTm) (.mk (op) (n) q (⟨#[]⟩) ks)) ⟨(RmH.mk hs.f.r.1 hs.f.1 hc hs.f.2.1).mono oM,sm_mk oM (by omega:(-1000:Int)≤op∧(op:Int)≤1000) (by omega:(-1000:Int)≤n∧(n:Int)≤1000) hq (by unfold smw;decide) (fun i hi=>(wf_smw (hW i hi)).mono oM)⟩);exact ⟨_,⟨(⟨op,n,bq,zA,zn,zc,dA,dn,dc,⟨#[]⟩,A,rs.length,c⟩:RTm),(.mk (op) (n) q (⟨#[]⟩) ks),ym,rfl,hs.to _ _⟩,ka.to _ kR⟩
     ·
      refine lCval 65 hs ((by have q_:=hPick by_ 4 oM oM _ _ hs.g;rw[hq1] at q_;exact q_)) (fun _ yn hs=>lL hs [.v 66 (.string (⟨#[109,97,120]⟩)),.v 67 (qP b1 5)] (lP 1 5 ([.string (⟨#[109,97,120]⟩)]) hs (fun _ hs=>lD ?_)));intro a_ ka;replace hs:=(hs.add (K:=fun h_=>SpO (d+1) h_ (⟨op,n,bq,zA,zn,zc,dA,dn,dc,⟨#[109,97,120]⟩,A,rs.length,c⟩:RTm) (.mk (op) (n) q (⟨#[109,97,120]⟩) ks)) ⟨(RmH.mk hs.f.r.1 hs.f.1 hc hs.f.2.1).mono oM,sm_mk oM (by omega:(-1000:Int)≤op∧(op:Int)≤1000) (by omega:(-1000:Int)≤n∧(n:Int)≤1000) hq (by unfold smw;decide) (fun i hi=>(wf_smw (hW i hi)).mono oM)⟩);exact ⟨_,⟨(⟨op,n,bq,zA,zn,zc,dA,dn,dc,⟨#[109,97,120]⟩,A,rs.length,c⟩:RTm),(.mk (op) (n) q (⟨#[109,97,120]⟩) ks),yn,rfl,hs.to _ _⟩,ka.to _ kR⟩
     ·
      refine lCval 65 hs ((by have q_:=hPick by_ 4 oM oM _ _ hs.g;rw[hq2] at q_;exact q_)) (fun _ yo hs=>lL hs [.v 66 (.string (⟨#[120,95,49]⟩)),.v 67 (qP b1 5)] (lP 1 5 ([.string (⟨#[120,95,49]⟩)]) hs (fun _ hs=>lD ?_)));intro a_ ka;replace hs:=(hs.add (K:=fun h_=>SpO (d+1) h_ (⟨op,n,bq,zA,zn,zc,dA,dn,dc,⟨#[120,95,49]⟩,A,rs.length,c⟩:RTm) (.mk (op) (n) q (⟨#[120,95,49]⟩) ks)) ⟨(RmH.mk hs.f.r.1 hs.f.1 hc hs.f.2.1).mono oM,sm_mk oM (by omega:(-1000:Int)≤op∧(op:Int)≤1000) (by omega:(-1000:Int)≤n∧(n:Int)≤1000) hq (by unfold smw;decide) (fun i hi=>(wf_smw (hW i hi)).mono oM)⟩);exact ⟨_,⟨(⟨op,n,bq,zA,zn,zc,dA,dn,dc,⟨#[120,95,49]⟩,A,rs.length,c⟩:RTm),(.mk (op) (n) q (⟨#[120,95,49]⟩) ks),yo,rfl,hs.to _ _⟩,ka.to _ kR⟩
     refine lCval 65 hs ((by have q_:=hPick by_ 4 oM oM _ _ hs.g;rw[hq3] at q_;exact q_)) (fun _ yb hs=>lL hs [.v 66 (.string (⟨#[49,120]⟩)),.v 67 (qP b1 5)] (lP 1 5 ([.string (⟨#[49,120]⟩)]) hs (fun _ hs=>lD ?_)));intro a_ ka;replace hs:=(hs.add (K:=fun h_=>SpO (d+1) h_ (⟨op,n,bq,zA,zn,zc,dA,dn,dc,⟨#[49,120]⟩,A,rs.length,c⟩:RTm) (.mk (op) (n) q (⟨#[49,120]⟩) ks)) ⟨(RmH.mk hs.f.r.1 hs.f.1 hc hs.f.2.1).mono oM,sm_mk oM (by omega:(-1000:Int)≤op∧(op:Int)≤1000) (by omega:(-1000:Int)≤n∧(n:Int)≤1000) hq (by unfold smw;decide) (fun i hi=>(wf_smw (hW i hi)).mono oM)⟩);exact ⟨_,⟨(⟨op,n,bq,zA,zn,zc,dA,dn,dc,⟨#[49,120]⟩,A,rs.length,c⟩:RTm),(.mk (op) (n) q (⟨#[49,120]⟩) ks),yb,rfl,hs.to _ _⟩,ka.to _ kR⟩
    have zH:=eq_of_beq zi;refine lB 56 zi (lL hs [.m 55 56] (lNIT (kQ (lL hs [.m 57 3] (lCval 58 hs (hPick (by_) 30 oM oM _ _ hs.g) (fun _ yc hs=>?_))))));have lp106:=pick_lt (by_) 30 oM;refine lI 59 ((pick (by_) 30:Nat)-15) (lL hs [.v 60 (qP b1 1)] (lP 1 1 ([iV ((pick (by_) 30:Nat)-15)]) hs (fun _ hs=>lD ?_)));intro a_ ka;replace hs:=(hs.add (K:=fun h_=>SpO (d+1) h_ (⟨op,(pick (by_) 30:Nat)-15,bq,zA,zn,zc,dA,dn,dc,s,A,rs.length,c⟩:RTm) (.mk (op) ((pick (by_) 30:Nat)-15) q (s) ks)) ⟨(RmH.mk hs.f.r.1 hs.f.1 hc hs.f.2.1).mono oM,sm_mk oM (by omega:(-1000:Int)≤op∧(op:Int)≤1000) (by omega:(-1000:Int)≤(pick (by_) 30:Nat)-15∧((pick (by_) 30:Nat)-15:Int)≤1000) hq hsw (fun i hi=>(wf_smw (hW i hi)).mono oM)⟩);exact ⟨_,⟨(⟨op,(pick (by_) 30:Nat)-15,bq,zA,zn,zc,dA,dn,dc,s,A,rs.length,c⟩:RTm),(.mk (op) ((pick (by_) 30:Nat)-15) q (s) ks),yc,rfl,hs.to _ _⟩,ka.to _ kR⟩
   have zG:=eq_of_beq zg;refine lB 50 zg (lL hs [.m 49 50] (lNIT (kQ (lL hs [.m 51 3] (lCval 52 hs (hPick (by_) 16 oM oM _ _ hs.g) (fun _ yd hs=>?_))))));have lp111:=pick_lt (by_) 16 oM;refine lI 53 ((pick (by_) 16:Nat)-1) (lL hs [.v 54 (pB b1)] (lP 1 0 ([iV ((pick (by_) 16:Nat)-1)]) hs (fun _ hs=>lD ?_)));intro a_ ka;replace hs:=(hs.add (K:=fun h_=>SpO (d+1) h_ (⟨(pick (by_) 16:Nat)-1,n,bq,zA,zn,zc,dA,dn,dc,s,A,rs.length,c⟩:RTm) (.mk ((pick (by_) 16:Nat)-1) (n) q (s) ks)) ⟨(RmH.mk hs.f.r.1 hs.f.1 hc hs.f.2.1).mono oM,sm_mk oM (by omega:(-1000:Int)≤(pick (by_) 16:Nat)-1∧((pick (by_) 16:Nat)-1:Int)≤1000) (by omega:(-1000:Int)≤n∧(n:Int)≤1000) hq hsw (fun i hi=>(wf_smw (hW i hi)).mono oM)⟩);exact ⟨_,⟨(⟨(pick (by_) 16:Nat)-1,n,bq,zA,zn,zc,dA,dn,dc,s,A,rs.length,c⟩:RTm),(.mk ((pick (by_) 16:Nat)-1) (n) q (s) ks),yd,rfl,hs.to _ _⟩,ka.to _ kR⟩
  rintro _ _ ⟨r1,t1,_,rfl,hs⟩;exact cSLlL hs [.o 96 (.agg #[iV r1.op,iV r1.n,.bool r1.neg,qS r1.zA r1.zn r1.zc,qS r1.dA r1.dn r1.dc,.string r1.s,qS r1.A r1.m r1.c]) 1 0 7] (lP 0 0 ([iV r1.op,iV r1.n,.bool r1.neg,qS r1.zA r1.zn r1.zc,qS r1.dA r1.dn r1.dc,.string r1.s,qS r1.A r1.m r1.c]) hs (fun _ hs=>lNkXr hs [(0,0,7)] (.agg #[iV r1.op,iV r1.n,.bool r1.neg,qS r1.zA r1.zn r1.zc,qS r1.dA r1.dn r1.dc,.string r1.s,qS r1.A r1.m r1.c]) (⟨r1,t1,rfl,hs.f.1⟩)))
 try rw[zf] at hs
 try rw[zf]
 refine cIT (cSL ?_);have hT20_:=zR aM;refine lL hs [.m 21 3,.v 22 (qP b1 6),.o 23 (qS A rs.length c) 1 6 1,.v 24 (nV rs.length)] (lCval 25 hs (hPick (by_) rs.length oM oM _ _ hs.g) (fun _ _ hs=>?_));have lp119:=pick_lt (by_) rs.length oM;refine lL hs [.m 9 25] (lNS (lL hs [.o 26 (.agg #[iV op,iV n,.bool bq,qS zA zn zc,qS dA dn dc,.string s,qS A rs.length c]) 1 0 7] (lA 10 33 ([iV 0,iV 0,qF,sZ,sZ,eS,sZ]) hs (fun zq _ _ hs=>lP 0 0 ([iV op,iV n,.bool bq,qS zA zn zc,qS dA dn dc,.string s,qS A rs.length c]) hs (fun _ hs=>lNS (lRw 27 33 7 rmc ([]:List RTm) hs (fun ye _ _ hs=>lL hs [.v 28 (qP b1 6),.o 29 (qS A rs.length c) 2 6 1] (lYa 30 0 33 7 ((([]:List RTm)).length) (sB ye) ([]:List RTm) rmc rtm0 A rs rs.length c 112 (.agg #[iV 0,iV 0,qF,sZ,sZ,eS,sZ]) hs hs.f.2.1 (fun zr za _ _ hs=>lL hs [.v 31 (qP zq 6)] (lP 0 6 ([qS zr ((([]:List RTm)++rs).length) za]) hs (fun _ hs=>lNcQ (cR 13 [] mixed hs al_nil ?_))))))))))));refine eV 0 32 (qP zq 6) (eO 1 33 [(0,6,1)] (qS zr ((([]:List RTm)++rs).length) za) hs (eV 2 34 (nV (pick (by_) rs.length)) (eV 3 35 (qP b1 6) (eO 4 36 [(2,6,1)] (qS A rs.length c) hs (eV 5 37 (nV (pick (by_) rs.length)) (eX 6 38 A rs.length c 7 (pick (by_) rs.length:Nat) (pick (by_) rs.length) ((hs.f.2.1).ok oM) (eH 7 39 (.agg #[iV ((rs.getD (pick (by_) rs.length) rtm0).op),iV ((rs.getD (pick (by_) rs.length) rtm0).n),.bool ((rs.getD (pick (by_) rs.length) rtm0).neg),qS ((rs.getD (pick (by_) rs.length) rtm0).zA) ((rs.getD (pick (by_) rs.length) rtm0).zn) ((rs.getD (pick (by_) rs.length) rtm0).zc),qS ((rs.getD (pick (by_) rs.length) rtm0).dA) ((rs.getD (pick (by_) rs.length) rtm0).dn) ((rs.getD (pick (by_) rs.length) rtm0).dc),.string ((rs.getD (pick (by_) rs.length) rtm0).s),qS ((rs.getD (pick (by_) rs.length) rtm0).A) ((rs.getD (pick (by_) rs.length) rtm0).m) ((rs.getD (pick (by_) rs.length) rtm0).c)]) hs ((hs.f.2.1).el (pick (by_) rs.length) oM) (eV 8 40 (iV way) (eV 9 41 (nV (pick (at_) 4)) (eI 10 42 ((pick (at_) 4:Nat)-1) (eV 11 43 (iV by_) (eC 12 44 hs (fun _ _ hs=>ih (rs.getD (pick by_ rs.length) rtm0) (ks.getD (pick by_ rs.length) tm0) way ((pick (at_) 4:Nat)-1) by_ _ _ hs.g ((hs.f.1).at_ (pick by_ rs.length) oM) (hW (pick by_ rs.length) oM)) ?_))))))))))));rintro _ _ _ _ _ hs ⟨rk,tk,rfl,hrk⟩;replace hs:=(hs.add (K:=fun h_=>SpO d h_ rk tk) hrk);refine eD0 hs (fun _ _ hs=>?_);obtain ⟨zb,zB⟩:=hs.rowA 0 (A:=zr) (c:=za) (m:=(([]:List RTm)++rs).length) (ty:=33) (sz:=7) (cs:=(([]:List RTm)++rs).flatMap rmc) oM;subst zB;refine tX 13 45 (sB zb) ((([]:List RTm)++rs).length) za 7 (pick (by_) rs.length:Nat) (pick (by_) rs.length) rfl (tRs 14 (ty:=33) (c:=za) (b:=zb) 0 (pick (by_) rs.length) 0 ([iV rk.op,iV rk.n,.bool rk.neg,qS rk.zA rk.zn rk.zc,qS rk.dA rk.dn rk.dc,.string rk.s,qS rk.A rk.m rk.c]) (([]:List RTm)++rs) rmc 7 rtm0 rk hs oM (fun _ hs=>?_));replace hs:=hs.to [⟨zq,33,[iV op,iV n,.bool bq,qS zA zn zc,qS dA dn dc,.string s,qS (sB zb) ((([]:List RTm)++rs).length) za]⟩,⟨b4,33,[iV 0,iV 0,qF,sZ,sZ,eS,sZ]⟩,⟨b1,33,[iV op,iV n,.bool bq,qS zA zn zc,qS dA dn dc,.string s,qS A rs.length c]⟩] [⟨33,7,sB zb,za,(([]:List RTm)++rs).length,((([]:List RTm)++rs).set (pick (by_) rs.length) rk).flatMap rmc⟩];refine tNS ?_;replace hs:=hs.rown [⟨33,7,sB zb,za,((([]:List RTm)++rs).set (pick (by_) rs.length) rk).length,((([]:List RTm)++rs).set (pick (by_) rs.length) rk).flatMap rmc⟩] (by simp only[List.length_set]);obtain ⟨_,hs,zN⟩:=hs.pubr 0 (A:=sB zb) (c:=za) (l:=(([]:List RTm)++rs).set (pick (by_) rs.length) rk) (f:=rmc) (ty:=33) (sz:=7) rtm0 (fun _=>rfl);exact lL hs [.o 46 (.agg #[iV op,iV n,.bool bq,qS zA zn zc,qS dA dn dc,.string s,qS (sB zb) ((([]:List RTm)++rs).length) za]) 0 0 7] (lP 1 0 ([iV op,iV n,.bool bq,qS zA zn zc,qS dA dn dc,.string s,qS (sB zb) ((([]:List RTm)++rs).length) za]) hs (fun _ hs=>lNkXr hs [(1,0,7)] (.agg #[iV op,iV n,.bool bq,qS zA zn zc,qS dA dn dc,.string s,qS (sB zb) ((([]:List RTm)++rs).length) za]) (⟨(⟨op,n,bq,zA,zn,zc,dA,dn,dc,s,sB zb,(([]:List RTm)++rs).length,za⟩:RTm),(.mk op n q s (ks.set (pick by_ rs.length) tk)),rfl,(by have h_:=RmH.mk (op:=op) (n:=n) (s:=s) hs.f.q.1 (((hs.f.r.1).mono (show d≤d+3 by omega)).set (pick by_ rs.length) (hs.f.2.1).1) zN (hs.f.1);rw[List.length_set] at h_;exact h_),sm_mk (by rw[List.length_set];omega) oM oM hq hsw (fun i hi=>getD_setE (SmT smw (d+3)) (fun i hi=>(wf_smw (hW i hi)).mono oM) (hs.f.2.1).2 hi)⟩)))
theorem mSpoiltT:∀ (d:Nat) (r:RTm) (t:Tm) (way at_ by_:Int) (w:World) (h:Hp),G w h→RmH d h r t→WfT okx d t→Calls Tryz.prog 6 #[rmv r,iV way,iV at_,iV by_] w (Ret w h (fun v h1=>∃ r1 t1,v=rmv r1∧SpO d h1 r1 t1))
  | 0,_,_,_,_,_,_,_,_,x,_=>x.elim
  | d+1,r,t,way,at_,by_,w,h,g,x,wf=>by
    obtain ⟨op,n,b,zA,zn,zc,dA,dn,dc,q,s,A,c,rs,ks,rfl,rfl,hZ,hc,hK,hKs⟩:=x.open;have hl2:ks.length≤2:=wf.two;have hsw:smw s:=(wf_smw wf).2.2.2.2.1;obtain ⟨w1,w2,w3,w4,w5,w6,w7,w8,w9⟩:=wf;exact mSpoiltS d (fun r t way at_ by_ w h=>mSpoiltT d r t way at_ by_ w h) op n b zA zn zc dA dn dc q s A c rs ks hc way at_ by_ hl2 w1 w7 w8 w3 hsw w9 w h g hZ hK hKs
instance (s:ByteArray) (ns:List ByteArray):Decidable (s∈ns):=@List.instDecidableMemOfLawfulBEq ByteArray instBEqOfDecidableEq inferInstance s ns
def posN:List ByteArray→ByteArray→Nat
  | [],_=>0
  | x::l,s=>if x=s then 0 else posN l s+1
theorem posN_eq:∀ {l:List ByteArray} {s:ByteArray} {j:Nat},(∀ i,i<j→¬l.getD i ⟨#[]⟩=s)→j<l.length→l.getD j ⟨#[]⟩=s→posN l s=j
  | [],_,_,_,hj,_=>absurd hj (Nat.not_lt_zero _)
  | x::l,s,0,_,_,h=>if_pos h
  | x::l,s,j+1,h,hj,e=>by
    have h0:¬x=s:=h 0 (Nat.succ_pos _);have:=posN_eq (l:=l) (s:=s) (j:=j) (fun i hi=>h (i+1) (Nat.succ_lt_succ hi)) (Nat.lt_of_succ_lt_succ hj) e
    show (if x=s then 0 else posN l s+1)=j+1
    rw[if_neg h0,this]
theorem posN_lt:∀ {l:List ByteArray} {s:ByteArray},s∈l→posN l s<l.length∧l.getD (posN l s) ⟨#[]⟩=s
  | [],_,h=>absurd h List.not_mem_nil
  | x :: l,s,h=>by
    unfold posN
    by_cases e:x=s
    · rw[if_pos e];exact ⟨Nat.succ_pos _,e⟩
    · rw[if_neg e]
      rcases List.mem_cons.1 h with h1|h1
      · exact absurd h1.symm e
      · have:=posN_lt h1
        exact ⟨Nat.succ_lt_succ this.1,this.2⟩
def plN (ns:List ByteArray)(s:ByteArray):Int:=if s∈ns then (posN ns s:Nat) else 0
theorem plN_pos {ns:List ByteArray}{s:ByteArray}(h:s∈ns):plN ns s=(posN ns s:Nat):=if_pos h
def plEs:List ByteArray→Nat→List MapEntry
  | [],_=>[]
  | x::l,i=>⟨.string x,.int .i64 (i:Nat),i⟩::plEs l (i+1)
theorem plEs_at:∀ {l:List ByteArray} {i j:Nat} {e:MapEntry},(plEs l i)[j]?=some e→∃ x,l[j]?=some x∧e=⟨.string x,.int .i64 ((i+j:Nat):Int),i+j⟩
  | [],_,_,_,h=>by cases h
  | x::l,i,0,e,h=>by injection h with h;exact ⟨x,rfl,h.symm⟩
  | x::l,i,j+1,e,h=>by
    obtain ⟨y,h1,h2⟩:=plEs_at (l:=l) (i:=i+1) (j:=j) h;exact ⟨y,h1,by rw[h2,show i+1+j=i+(j+1) by omega]⟩
theorem plEs_of:∀ {l:List ByteArray} {i j:Nat} {x:ByteArray},l[j]?=some x→(plEs l i)[j]?=some ⟨.string x,.int .i64 ((i+j:Nat):Int),i+j⟩
  | [],_,_,_,h=>by cases h
  | y::l,i,0,x,h=>by injection h with h;subst h;rfl
  | y::l,i,j+1,x,h=>by
    have:=plEs_of (l:=l) (i:=i+1) (j:=j) (x:=x) h;rw[show i+1+j=i+(j+1) by omega] at this
    exact this
theorem posN_nd {ns:List ByteArray}(hn:ns.Nodup){j:Nat}{s:ByteArray}(h:ns[j]?=some s):posN ns s=j:=by
  obtain ⟨hj,e⟩:=List.getElem?_eq_some_iff.1 h;refine posN_eq (fun i hi he=>?_) hj (by rw[List.getD_eq_getElem?_getD,h];rfl);rw[List.getD_eq_getElem?_getD,List.getElem?_eq_getElem oM] at he
  have he:ns[i]'oM=s:=he;exact absurd ((List.getElem_inj hn).1 (he.trans e.symm)) oM
theorem pl_lk {ns:List ByteArray}(hn:ns.Nodup)(s:ByteArray):(∃ i,Instr.findNow .string (.string s) (plEs ns 0) 0=some (some (i,.int .i64 (plN ns s)))∧decide (s∈ns)=true)∨(Instr.findNow .string (.string s) (plEs ns 0) 0=some none∧decide (s∈ns)=false∧plN ns s=0):=by
  rcases MapKept.findNow_spec (d:=.string) (k:=.string s) (by simp[MapKept.IsKey]) (plEs ns 0) 0 (fun x hx=>by
    obtain ⟨j,hj⟩:=List.mem_iff_getElem?.1 hx;obtain ⟨y,_,rfl⟩:=plEs_at hj
    simp[MapKept.IsKey]) with ⟨a,b⟩|⟨j,e,a,b,c⟩
  · have hm:s ∉ ns:=fun h=>by
      obtain ⟨j,hj⟩:=List.mem_iff_getElem?.1 h;exact b _ (List.mem_iff_getElem?.2 ⟨j,plEs_of hj⟩) rfl
    exact .inr ⟨a,decide_eq_false hm,if_neg hm⟩
  · obtain ⟨y,hy,rfl⟩:=plEs_at b
    injection c with c
    subst c;have hm:y∈ns:=List.mem_iff_getElem?.2 ⟨j,hy⟩;refine .inl ⟨0+j,?_,decide_eq_true hm⟩;rw[a,plN_pos hm,posN_nd hn hy,Nat.zero_add]
theorem nm_pl {ns:List ByteArray}{s:ByteArray}(h:s∈ns):nmOk (fun z=>ns.getD z.toNat ⟨#[]⟩) (plN ns) (ns.length:Nat) s:=by
  have hp:=posN_lt h
  unfold nmOk plN
  rw[if_pos h];exact ⟨hp.2,by omega,by omega⟩
structure LaidO (pl:ByteArray→Int) (d:Nat) (h:Hp) (rl:List RSt) (ss:List OSt) (l:List Stp):Prop where
  rs:RSs h rl ss
  mp:ss.map OSt.stp=l
  sm:OSms ss
theorem LaidO.gw {pl:ByteArray→Int}{d:Nat}{h h':Hp}{rl:List RSt}{ss:List OSt}{l:List Stp}(x:LaidO pl d h rl ss l)(u:Gw h h'):LaidO pl d h' rl ss l:=⟨x.rs.gw u,x.mp,x.sm⟩
theorem LaidO.len {pl:ByteArray→Int}{d:Nat}{h:Hp}{rl:List RSt}{ss:List OSt}{l:List Stp}(x:LaidO pl d h rl ss l):rl.length=l.length:=by rw[←x.mp,List.length_map];exact x.rs.len
theorem LaidO.lenS {pl:ByteArray→Int}{d:Nat}{h:Hp}{rl:List RSt}{ss:List OSt}{l:List Stp}(x:LaidO pl d h rl ss l):ss.length=l.length:=by rw[←x.mp,List.length_map]
theorem LaidO.nil {pl:ByteArray→Int}{d:Nat}{h:Hp}:LaidO pl d h [] [] []:=⟨RSs.nil,rfl,fun i hi=>absurd hi (Nat.not_lt_zero i)⟩
theorem rz_q {h:Hp}{b:Bool}{zA dA:Option Addr}{zn zc dn dc:Nat}{q:Rat}(x:RZ h (b,.slice zA zn zc,.slice dA dn dc) q){op a e n:Int}:∃ has,RS1 h ⟨op,a,e,n,(b,.slice zA zn zc,.slice dA dn dc)⟩ ⟨op,a,e,n,q,has⟩:=by
  obtain ⟨has,h1,h2⟩:=x;exact ⟨has,rfl,rfl,rfl,rfl,h1,h2⟩
theorem LaidO.snoc {pl:ByteArray→Int}{d:Nat}{h:Hp}{rl:List RSt}{ss:List OSt}{l:List Stp}{b:Bool}{zA dA:Option Addr}{zn zc dn dc:Nat}{q:Rat}{op a e n:Int}(x:LaidO pl d h rl ss l)(z:RZ h (b,.slice zA zn zc,.slice dA dn dc) q)(ho : -1000≤op∧op≤1000)(ha : -1000≤a∧a≤1000)(he : -1000≤e∧e≤1000)(hn : -1000≤n∧n≤1000)(hq:LQ 1 q):∃ ss',LaidO pl d h (rl++[⟨op,a,e,n,(b,.slice zA zn zc,.slice dA dn dc)⟩]) ss' (l++[⟨op,a,e,n,q⟩]):=by
  obtain ⟨has,hz⟩:=rz_q z (op:=op) (a:=a) (e:=e) (n:=n);exact ⟨ss++[⟨op,a,e,n,q,has⟩],x.rs.snoc hz,by rw[List.map_append,x.mp];rfl,x.sm.snoc ⟨ho,ha,he,hn,hq⟩⟩
section
variable {pl:ByteArray→Int} {d k:Nat} {l:List Stp} {ks:List Tm} {za zb:Int}
theorem rK_a0 (h:k=0):(((recT pl d (recK (recT pl d) ks l k).1 (ks.getD k tm0)).length:Nat):Int)-1=(recK (recT pl d) ks l (k+1)).2.1:=by
  show _=if k=0 then _ else _;rw[if_pos h]
theorem rK_b0 (hb:zb=(recK (recT pl d) ks l k).2.2)(h:k=0):zb=(recK (recT pl d) ks l (k+1)).2.2:=by
  subst hb;show _=if k=0 then _ else _;rw[if_pos h]
theorem rK_a1 (ha:za=(recK (recT pl d) ks l k).2.1)(h:k≠0):za=(recK (recT pl d) ks l (k+1)).2.1:=by
  subst ha;show _=if k=0 then _ else _;rw[if_neg h]
theorem rK_b1 (h:k≠0):(((recT pl d (recK (recT pl d) ks l k).1 (ks.getD k tm0)).length:Nat):Int)-1=(recK (recT pl d) ks l (k+1)).2.2:=by
  show _=if k=0 then _ else _;rw[if_neg h]
end
theorem recK_len {ok:ByteArray→Prop}{pl:ByteArray→Int}{d:Nat}(hr:∀ {t:Tm},WfT ok d t→∀ l:List Stp,(recT pl d l t).length=l.length+cntT d t){ks:List Tm}(hW:∀ i,i<ks.length→WfT ok d (ks.getD i tm0))(l:List Stp):∀ k,k≤ks.length→(recK (recT pl d) ks l k).1.length=l.length+sumN (fun i=>cntT d (ks.getD i tm0)) k
  | 0,_=>rfl
  | k+1,hk=>by
    show (recT pl d (recK (recT pl d) ks l k).1 (ks.getD k tm0)).length=l.length+(sumN _ k+cntT d (ks.getD k tm0))
    rw[hr (hW k oM),recK_len hr hW l k oM];omega
open Go.RowKit Go.WideMaps
structure MapI (P:Program) (kt:TypeId) (Q:Value→Prop) (w1:World) (h1:Hp) (b:Nat):Prop where
  jk:h1[b]?=some junk
  ex:∃ es clk,w1.heap[b]?=some (.map es clk)∧∀ e∈es.toList,(∃ l,keyOf P kt e.key=some l)∧Q e.val
section laws
variable {P:Program} {n:Nat} {N R:Po} {X:Nat→Po} {ops:Array Oper} {k:Nat} {Γ:Env} {w:World} {h:Hp} {w0 w1:World} {h0 h1:Hp} {B:List Bx} {Rs:List Rw} {F:List (Hp→Prop)}
theorem SS.base (s:SS w1 h1 w h B Rs F){b:Nat}{o:Obj}(hj:h1[b]?=some junk)(hb:b<w1.heap.size) :
    SS { w1 with heap:=w1.heap.setIfInBounds b o } h1 { w with heap:=w.heap.setIfInBounds b o } h B Rs F∧G { w1 with heap:=w1.heap.setIfInBounds b o } h1:=by
  have hlt:b<h1.size:=lt_of_some hj;have hj2:h[b]?=some junk:=(s.st.up.gr.blk b hlt).trans hj;have hbw:b<w.heap.size:=by rw[s.g.size];exact lt_of_some hj2
  have set:∀ (w:World) c,c≠b→({ w with heap:=w.heap.setIfInBounds b o }:World).heap[c]?=w.heap[c]?:=fun w c hc=>by show (w.heap.setIfInBounds b o)[c]?=_;rw[Array.getElem?_setIfInBounds_ne (Ne.symm hc)]
  have selfs:∀ (w:World),b<w.heap.size→({ w with heap:=w.heap.setIfInBounds b o }:World).heap[b]?=some o:=fun w hw=>by show (w.heap.setIfInBounds b o)[b]?=_;rw[Array.getElem?_setIfInBounds_self_of_lt hw]
  have gg:∀ (w:World) (h:Hp),G w h→h[b]?=some junk→G { w with heap:=w.heap.setIfInBounds b o } h:=fun w h g j=>⟨by show (w.heap.setIfInBounds b o).size=_;rw[Array.size_setIfInBounds];exact g.size,fun c=>by
    by_cases e:c=b
    · subst e;exact .inr j
    · rw[set w c e];exact g.blk c⟩
  have g0':=gg w1 h1 s.g0 hj;refine ⟨⟨g0',⟨⟨?_,s.st.up.gr,gg w h s.g hj2⟩,fun x hx=>?_,s.st.jk,s.st.lo,s.st.nd⟩,fun r hr=>?_,s.ap,s.mo,s.f⟩,g0'⟩
  · have e:=s.st.up.ext
    refine ⟨e.os,e.tape,e.output,?_,fun c hc=>?_⟩
    · show (w1.heap.setIfInBounds b o).size≤(w.heap.setIfInBounds b o).size
      rw[Array.size_setIfInBounds,Array.size_setIfInBounds];exact e.size
    · by_cases q:c=b
      · subst q;rw[selfs w hbw,selfs w1 hb]
      · rw[set w c q,set w1 c q];exact e.block c (by have:c<(w1.heap.setIfInBounds b o).size:=hc;rw[Array.size_setIfInBounds] at this;exact this)
  · have:x.b≠b:=fun e=>by have:=s.st.lo x hx;omega
    exact (set w x.b this).trans (s.st.own x hx)
  · have q:=s.ro r hr
    refine ⟨own_block q.own (fun c hc=>set w c (fun e=>?_)),q.jk,q.ap⟩;subst e
    rcases q.own with ⟨_,e2|⟨g,cap,cur,hv,hb',_⟩⟩
    · rw[e2.1] at hc;simp[Value.ownBlock] at hc
    · rw[hv] at hc
      simp[Value.ownBlock] at hc
      omega
end laws
def kes (ss:List ByteArray):List MapEntry:=ss.zipIdx.map fun p=>⟨.string p.1,.bool true,p.2⟩
theorem kes_snoc (ss:List ByteArray)(s:ByteArray):kes (ss++[s])=kes ss++[⟨.string s,.bool true,ss.length⟩]:=by
  unfold kes;rw[List.zipIdx_append,List.map_append];simp
theorem kes_at {ss:List ByteArray}{j:Nat}{e:MapEntry}(h:(kes ss)[j]?=some e):∃ s,ss[j]?=some s∧e=⟨.string s,.bool true,j⟩:=by
  unfold kes at h
  rw[List.getElem?_map,List.getElem?_zipIdx] at h
  cases hs:ss[j]? with
  | none=>rw[hs] at h;simp at h
  | some s=>rw[hs] at h;simp at h;exact ⟨s,rfl,h.symm⟩
theorem kes_mem {ss:List ByteArray}{e:MapEntry}(h:e∈kes ss):∃ j s,ss[j]?=some s∧e=⟨.string s,.bool true,j⟩:=by
  obtain ⟨j,hj⟩:=List.mem_iff_getElem?.1 h;obtain ⟨s,h1,h2⟩:=kes_at hj;exact ⟨j,s,h1,h2⟩
theorem kes_has {ss:List ByteArray}{s:ByteArray}(h:s∈ss):∃ e∈kes ss,e.key=.string s:=by
  obtain ⟨j,hj⟩:=List.mem_iff_getElem?.1 h;refine ⟨⟨.string s,.bool true,j⟩,?_,rfl⟩
  unfold kes
  refine List.mem_map.2 ⟨(s,j),?_,rfl⟩;rw[List.mem_iff_getElem?];exact ⟨j,by rw[List.getElem?_zipIdx,hj];simp⟩
theorem kes_find (ss:List ByteArray)(s:ByteArray):(Instr.findNow .string (.string s) (kes ss) 0=some none∧s ∉ ss)∨∃ j,Instr.findNow .string (.string s) (kes ss) 0=some (some (j,.bool true))∧ss[j]?=some s:=by
  rcases MapKept.findNow_spec (d:=.string) (k:=.string s) (by simp[MapKept.IsKey]) (kes ss) 0 (fun x hx=>by obtain ⟨_,_,_,rfl⟩:=kes_mem hx;simp[MapKept.IsKey]) with ⟨h1,h2⟩|⟨j,e,h1,h2,h3⟩
  · refine .inl ⟨h1,fun hm=>?_⟩
    obtain ⟨e,he,hk⟩:=kes_has hm;exact h2 e he hk
  · obtain ⟨s',hs,rfl⟩:=kes_at h2
    injection h3 with h3
    subst h3;exact .inr ⟨j,by rw[h1,Nat.zero_add],hs⟩
structure MapK (w:World) (h:Hp) (b:Nat) (ss:List ByteArray):Prop where
  jk:h[b]?=some junk
  ob:w.heap[b]?=some (.map (kes ss).toArray ss.length)
  nd:ss.Nodup
section laws
variable {P:Program} {n:Nat} {N R:Po} {X:Nat→Po} {ops:Array Oper} {k:Nat} {Γ:Env} {w:World} {h:Hp} {w1:World} {h1:Hp} {B:List Bx} {Rs:List Rw} {F:List (Hp→Prop)}
theorem SS.atK (s:SS w1 h1 w h B Rs F){b:Nat}{ss:List ByteArray}(m:MapK w1 h1 b ss):w.heap[b]?=some (.map (kes ss).toArray ss.length) :=
  (s.st.up.ext.block b (by rw[s.g0.size];exact lt_of_some m.jk)).trans m.ob
theorem um_base {b:Nat}{o:Obj}(g1:G { w1 with heap:=w1.heap.setIfInBounds b o } h1):UpM [b] w1 h1 { w1 with heap:=w1.heap.setIfInBounds b o } h1 :=
  ⟨⟨rfl,rfl,rfl,by show _≤(w1.heap.setIfInBounds b o).size;rw[Array.size_setIfInBounds];exact Nat.le_refl _,fun c _ hn=>by
    show (w1.heap.setIfInBounds b o)[c]?=_
    rw[Array.getElem?_setIfInBounds_ne (fun e=>hn (List.mem_singleton.2 e.symm))]⟩,Gr.refl _,g1⟩
theorem lMuK {mty kt et:TypeId}{b:Nat}{ss:List ByteArray}(ky:ByteArray)(s:SS w1 h1 w h B Rs F)(m:MapK w1 h1 b ss)
    (H:∀ w1' w' ss2,SS w1' h1 w' h B Rs F→MapK w1' h1 b ss2→(∀ x,x∈ss2↔x∈ss∨x=ky)→ss2.length≤ss.length+1→UpM [b] w1 h1 w1' h1→LG P n N R X ops (k+1) Γ w')
    (hc:cS ops Γ k=true:=by kernel_rfl)(hx:execOp (ev Γ) (opAt ops k)=(do Instr.mapUpdate mty (.map (some b)) (.string ky) (.bool true);pure .skip):=by kernel_rfl)(hu:P.underlying mty=some (.map kt et):=by kernel_rfl)(hk:P.underlying kt=some .string:=by kernel_rfl):LG P n N R X ops k Γ w:=by
  have hw:=s.atK m;have hlt:b<w1.heap.size:=(Array.getElem?_eq_some_iff.1 m.ob).1
  rcases kes_find ss ky with ⟨hf,hn⟩|⟨j,hf,hj⟩
  · have hr:=run_upd w (val:=.bool true) hu hk hw hf
    obtain ⟨s2,g2⟩:=s.base (o:=.map ((kes ss).toArray.push ⟨.string ky,.bool true,ss.length⟩) (ss.length+1)) m.jk hlt;refine LG.store _ (cS_1 hc).1 (cS_1 hc).2 ?_ (H _ _ (ss++[ky]) s2 ⟨m.jk,?_,?_⟩ (fun x=>by simp) (by simp) (um_base g2))
    · rw[hx];simp[hr,Result.andThen]
    · show (w1.heap.setIfInBounds b _)[b]?=_
      rw[Array.getElem?_setIfInBounds_self_of_lt hlt,kes_snoc];simp
    · exact List.nodup_append.2 ⟨m.nd,by simp,fun a ha c hc e=>hn (by rw[List.mem_singleton] at hc;rw[←hc,←e];exact ha)⟩
  · have hjl:j<ss.length:=(List.getElem?_eq_some_iff.1 hj).1
    have hkj:(kes ss)[j]?=some ⟨.string ky,.bool true,j⟩:=by
      unfold kes;rw[List.getElem?_map,List.getElem?_zipIdx,hj];simp
    have hr:=run_updo w (val:=.bool true) hu hk hw hf (by simp[hkj])
    have he:((kes ss).toArray.modify j fun e=>{ e with key:=.string ky,val:=.bool true })=(kes ss).toArray:=by
      apply Array.ext_getElem?
      intro i;rw[Array.getElem?_modify]
      by_cases e:j=i
      · subst e
        rw[if_pos rfl]
        simp[hkj]
      · rw[if_neg e]
    rw[he] at hr
    obtain ⟨s2,g2⟩:=s.base (o:=.map (kes ss).toArray ss.length) m.jk hlt;refine LG.store _ (cS_1 hc).1 (cS_1 hc).2 ?_ (H _ _ ss s2 ⟨m.jk,?_,m.nd⟩ (fun x=>⟨.inl,fun h=>h.elim id fun e=>by rw[e];exact List.mem_iff_getElem?.2 ⟨j,hj⟩⟩) (Nat.le_succ _) (um_base g2))
    · rw[hx];simp[hr,Result.andThen]
    · show (w1.heap.setIfInBounds b _)[b]?=_
      rw[Array.getElem?_setIfInBounds_self_of_lt hlt]
theorem SS.baseK (s:SS w1 h1 w h B Rs F){b:Nat}{ss ss2:List ByteArray}(m:MapK w1 h1 b ss){w':World}{h':Hp}(u:UpM [b] w h w' h')(ho:w'.heap[b]?=some (.map (kes ss2).toArray ss2.length))(nd:ss2.Nodup):∃ w1',SS w1' h1 w' h' B Rs F∧MapK w1' h1 b ss2∧UpM [b] w1 h1 w1' h1:=by
  have hlt:b<w1.heap.size:=(Array.getElem?_eq_some_iff.1 m.ob).1;have hb1:=lt_of_some m.jk;obtain ⟨s2,g2⟩:=s.base (o:=.map (kes ss2).toArray ss2.length) m.jk hlt;have hsz:({ w1 with heap:=w1.heap.setIfInBounds b (.map (kes ss2).toArray ss2.length) }:World).heap.size=w1.heap.size:=by simp
  have blk:∀ c,c<w.heap.size→c≠b→w'.heap[c]?=w.heap[c]?:=fun c hc hn=>u.mo.blk c hc (fun hm=>hn (List.mem_singleton.1 hm))
  have e:=s.st.up.ext;have hnb:∀ x∈B,x.b≠b:=fun x hx e=>by have:=s.st.lo x hx;omega
  refine ⟨_,⟨g2,⟨⟨⟨u.mo.os.trans e.os,u.mo.tape.trans e.tape,u.mo.output.trans e.output,by rw[hsz];exact Nat.le_trans e.size u.mo.size,fun c hc=>?_⟩,s.st.up.gr.trans u.gr,u.g⟩,fun x hx=>?_,fun x hx=>?_,s.st.lo,s.st.nd⟩,fun r hr=>⟨own_block (s.ro r hr).own (fun c hc=>?_),fun c hc=>(u.gr.blk c ((s.ro r hr).lt hc)).trans ((s.ro r hr).jk c hc),(s.ro r hr).ap⟩,s.ap,s.mo,s.f.gw s.mo u.gr.gw⟩,⟨m.jk,by show (w1.heap.setIfInBounds b _)[b]?=_;rw[Array.getElem?_setIfInBounds_self_of_lt hlt],nd⟩,um_base g2⟩
  · rw[hsz] at hc
    by_cases q:c=b
    · subst q
      rw[ho]
      show _=(w1.heap.setIfInBounds c _)[c]?
      rw[Array.getElem?_setIfInBounds_self_of_lt hlt]
    · rw[blk c (Nat.lt_of_lt_of_le hc e.size) q]
      show _=(w1.heap.setIfInBounds b _)[c]?
      rw[Array.getElem?_setIfInBounds_ne (Ne.symm q)];exact e.block c hc
  · have hO:=s.st.own x hx
    exact (blk x.b hO.lt (hnb x hx)).trans hO
  · rw[u.gr.blk _ (lt_of_some (s.st.jk x hx))];exact s.st.jk x hx
  · refine blk c (own_lt (s.ro r hr).own hc) (fun e=>?_)
    subst e;have q:=(s.ro r hr).own
    rcases q with ⟨_,e2|⟨g,cap,cur,hv,hb',_⟩⟩
    · rw[e2.1] at hc;simp[Value.ownBlock] at hc
    · rw[hv] at hc;simp[Value.ownBlock] at hc;omega
theorem SS.frontR {w0:World}{h0:Hp}{R:List Rw}(s:SS w0 h0 w h B R F)(p' q':List Rw)(y:Rw)(e2:R=p'++y::q':=by kernel_rfl):SS w0 h0 w h B (y::(p'++q')) F:=by
  subst e2;exact s.permBR (.refl _) List.perm_middle
theorem SS.backR {w0:World}{h0:Hp}(p' q':List Rw)(y:Rw)(s:SS w0 h0 w h B (y::(p'++q')) F):SS w0 h0 w h B (p'++y::q') F:=s.permBR (.refl _) List.perm_middle.symm
end laws
section ro
variable {w0:World} {h0:Hp} {w:World} {h:Hp} {B:List Bx} {R:List Rw} {F:List (Hp→Prop)}
theorem SS.ro_jk (s:SS w0 h0 w h B R F)(j:Nat){ty:TypeId}{sz c m:Nat}{A:Option Addr}{cs:List Value}(hr:R.getD j default=⟨ty,sz,A,c,m,cs⟩:=by kernel_rfl)(hj:decide (j<R.length)=true:=by kernel_rfl):∀ b∈(Value.slice A m c).ownBlock.toList,h[b]?=some junk:=fun b hb=>by
  have hj':=oT hj;have r:=s.ro _ (List.getElem_mem hj');rw[rw_get hr hj'] at r
  exact r.jk b (Option.mem_toList.1 hb)
theorem SS.ro_lt (s:SS w0 h0 w h B R F)(j:Nat){ty:TypeId}{sz c m:Nat}{A:Option Addr}{cs:List Value}(hr:R.getD j default=⟨ty,sz,A,c,m,cs⟩:=by kernel_rfl)(hj:decide (j<R.length)=true:=by kernel_rfl):∀ b∈(Value.slice A m c).ownBlock.toList,b<h.size:=fun b hb=>by
  have hj':=oT hj;have r:=s.ro _ (List.getElem_mem hj');rw[rw_get hr hj'] at r
  exact lt_of_some (r.jk b (Option.mem_toList.1 hb))
theorem SS.ro_ne (s:SS w0 h0 w h B R F)(q j:Nat){ty:TypeId}{sz c m:Nat}{A:Option Addr}{cs:List Value}(hq:decide (q<B.length)=true:=by kernel_rfl)(hr:R.getD j default=⟨ty,sz,A,c,m,cs⟩:=by kernel_rfl)(hj:decide (j<R.length)=true:=by kernel_rfl):(bxAt B q).b ∉ (Value.slice A m c).ownBlock.toList:=fun hb=>by
  have hj':=oT hj;have r:=s.ro _ (List.getElem_mem hj');rw[rw_get hr hj'] at r
  exact r.ap _ (Option.mem_toList.1 hb) (List.mem_map.2 ⟨_,bxAt_mem (oT hq),rfl⟩)
end ro
theorem rec_len {ok:ByteArray→Prop}{pl:ByteArray→Int}:∀ {d:Nat} {t:Tm},WfT ok d t→∀ l:List Stp,(recT pl d l t).length=l.length+cntT d t
  | d + 1,t,w,l=>by
    have hk:∀ k,k≤t.ks.length→(recK (recT pl d) t.ks l k).1.length=l.length+sumN (fun i=>cntT d (t.ks.getD i tm0)) k:=by
      intro k
      induction k with
      | zero=>intro _;rfl
      | succ k ih =>
        intro hk
        show (recT pl d (recK (recT pl d) t.ks l k).1 (t.ks.getD k tm0)).length=l.length+(sumN _ k+cntT d (t.ks.getD k tm0))
        rw[rec_len (w.2.2.2.2.2.2.2.2 k oM),ih oM];omega
    show ((recK (recT pl d) t.ks l t.ks.length).1++[_]).length=l.length+(1+sumN _ t.ks.length)
    rw[List.length_append,hk _ (Nat.le_refl _),List.length_singleton];omega
section
variable {pl:ByteArray→Int} {d k:Nat} {l tl:List Stp} {ks:List Tm} {za zb:Int}
theorem recK_a0 (htl:tl=(recK (recT pl d) ks l k).1)(h:k=0):(((recT pl d tl (ks.getD k tm0)).length:Nat):Int)-1=(recK (recT pl d) ks l (k+1)).2.1:=by
  subst htl;show _=if k=0 then _ else _;rw[if_pos h]
theorem recK_b0 (hb:zb=(recK (recT pl d) ks l k).2.2)(h:k=0):zb=(recK (recT pl d) ks l (k+1)).2.2:=by
  subst hb;show _=if k=0 then _ else _;rw[if_pos h]
theorem recK_a1 (ha:za=(recK (recT pl d) ks l k).2.1)(h:k≠0):za=(recK (recT pl d) ks l (k+1)).2.1:=by
  subst ha;show _=if k=0 then _ else _;rw[if_neg h]
theorem recK_b1 (htl:tl=(recK (recT pl d) ks l k).1)(h:k≠0):(((recT pl d tl (ks.getD k tm0)).length:Nat):Int)-1=(recK (recT pl d) ks l (k+1)).2.2:=by
  subst htl;show _=if k=0 then _ else _;rw[if_neg h]
end
theorem tCountS  (ok:ByteArray→Prop)(d:Nat)(ih:∀ (p:PTm) (t:Tm) (w:World) (h:Hp),G w h→TmH d h p t→WfT ok d t→d≤20→Calls Tryz.prog 24 #[ptv p] w (Ret w h (fun v _=>v=nV (cntT d t))))(op n:Int)(q:Rat)(s:ByteArray)(A:Option Addr)(c:Nat)(ps:List PTm)(ks:List Tm)(hc:ps.length≤c)(hlp:ps.length≤2)(hari:ari op=(ks.length:Nat))(hq0:op≠1→q=0)(hq:LQ 1 q)(hok:op=2→ok s)(hs0:op≠2→s=⟨#[]⟩)(hn0:op≠8→n=0)(hn1 : -12≤n)(hn2:n≤12)(hW:∀ i,i<ks.length→WfT ok d (ks.getD i tm0))(hd:d+1≤20)(w:World)(h:Hp)(g:G w h)(hK:SlO 9 ptc ptm0 h A ps)(hKs:Tms d h ps ks):CV 24 #[pW op n q s A ps.length c] w h (nV (cntT (d+1) (.mk op n q s ks))):=by
 have hs:=(((sS g).aS hK).add (K:=fun h_=>Tms d h_ ps ks) hKs);have hln:=(hs.f.1).len;have hd2:2^d≤1048576:=Nat.le_trans (Nat.pow_le_pow_right oM (show d≤20 by omega)) kD;have hcb:∀ i,i<ks.length→cntT d (ks.getD i tm0)≤1048576:=fun i hi=>by have:=cnt_le (hW i hi);omega
 have hsb:∀ k,k≤ks.length→(sumN (fun i=>cntT d (ks.getD i tm0)) k)≤2*1048576:=fun k hk=>Nat.le_trans (sumN_le (b:=1048576) k (fun i hi=>hcb i oM)) (Nat.mul_le_mul_right _ oM)
 refine go Tryz.func24 [(0,pW op n q s A ps.length c)] rfl (cSL (lA 1 61 (pG op n q s A ps.length c) hs (fun b1 w2 h3 hs=>lL hs [.v 2 (iV 0)] (lNS (lL hs [.v 3 (iV 1)] (lNcQ (cSLlL hs [.v 6 (qP b1 8),.o 7 (qS A ps.length c) 0 8 1,.v 8 (nV ps.length),.v 9 (iV 0)] (lNkZ ?_))))))));refine cTo _ (CG.loop (fun μ_ Γ w_=>∃ (k:Nat) (h_:Hp),μ_=ps.length-k∧Γ=[(2,iV 0),(7,qS A ps.length c),(8,nV ps.length),(9,nV k),(3,iV ((1+(sumN (fun i=>cntT d (ks.getD i tm0)) k):Nat):Int))]∧SS w h w_ h_ [⟨b1,61,pG op n q s A ps.length c⟩] [] [fun h_=>Tms d h_ ps ks,fun h_=>SlO 9 ptc ptm0 h_ A ps]∧k≤ps.length) _ ⟨0,h3,rfl,rfl,hs.to _ _,Nat.zero_le _⟩ ?_);rintro _ _ w4 ⟨k,h5,hm6,rfl,hs,hk⟩;have hsbk:=hsb k oM;have hs1:(sumN (fun i=>cntT d (ks.getD i tm0)) (k+1))=(sumN (fun i=>cntT d (ks.getD i tm0)) k)+cntT d (ks.getD k tm0):=rfl;refine cSL ?_;cases hb7:(decide ((k:Int)<(ps.length:Int)))
 ·
  have phb7:=oF hb7;refine lB 10 hb7 (lNcQ (cIF (CG.exit ?_)))
  show CG _ _ _ _ _ _ _ _
  exact cSLlL hs [.m 18 3,.m 2 18] (lNkXr hs [] (iV ((1+(sumN (fun i=>cntT d (ks.getD i tm0)) k):Nat):Int)) (congrArg (fun n:Nat=>Value.int .i64 (n:Int)) (by rw[show k=ks.length by omega];rfl)))
 have phb7:=oT hb7;refine lB 10 hb7 (lNcQ (cIT (cK (cQ (kZ (cSL (lX 11 A ps.length c 9 (k:Nat) k ((hs.f.2.1).ok oM) ?_)))))));refine lH 12 (pX (ps.getD k ptm0)) hs ((hs.f.2.1).el k oM) (lA 5 61 ([iV 0,iV 0,qF,uV 0,eS,uV 0,eS,eS,sZ]) hs (fun b8 w9 _ hs=>lP 0 0 (pC (ps.getD k ptm0)) hs (fun _ hs=>lN (kQ (lL hs [.m 13 3,.o 14 (pX (ps.getD k ptm0)) 0 0 9] (lCval 15 hs (ih (ps.getD k ptm0) (ks.getD k tm0) _ _ hs.g ((hs.f.1).at_ k oM) (hW k oM) oM) (fun _ za hs=>?_)))))));have hcbk:=hcb k oM;refine lV 16 (iV ((1+(sumN (fun i=>cntT d (ks.getD i tm0)) (k+1)):Nat):Int)) ?_ (hr:=rS ((((1+(sumN (fun i=>cntT d (ks.getD i tm0)) k):Nat):Int)+(cntT d (ks.getD k tm0):Nat))) kR ((wr64 oM oM).trans oM));refine lL hs [.m 3 16] (lN (kQ (lIn 17 ((k:Nat)+1) (k+1) ?_)));refine lL hs [.m 9 17] (lD ?_);intro a_ ka;replace hs:=hs.drop 1 0;refine ⟨_,_,?_,⟨k+1,za,rfl,rfl,hs.to _ _,oM⟩,ka.to _ kR⟩
 omega
theorem tCount (ok:ByteArray→Prop):∀ (d:Nat) (p:PTm) (t:Tm) (w:World) (h:Hp),G w h→TmH d h p t→WfT ok d t→d≤20→Calls Tryz.prog 24 #[ptv p] w (Ret w h (fun v _=>v=nV (cntT d t)))
  | 0,_,_,_,_,_,x,_,_=>x.elim
  | d + 1,p,t,w,h,g,x,wf,hd=>by
    obtain ⟨op,n,q,s,A,c,ps,ks,rfl,rfl,hc,hK,hKs⟩:=x.open;obtain ⟨w1,w2,w3,w4,w5,w6,w7,w8,w9⟩:=wf
    have hl2:ps.length≤2:=by
      have e1:ari op=ks.length:=w1;have:=ari_cases op;have:=hKs.len
      omega
    exact tCountS ok d (fun p t w h=>tCount ok d p t w h) op n q s A c ps ks hc hl2 w1 w2 w3 w4 w5 w6 w7 w8 w9 hd w h g hK hKs
theorem tGatherS  (ok:ByteArray→Prop)(d:Nat)(ih:∀ (p:PTm) (t:Tm) (b:Nat) (ss:List ByteArray) (w:World) (h:Hp),G w h→TmH d h p t→WfT ok d t→MapK w h b ss→Calls Tryz.prog 58 #[ptv p,.map (some b)] w (RetM b w h (fun v w1 _=>v=.tuple #[]∧∃ ss2:List ByteArray,w1.heap[b]?=some (.map (kes ss2).toArray ss2.length)∧ss2.Nodup∧(∀ x,x∈ss2↔x∈ss∨HasN d t x)∧ss2.length≤ss.length+cntT d t)))(op n:Int)(q:Rat)(s:ByteArray)(A:Option Addr)(c:Nat)(ps:List PTm)(ks:List Tm)(hc:ps.length≤c)(hlp:ps.length≤2)(hari:ari op=(ks.length:Nat))(hq0:op≠1→q=0)(hq:LQ 1 q)(hok:op=2→ok s)(hs0:op≠2→s=⟨#[]⟩)(hn0:op≠8→n=0)(hn1 : -12≤n)(hn2:n≤12)(hW:∀ i,i<ks.length→WfT ok d (ks.getD i tm0))(b:Nat)(ss:List ByteArray)(w:World)(h:Hp)(g:G w h)(hK:SlO 9 ptc ptm0 h A ps)(hKs:Tms d h ps ks)(hmk:MapK w h b ss):Calls Tryz.prog 58 #[pW op n q s A ps.length c,.map (some b)] w (RetM b w h (fun v w1 _=>v=.tuple #[]∧∃ ss2:List ByteArray,w1.heap[b]?=some (.map (kes ss2).toArray ss2.length)∧ss2.Nodup∧(∀ x,x∈ss2↔x∈ss∨HasN (d+1) (.mk op n q s ks) x)∧ss2.length≤ss.length+cntT (d+1) (.mk op n q s ks))):=by
 have hmu:UpM [b] w h w h:=UpM.refl g;have hs:SS w h w h [] [] []:=sS g;replace hs:=((hs.aS hK).add (K:=fun h_=>Tms d h_ ps ks) hKs);have hln:=(hs.f.1).len;refine go Tryz.func58 [(0,pW op n q s A ps.length c),(1,.map (some b))] rfl (cSL (lA 2 61 (pG op n q s A ps.length c) hs (fun b1 w2 h3 hs=>?_)));refine lN (CG.join (fun Γ w_=>∃ (w1_:World) (s1:List ByteArray) (h_:Hp),Γ=[(1,.map (some b)),(2,pB b1)]∧SS w1_ h w_ h_ [⟨b1,61,pG op n q s A ps.length c⟩] [] [fun h_=>Tms d h_ ps ks,fun h_=>SlO 9 ptc ptm0 h_ A ps]∧MapK w1_ h b s1∧UpM [b] w h w1_ h∧(∀ x,x∈s1↔x∈ss∨(op=2∧x=s))∧s1.length≤ss.length+1) ?_ ?_)
 ·
  refine cSLlL hs [.v 6 (pB b1),.o 7 (iV op) 0 0 1] ?_;cases hb4:((op:Int) == (2:Int))
  ·
   have phb4:=neOfBeq hb4;refine lB 8 hb4 (lNIF (CG.skip ?_));intro a_ ka;exact ⟨_,⟨w,ss,h3,rfl,hs.to _ _,hmk,hmu,(fun x=>⟨fun h_=>.inl h_,fun h_=>h_.elim id (fun e_=>absurd e_.1 oM)⟩),oM⟩,ka.to _ kR⟩
  have phb4:=eq_of_beq hb4;refine lB 8 hb4 (lNIT (kQ (lL hs [.m 9 1,.v 10 (qP b1 7),.o 11 (.string s) 0 7 1] (lMuK (mty:=120) (kt:=9) (et:=4) (s) hs hmk (fun w9 _ ss11 hs hmk hsq hsl2 u_=>?_)))));replace hmu:=hmu.trans u_
  clear u_
  refine lD ?_;intro a_ ka;exact ⟨_,⟨w9,ss11,h3,rfl,hs.to _ _,hmk,hmu,(fun x=>(hsq x).trans ⟨fun h_=>h_.imp id fun e_=>⟨by omega,e_⟩,fun h_=>h_.imp id fun e_=>e_.2⟩),oM⟩,ka.to _ kR⟩
 rintro _ _ ⟨w1_,s1,zc,rfl,hs,hmk,hmu,hs1,hl1⟩;refine cSLlL hs [.v 12 (qP b1 8),.o 13 (qS A ps.length c) 0 8 1,.v 14 (nV ps.length),.v 15 (iV 0)] (lNkZ ?_);refine cTo _ (CG.loop (fun μ_ Γ w_=>∃ (w1_:World) (k:Nat) (sk:List ByteArray) (h_:Hp),μ_=ps.length-k∧Γ=[(1,.map (some b)),(13,qS A ps.length c),(14,nV ps.length),(15,nV k)]∧SS w1_ h w_ h_ [⟨b1,61,pG op n q s A ps.length c⟩] [] [fun h_=>Tms d h_ ps ks,fun h_=>SlO 9 ptc ptm0 h_ A ps]∧MapK w1_ h b sk∧UpM [b] w h w1_ h∧k≤ps.length∧(∀ x,x∈sk↔x∈s1∨HasK d ks k x)∧sk.length≤s1.length+(sumN (fun i=>cntT d (ks.getD i tm0)) k)) _ ⟨w1_,0,s1,zc,rfl,rfl,hs.to _ _,hmk,hmu,Nat.zero_le _,(fun x=>⟨.inl,fun h_=>h_.elim id (fun h_=>absurd h_ HasK.zero)⟩),nR _⟩ ?_);rintro _ _ _ ⟨w1_,k,sk,_,hm20,rfl,hs,hmk,hmu,hk,hsk,hskl⟩;have hs1_:(sumN (fun i=>cntT d (ks.getD i tm0)) (k+1))=(sumN (fun i=>cntT d (ks.getD i tm0)) k)+cntT d (ks.getD k tm0):=rfl;refine cSL ?_;cases za:(decide ((k:Int)<(ps.length:Int)))
 ·
  have zb:=oF za;refine lB 16 za (lNcQ (cIF (CG.exit ?_)));have hkn:k=ks.length:=by omega
  have hcn:cntT (d+1) (.mk op n q s ks)=1+(sumN (fun i=>cntT d (ks.getD i tm0)) ks.length):=rfl;exact hs.retM (hmu.trans (hs.st.up.m _)) [] (.tuple #[]) ⟨rfl,sk,hs.atK hmk,hmk.nd,fun x=>by rw[hsk x,hs1 x,hkn,or_assoc];exact Iff.rfl,by rw[hcn,←hkn];omega⟩
 have zb:=oT za;refine lB 16 za (lNcQ (cIT (cK (cQ (kZ (cSL (lX 17 A ps.length c 9 (k:Nat) k ((hs.f.2.1).ok oM) ?_)))))));refine lH 18 (pX (ps.getD k ptm0)) hs ((hs.f.2.1).el k oM) (lA 5 61 ([iV 0,iV 0,qF,uV 0,eS,uV 0,eS,eS,sZ]) hs (fun b22 _ _ hs=>lP 0 0 (pC (ps.getD k ptm0)) hs (fun _ hs=>lN (kQ (lL hs [.o 19 (pX (ps.getD k ptm0)) 0 0 9,.m 20 1] (lCm 21 (ih (ps.getD k ptm0) (ks.getD k tm0) b sk _ _ hs.g ((hs.f.1).at_ k oM) (hW k oM) ⟨(hs.st.up.gr.blk _ (lt_of_some hmk.jk)).trans hmk.jk,hs.atK hmk,hmk.nd⟩) ?_))))));rintro _ _ zd u28 ⟨rfl,ss29,ho_,hd_,hsq,hsl2⟩;obtain ⟨ze,hs,hmk,u_⟩:=hs.baseK hmk u28 ho_ hd_;replace hmu:=hmu.trans u_
 clear u_ ho_ hd_
 refine lN (kQ (lIn 22 ((k:Nat)+1) (k+1) ?_));refine lL hs [.m 15 22] (lD ?_);intro a_ ka;replace hs:=hs.drop 1 0;refine ⟨_,_,?_,⟨ze,k+1,ss29,zd,rfl,rfl,hs.to _ _,hmk,hmu,oM,(fun x=>(hsq x).trans (by rw[hsk x,or_assoc,←HasK.succ])),oM⟩,ka.to _ kR⟩
 omega
theorem tGather (ok:ByteArray→Prop):∀ (d:Nat) (p:PTm) (t:Tm) (b:Nat) (ss:List ByteArray) (w:World) (h:Hp),G w h→TmH d h p t→WfT ok d t→MapK w h b ss→Calls Tryz.prog 58 #[ptv p,.map (some b)] w (RetM b w h (fun v w1 _=>v=.tuple #[]∧∃ ss2:List ByteArray,w1.heap[b]?=some (.map (kes ss2).toArray ss2.length)∧ss2.Nodup∧(∀ x,x∈ss2↔x∈ss∨HasN d t x)∧ss2.length≤ss.length+cntT d t))
  | 0,_,_,_,_,_,_,_,x,_,_=>x.elim
  | d+1,p,t,b,ss,w,h,g,x,wf,hmk=>by
    obtain ⟨op,n,q,s,A,c,ps,ks,rfl,rfl,hc,hK,hKs⟩:=x.open;have hl2:=wf.two;obtain ⟨w1,w2,w3,w4,w5,w6,w7,w8,w9⟩:=wf;exact tGatherS ok d (fun p t b ss w h=>tGather ok d p t b ss w h) op n q s A c ps ks hc (by have:=hKs.len;exact this▸hl2) w1 w2 w3 w4 w5 w6 w7 w8 w9 b ss w h g hK hKs hmk
theorem tRecordS {w0:World}{h0:Hp}{B2:List Bx}{R2:List Rw}{F2:List (Hp→Prop)}(ok:ByteArray→Prop)(pl:ByteArray→Int)(b:Nat)(es:List MapEntry)(hpl:∀ s,ok s→0≤pl s∧pl s≤1000)(hlk:∀ s,ok s→∃ i,Instr.findNow .string (.string s) es 0=some (some (i,iV (pl s))))(d:Nat)(ih:∀ (p:PTm) (t:Tm) (A:Option Addr) (c:Nat) (l:List Stp) {w0:World} {h0:Hp} {B2:List Bx} {R2:List Rw} {F2:List (Hp→Prop)} (w:World) (h:Hp),G w h→TmH d h p t→MapS h b es→SS w0 h0 w h B2 (⟨99,9,A,c,(l).length,(l).flatMap stc⟩::R2) F2→WfT ok d t→l.length+cntT d t≤1000000→Calls Tryz.prog 25 #[.slice A l.length c,ptv p,.map (some b)] w (RetS fun v w1 h1=>∃ A1 c1,v=.slice A1 (recT pl d l t).length c1∧SS w0 h0 w1 h1 B2 (⟨99,9,A1,c1,(recT pl d l t).length,(recT pl d l t).flatMap stc⟩::R2) F2))(op n:Int)(q:Rat)(s:ByteArray)(A:Option Addr)(c:Nat)(ps:List PTm)(ks:List Tm)(hc:ps.length≤c)(hlp:ps.length≤2)(hari:ari op=(ks.length:Nat))(hq0:op≠1→q=0)(hq:LQ 1 q)(hok:op=2→ok s)(hs0:op≠2→s=⟨#[]⟩)(hn0:op≠8→n=0)(hn1 : -12≤n)(hn2:n≤12)(hW:∀ i,i<ks.length→WfT ok d (ks.getD i tm0))(A0:Option Addr)(c0:Nat)(l:List Stp)(hll0:l.length+cntT (d+1) (.mk op n q s ks)≤1000000)(w:World)(h:Hp)(g:G w h)(hK:SlO 9 ptc ptm0 h A ps)(hKs:Tms d h ps ks)(hM:MapS h b es)(hs:SS w0 h0 w h B2 (⟨99,9,A0,c0,(l).length,(l).flatMap stc⟩::R2) F2):Calls Tryz.prog 25 #[.slice A0 ((l).length) c0,pW op n q s A ps.length c,.map (some b)] w (RetS fun v w1 h1=>∃ A1 c1,v=.slice A1 (recT pl (d+1) l (.mk op n q s ks)).length c1∧SS w0 h0 w1 h1 B2 (⟨99,9,A1,c1,(recT pl (d+1) l (.mk op n q s ks)).length,(recT pl (d+1) l (.mk op n q s ks)).flatMap stc⟩::R2) F2):=by
 replace hs:=hs.to ([]++B2) ([⟨99,9,A0,c0,(l).length,(l).flatMap stc⟩]++R2);replace hs:=(((hs.aS hK).add (K:=fun h_=>Tms d h_ ps ks) hKs).add (K:=fun h_=>MapS h_ b es) hM);have hln:=(hs.f.2.1).len;have hcn:cntT (d+1) (.mk op n q s ks)=1+(sumN (fun i=>cntT d (ks.getD i tm0)) ks.length):=rfl;refine go Tryz.func25 [(0,qS A0 ((l).length) c0),(1,pW op n q s A ps.length c),(2,.map (some b))] rfl (cSL (lA 4 61 (pG op n q s A ps.length c) hs (fun b1 w2 h3 hs=>lL hs [.v 6 (sZ)] (lNS (lL hs [.v 10 (pB b1),.o 11 (iV op) 0 0 1,.v 12 (qP b1 1),.o 13 (iV n) 0 1 1,.v 14 (qP b1 2),.o 15 (qv q) 0 2 5,.v 16 (sW op 0 0 n q)] (lA 7 99 ([iV 0,iV 0,iV 0,iV 0,qF,uV 0,eS,uV 0,eS]) hs (fun b4 w5 h6 hs=>lP 0 0 (sG op 0 0 n q) hs (fun w7 hs=>?_))))))));refine lN (CG.join (fun Γ w_=>∃ (nn:Int) (h_:Hp),Γ=[(0,qS A0 ((l).length) c0),(2,.map (some b)),(4,pB b1),(6,sZ),(7,pB b4)]∧SS w0 h0 w_ h_ ([⟨b4,99,sG op 0 0 nn q⟩,⟨b1,61,pG op n q s A ps.length c⟩]++B2) ([⟨99,9,A0,c0,(l).length,(l).flatMap stc⟩]++R2) ([fun h_=>MapS h_ b es,fun h_=>Tms d h_ ps ks,fun h_=>SlO 9 ptc ptm0 h_ A ps]++F2)∧nn=(if op=2 then pl s else n)) ?_ ?_)
 ·
  refine cSLlL hs [.v 17 (pB b1),.o 18 (iV op) 1 0 1] ?_;cases hb8:((op:Int) == (2:Int))
  ·
   have phb8:=neOfBeq hb8;refine lB 19 hb8 (lNIF (CG.skip ?_));intro a_ ka;exact ⟨_,⟨n,h6,rfl,hs.to _ _,((if_neg oM).symm)⟩,ka.to _ kR⟩
  have phb8:=eq_of_beq hb8;refine lB 19 hb8 (lNIT (kQ (lL hs [.m 20 2,.v 21 (qP b1 7),.o 22 (.string s) 1 7 1] (lMr 23 77 9 3 (s) false (iV (pl s)) (true) hs hs.f.1 ?_ (hf:=(.inl (by obtain ⟨i_,e_⟩:=hlk s (hok oM);exact ⟨i_,e_,rfl⟩)))))));refine lL hs [.v 24 (qP b4 3)] (lP 0 3 ([iV (pl s)]) hs (fun _ hs=>lD ?_));intro a_ ka;exact ⟨_,⟨(pl s),h6,rfl,hs.to _ _,((if_pos oM).symm)⟩,ka.to _ kR⟩
 rintro _ _ ⟨nn,zm,rfl,hs,hnn⟩;refine cQ (cSLlL hs [.v 25 (qP b1 8),.o 26 (qS A ps.length c) 1 8 1,.v 27 (nV ps.length),.v 28 (iV 0)] (lNkZ ?_));refine cTo _ (CG.loop (fun μ_ Γ w_=>∃ (k:Nat) (srA:Option Addr) (src:Nat) (tl:List Stp) (za:Int) (zb:Int) (h_:Hp),μ_=ps.length-k∧Γ=[(2,.map (some b)),(6,sZ),(7,pB b4),(26,qS A ps.length c),(27,nV ps.length),(28,nV k),(0,qS srA ((tl).length) src)]∧SS w0 h0 w_ h_ ([⟨b4,99,sG op za zb nn q⟩,⟨b1,61,pG op n q s A ps.length c⟩]++B2) ([⟨99,9,srA,src,(tl).length,(tl).flatMap stc⟩]++R2) ([fun h_=>MapS h_ b es,fun h_=>Tms d h_ ps ks,fun h_=>SlO 9 ptc ptm0 h_ A ps]++F2)∧k≤ps.length∧tl=(recK (recT pl d) ks l k).1∧za=(recK (recT pl d) ks l k).2.1∧zb=(recK (recT pl d) ks l k).2.2∧tl.length≤l.length+(sumN (fun i=>cntT d (ks.getD i tm0)) k)) _ ⟨0,A0,c0,l,0,0,zm,rfl,rfl,hs.to _ _,Nat.zero_le _,rfl,rfl,rfl,(nR _)⟩ ?_);rintro _ _ _ ⟨k,srA,src,tl,za,zb,_,hm16,rfl,hs,hk,htl,ha1,hb1,hll⟩;have hs1_:(sumN (fun i=>cntT d (ks.getD i tm0)) (k+1))=(sumN (fun i=>cntT d (ks.getD i tm0)) k)+cntT d (ks.getD k tm0):=rfl;refine cSL ?_;cases zc:(decide ((k:Int)<(ps.length:Int)))
 ·
  have zg:=oF zc;refine lB 29 zc (lNcQ (cIF (CG.exit ?_)))
  show CG _ _ _ _ _ _ _ _
  refine cSL ?_;have hsm2_:=sumN_mono (fun i=>cntT d (ks.getD i tm0)) (show k≤ks.length by omega);refine lL hs [.m 48 0,.o 49 (sW op za zb nn q) 0 0 9] (lR 50 99 1 (sG op za zb nn q) hs (fun zn _ _ hs=>lY 51 0 99 9 src srA tl stc (⟨op,za,zb,nn,q⟩:Stp) 88 zn (.agg #[iV 0,iV 0,iV 0,iV 0,qF,uV 0,eS,uV 0,eS]) hs hs.f.1 (fun zj zk _ _ hs=>lL hs [.m 6 51] (lN (kX ?_)))));have hkn:k=ks.length:=by omega
  rw[hkn] at htl ha1 hb1
  have hrT:recT pl (d+1) l (.mk op n q s ks)=tl++[⟨op,za,zb,nn,q⟩]:=by rw[htl,ha1,hb1,hnn];rfl
  refine hs.retS [] (qS zj ((tl++[(⟨op,za,zb,nn,q⟩:Stp)]).length) zk) ?_;rw[hrT];exact ⟨zj,zk,rfl,(hs.tl.tl.tl.tl.drop 2 0).to _ _⟩
 have zg:=oT zc;refine lB 29 zc (lNcQ (cIT (cK (cQ (kZ (cSLlL hs [.m 30 28] (lX 31 A ps.length c 9 (k:Nat) k ((hs.f.r.1).ok oM) ?_)))))));refine lH 32 (pX (ps.getD k ptm0)) hs ((hs.f.r.1).el k oM) (lA 9 61 ([iV 0,iV 0,qF,uV 0,eS,uV 0,eS,eS,sZ]) hs (fun zo _ _ hs=>lL hs [.m 8 30] (lP 0 0 (pC (ps.getD k ptm0)) hs (fun _ hs=>lNS (lL hs [.m 33 0,.o 34 (pX (ps.getD k ptm0)) 0 0 9,.m 35 2] ?_)))));have hsm_:=sumN_mono (fun i=>cntT d (ks.getD i tm0)) (show k+1≤ks.length by omega);refine lCs 36 (ih (ps.getD k ptm0) (ks.getD k tm0) srA src tl _ _ hs.g ((hs.f.2.1).at_ k oM) hs.f.1 (hs.frontR [] ([]++R2) ⟨99,9,srA,src,(tl).length,(tl).flatMap stc⟩) (hW k oM) oM) ?_;rintro _ _ zl ⟨ze,zf,rfl,hs⟩;replace hs:=(SS.backR [] ([]++R2) ⟨99,9,ze,zf,(recT pl d tl (ks.getD k tm0)).length,(recT pl d tl (ks.getD k tm0)).flatMap stc⟩ hs).to ([⟨zo,61,pC (ps.getD k ptm0)⟩,⟨b4,99,sG op za zb nn q⟩,⟨b1,61,pG op n q s A ps.length c⟩]++B2) ([⟨99,9,ze,zf,(recT pl d tl (ks.getD k tm0)).length,(recT pl d tl (ks.getD k tm0)).flatMap stc⟩]++R2);have hrl:=(rec_len (pl:=pl) (hW k oM) tl);refine lL hs [.m 0 36] (lNS (lL hs [.m 37 8] ?_));cases zd:((k:Int) == (0:Int))
 ·
  have zi:=neOfBeq zd;refine lB 38 zd (lNIF (kQ (lL hs [.m 43 0,.v 44 (nV ((recT pl d tl (ks.getD k tm0)).length))] (lI 45 (((recT pl d tl (ks.getD k tm0)).length:Nat)-1) ?_))));refine lL hs [.v 46 (qP b4 2)] (lP 1 2 ([iV (((recT pl d tl (ks.getD k tm0)).length:Nat)-1)]) hs (fun _ hs=>lN (kQ (lIn 47 ((k:Nat)+1) (k+1) ?_))));refine lL hs [.m 28 47] (lD ?_);intro a_ ka;replace hs:=hs.drop 1 0;refine ⟨_,_,?_,⟨k+1,ze,zf,recT pl d tl (ks.getD k tm0),za,((recT pl d tl (ks.getD k tm0)).length:Nat)-1,zl,rfl,rfl,hs.to _ _,oM,(by rw[htl];rfl),(recK_a1 ha1 oM),(recK_b1 htl oM),oM⟩,ka.to _ kR⟩
  omega
 have zi:=eq_of_beq zd;refine lB 38 zd (lNIT (kQ (lL hs [.m 39 0,.v 40 (nV ((recT pl d tl (ks.getD k tm0)).length))] (lI 41 (((recT pl d tl (ks.getD k tm0)).length:Nat)-1) ?_))));refine lL hs [.v 42 (qP b4 1)] (lP 1 1 ([iV (((recT pl d tl (ks.getD k tm0)).length:Nat)-1)]) hs (fun _ hs=>lN (kQ (lIn 47 ((k:Nat)+1) (k+1) ?_))));refine lL hs [.m 28 47] (lD ?_);intro a_ ka;replace hs:=hs.drop 1 0;refine ⟨_,_,?_,⟨k+1,ze,zf,recT pl d tl (ks.getD k tm0),((recT pl d tl (ks.getD k tm0)).length:Nat)-1,zb,zl,rfl,rfl,hs.to _ _,oM,(by rw[htl];rfl),(recK_a0 htl oM),(recK_b0 hb1 oM),oM⟩,ka.to _ kR⟩
 omega
theorem tRecord (ok:ByteArray→Prop)(pl:ByteArray→Int)(b:Nat)(es:List MapEntry)(hpl:∀ s,ok s→0≤pl s∧pl s≤1000)(hlk:∀ s,ok s→∃ i,Instr.findNow .string (.string s) es 0=some (some (i,iV (pl s)))):∀ (d:Nat) (p:PTm) (t:Tm) (A:Option Addr) (c:Nat) (l:List Stp) {w0:World} {h0:Hp} {B2:List Bx} {R2:List Rw} {F2:List (Hp→Prop)} (w:World) (h:Hp),G w h→TmH d h p t→MapS h b es→SS w0 h0 w h B2 (⟨99,9,A,c,(l).length,(l).flatMap stc⟩::R2) F2→WfT ok d t→l.length+cntT d t≤1000000→Calls Tryz.prog 25 #[.slice A l.length c,ptv p,.map (some b)] w (RetS fun v w1 h1=>∃ A1 c1,v=.slice A1 (recT pl d l t).length c1∧SS w0 h0 w1 h1 B2 (⟨99,9,A1,c1,(recT pl d l t).length,(recT pl d l t).flatMap stc⟩::R2) F2)
  | 0,_,_,_,_,_,_,_,_,_,_,_,_,_,x,_,_,_,_=>x.elim
  | d+1,p,t,A0,c0,l,w0,h0,B2,R2,F2,w,h,g,x,hM,hs,wf,hl=>by
    obtain ⟨op,n,q,s,A,c,ps,ks,rfl,rfl,hc,hK,hKs⟩:=x.open;have hl2:=wf.two;obtain ⟨w1,w2,w3,w4,w5,w6,w7,w8,w9⟩:=wf;exact tRecordS ok pl b es hpl hlk d (fun p t A c l=>@fun w0 h0 B2 R2 F2 w h=>tRecord ok pl b es hpl hlk d p t A c l w h) op n q s A c ps ks hc (by have:=hKs.len;exact this▸hl2) w1 w2 w3 w4 w5 w6 w7 w8 w9 A0 c0 l hl w h g hK hKs hM hs
theorem memG {l:List ByteArray}{k:Nat}{s:ByteArray}(h:k<l.length)(e:l.getD k ⟨#[]⟩=s):s∈l:=by
  rw[←e,List.getD_eq_getElem?_getD,List.getElem?_eq_getElem h];exact List.getElem_mem h
theorem getG {l:List ByteArray}{s:ByteArray}(h:s∈l):∃ i,i<l.length∧l.getD i ⟨#[]⟩=s:=by
  obtain ⟨i,hi,e⟩:=List.mem_iff_getElem.1 h;exact ⟨i,hi,by rw[List.getD_eq_getElem?_getD,List.getElem?_eq_getElem hi];exact e⟩
theorem rZeroZ (bq:Bool)(zA:Option Addr)(zn zc:Nat)(dA:Option Addr)(dn dc:Nat)(q:Rat)(w:World)(h:Hp)(g:G w h)(hZ:RZ h (bq,.slice zA zn zc,.slice dA dn dc) q):Calls Tryz.prog 87 #[.agg #[.bool bq,.slice zA zn zc,.slice dA dn dc]] w (Ret w h (fun v _=>v=.bool (decide (q.num=0)))):=by
  obtain ⟨has,⟨A,c,D,d,e,hc,hd,hA,hD⟩,hz⟩:=hZ;have e2:(Value.agg #[.bool bq,qS zA zn zc,qS dA dn dc])=.agg #[.bool (ineg q.num),qS A (lim (iabs q.num)).length c,qS D (lim (if has then q.den else 0)).length d]:=e;rw[e2];have q_:=rZero q.num A c (if has then q.den else 0) D d hc hd w h g hA hD
  have e3:decide ((if has=true then q.den else 0)=0∨q.num=0)=decide (q.num=0):=by
    cases has
    · rw[decide_eq_true (.inl rfl),decide_eq_true];rw[hz rfl];rfl
    · have:=q.den_nz
      by_cases e:q.num=0
      · rw[decide_eq_true (.inr e),decide_eq_true e]
      · rw[decide_eq_false (fun h=>h.elim this e),decide_eq_false e]
  rw[e3] at q_
  exact q_
theorem weighS_min {op n:Int}{s:Nat}(h0:op≠8→n=0)(h1 : -12≤n)(h2:n≤12):min (weighS op n ((min s 1073741824:Nat):Int)) 1073741824=((min (wmul op n*s) 1073741824:Nat):Int):=by
  unfold weighS wmul timesN
  by_cases e11:op=11
  · rw[if_pos e11,if_pos e11];omega
  · rw[if_neg e11,if_neg e11]
    by_cases e8:op=8∧n≠0
    · rw[if_pos e8,if_pos e8.1]
      have e:(if n<0 then 0-n else n)=((if n.natAbs≤1 then 1 else n.natAbs:Nat):Int):=by have:=e8.2;split<;>split<;>omega
      rw[e]
      generalize hm:(if n.natAbs≤1 then 1 else n.natAbs)=m
      have hm1:1≤m:=by rw[←hm];split<;>omega
      rw[←Int.natCast_mul,Nat.mul_comm]
      rcases Nat.le_total s 1073741824 with h|h
      · rw[Nat.min_eq_left h];omega
      · rw[Nat.min_eq_right h]
        have a1:=Nat.le_mul_of_pos_left 1073741824 hm1;have a2:=Nat.le_trans h (Nat.le_mul_of_pos_left s hm1)
        omega
    · rw[if_neg e8]
      by_cases e9:op=8
      · rw[if_pos e9]
        have:n=0:=by by_cases z:n=0;exact z;exact absurd ⟨e9,z⟩ e8
        rw[this,if_pos kD];omega
      · rw[if_neg e9];omega
theorem rDeepOfS  (sm:ByteArray→Prop)(d:Nat)(ih:∀ (r:RTm) (t:Tm) (w:World) (h:Hp),G w h→RmH d h r t→SmT sm d t→d≤1000→Calls Tryz.prog 67 #[rmv r] w (Ret w h (fun v _=>∃ m:Int,v=iV m∧1≤m∧m≤(d:Nat))))(op n:Int)(bq:Bool)(zA:Option Addr)(zn zc:Nat)(dA:Option Addr)(dn dc:Nat)(q:Rat)(s:ByteArray)(A:Option Addr)(c:Nat)(rs:List RTm)(ks:List Tm)(hc:rs.length≤c)(hk3:ks.length≤3)(hop : -1000≤op∧op≤1000)(hn : -1000≤n∧n≤1000)(hq:LQ 1 q)(hsm:sm s)(hW:∀ i,i<ks.length→SmT sm d (ks.getD i tm0))(hd:d+1≤1000)(w:World)(h:Hp)(g:G w h)(hZ:RZ h (bq,.slice zA zn zc,.slice dA dn dc) q)(hK:SlO 7 rmc rtm0 h A rs)(hKs:Rms d h rs ks):CR 67 #[.agg #[iV op,iV n,.bool bq,.slice zA zn zc,.slice dA dn dc,.string s,.slice A rs.length c]] w h (fun v _=>∃ m:Int,v=iV m∧1≤m∧m≤(d+1:Nat)):=by
 have hs:=((((sS g).add (K:=fun h_=>RZ h_ (bq,qS zA zn zc,qS dA dn dc) q) hZ).aS hK).add (K:=fun h_=>Rms d h_ rs ks) hKs);have hln:=(hs.f.1).len;refine go Tryz.func67 [(0,.agg #[iV op,iV n,.bool bq,qS zA zn zc,qS dA dn dc,.string s,qS A rs.length c])] rfl (cSL (lA 1 33 ([iV op,iV n,.bool bq,qS zA zn zc,qS dA dn dc,.string s,qS A rs.length c]) hs (fun b1 w2 h3 hs=>lL hs [.v 2 (iV 0)] (lNS (lL hs [.v 3 (iV 0)] (lNcQ (cSLlL hs [.v 4 (iV 0)] (lNkZ ?_))))))));refine cTo _ (CG.loop (fun μ_ Γ w_=>∃ (k:Nat) (dm:Int) (h_:Hp),μ_=rs.length-k∧Γ=[(1,pB b1),(2,iV 0),(4,nV k),(3,iV dm)]∧SS w h w_ h_ [⟨b1,33,[iV op,iV n,.bool bq,qS zA zn zc,qS dA dn dc,.string s,qS A rs.length c]⟩] [] [fun h_=>Rms d h_ rs ks,fun h_=>SlO 7 rmc rtm0 h_ A rs,fun h_=>RZ h_ (bq,qS zA zn zc,qS dA dn dc) q]∧k≤rs.length∧0≤dm∧dm≤(d:Int)) _ ⟨0,0,h3,rfl,rfl,hs.to _ _,Nat.zero_le _,⟨by omega,by omega⟩⟩ ?_);rintro _ _ w4 ⟨k,dm,h5,hm6,rfl,hs,hk,hd0⟩;refine cQ (cSLlL hs [.m 5 4,.v 6 (qP b1 6),.o 7 (qS A rs.length c) 0 6 1,.v 8 (nV rs.length)] ?_);cases hb7:(decide ((k:Int)<(rs.length:Int)))
 ·
  have phb7:=oF hb7;refine lB 9 hb7 (lNIF (CG.exit ?_))
  show CG _ _ _ _ _ _ _ _
  refine cSLlL hs [.m 20 3] (lI 21 (dm+1) ?_);exact lL hs [.m 2 21] (lNkXr hs [] (iV (dm+1)) (⟨_,rfl,by omega,by omega⟩))
 have phb7:=oT hb7;refine lB 9 hb7 (lNIT (cK (cQ (kZ (kQ (lL hs [.m 12 3,.v 13 (qP b1 6),.o 14 (qS A rs.length c) 0 6 1,.m 15 4] (lX 16 A rs.length c 7 (k:Nat) k ((hs.f.2.1).ok oM) ?_)))))));refine lH 17 (.agg #[iV ((rs.getD k rtm0).op),iV ((rs.getD k rtm0).n),.bool ((rs.getD k rtm0).neg),qS ((rs.getD k rtm0).zA) ((rs.getD k rtm0).zn) ((rs.getD k rtm0).zc),qS ((rs.getD k rtm0).dA) ((rs.getD k rtm0).dn) ((rs.getD k rtm0).dc),.string ((rs.getD k rtm0).s),qS ((rs.getD k rtm0).A) ((rs.getD k rtm0).m) ((rs.getD k rtm0).c)]) hs ((hs.f.2.1).el k oM) (lC 18 hs (ih (rs.getD k rtm0) (ks.getD k tm0) _ _ hs.g ((hs.f.1).at_ k oM) (hW k oM) oM) ?_);rintro _ w8 h9 hs ⟨mk,rfl,hm1,hm2⟩;refine lV 19 (iV (max (dm:Int) (mk:Int))) ?_ (hr:=rint (n:=(if (mk:Int)>(dm:Int) then (mk:Int) else (dm:Int))) kR (by simp only[imax2]));refine lL hs [.m 3 19] (lN (kQ (lL hs [.m 10 4] (lIn 11 ((k:Nat)+1) (k+1) ?_))));refine lL hs [.m 4 11] (lD ?_);intro a_ ka;refine ⟨_,_,?_,⟨k+1,max (dm:Int) (mk:Int),h9,rfl,rfl,hs.to _ _,oM,⟨by omega,by omega⟩⟩,ka.to _ kR⟩
 omega
theorem rDeepOf (sm:ByteArray→Prop):∀ (d:Nat) (r:RTm) (t:Tm) (w:World) (h:Hp),G w h→RmH d h r t→SmT sm d t→d≤1000→Calls Tryz.prog 67 #[rmv r] w (Ret w h (fun v _=>∃ m:Int,v=iV m∧1≤m∧m≤(d:Nat)))
  | 0,_,_,_,_,_,x,_,_=>x.elim
  | d+1,r,t,w,h,g,x,wf,hd=>by
    obtain ⟨op,n,b,zA,zn,zc,dA,dn,dc,q,s,A,c,rs,ks,rfl,rfl,hZ,hc,hK,hKs⟩:=x.open;obtain ⟨s1,s2,s3,s4,s5,s6⟩:=wf;exact rDeepOfS sm d (fun r t w h=>rDeepOf sm d r t w h) op n b zA zn zc dA dn dc q s A c rs ks hc s1 s2 s3 s4 s5 s6 hd w h g hZ hK hKs
theorem rFormedS  (isb:ByteArray→Bool)(sm:ByteArray→Prop)(hIs:∀ s,sm s→∀ (w:World) (h:Hp),G w h→Calls Tryz.prog 28 #[.string s] w (Ret w h (fun v _=>∃ b,v=.bool b∧b=isb s)))(d:Nat)(ih:∀ (r:RTm) (t:Tm) (w:World) (h:Hp),G w h→RmH d h r t→SmT sm d t →  Calls Tryz.prog 68 #[rmv r] w (Ret w h (fun v _=>∃ bb,v=.bool bb∧(bb=true↔WfT (fun s=>isb s=true) d t))))(op n:Int)(bq:Bool)(zA:Option Addr)(zn zc:Nat)(dA:Option Addr)(dn dc:Nat)(q:Rat)(s:ByteArray)(A:Option Addr)(c:Nat)(rs:List RTm)(ks:List Tm)(hc:rs.length≤c)(hk3:ks.length≤3)(hop : -1000≤op∧op≤1000)(hn : -1000≤n∧n≤1000)(hq:LQ 1 q)(hsm:sm s)(hW:∀ i,i<ks.length→SmT sm d (ks.getD i tm0))(w:World)(h:Hp)(g:G w h)(hZ:RZ h (bq,.slice zA zn zc,.slice dA dn dc) q)(hK:SlO 7 rmc rtm0 h A rs)(hKs:Rms d h rs ks):CR 68 #[.agg #[iV op,iV n,.bool bq,.slice zA zn zc,.slice dA dn dc,.string s,.slice A rs.length c]] w h (fun v _=>∃ bb,v=.bool bb∧(bb=true↔WfT (fun s=>isb s=true) (d+1) (.mk op n q s ks))):=by
 have hs:=((((sS g).add (K:=fun h_=>RZ h_ (bq,qS zA zn zc,qS dA dn dc) q) hZ).aS hK).add (K:=fun h_=>Rms d h_ rs ks) hKs);have hln:=(hs.f.1).len;refine go Tryz.func68 [(0,.agg #[iV op,iV n,.bool bq,qS zA zn zc,qS dA dn dc,.string s,qS A rs.length c])] rfl (cSL (lA 1 33 ([iV op,iV n,.bool bq,qS zA zn zc,qS dA dn dc,.string s,qS A rs.length c]) hs (fun b1 w2 h3 hs=>lL hs [.v 2 qF] (lNS (lL hs [.v 5 (pB b1),.o 6 (iV op) 0 0 1] (lCval 7 hs (rKids op _ _ hs.g) (fun w4 h5 hs=>?_)))))));refine lL hs [.m 3 7] (lNcQ (CG.join (fun Γ w_=>∃ (zo:Bool) (h_:Hp),Γ=[(1,pB b1),(2,qF),(68,.bool zo)]∧SS w h w_ h_ [⟨b1,33,[iV op,iV n,.bool bq,qS zA zn zc,qS dA dn dc,.string s,qS A rs.length c]⟩] [] [fun h_=>Rms d h_ rs ks,fun h_=>SlO 7 rmc rtm0 h_ A rs,fun h_=>RZ h_ (bq,qS zA zn zc,qS dA dn dc) q]∧(zo=true→¬((0≤ari op∧(ks.length:Int)=ari op)∧((op=2→isb s=true)∧(op≠2→s=⟨#[]⟩))∧(op=1∨q.num=0)∧(op=8∨n=0) ∧ -12≤n∧n≤12))∧(zo=false→((0≤ari op∧(ks.length:Int)=ari op)∧((op=2→isb s=true)∧(op≠2→s=⟨#[]⟩))∧(op=1∨q.num=0)∧(op=8∨n=0) ∧ -12≤n∧n≤12))) ?_ ?_))
 ·
  refine kQ (lL hs [.m 8 3] ?_);cases hb6:(decide ((ari op:Int)<(0:Int)))
  ·
   have phb6:=oF hb6;refine lB 9 hb6 (lL hs [.m 10 9,.v 11 (qP b1 6),.o 12 (qS A rs.length c) 0 6 1,.v 13 (nV rs.length),.m 14 3] ?_);cases hb7:((rs.length:Int) != (ari op:Int))
   ·
    have phb7:=eqOfBne hb7;refine lB 15 hb7 (lL hs [.v 16 qF,.m 17 16,.v 18 (pB b1),.o 19 (iV op) 0 0 1] ?_);cases hb8:((op:Int) == (2:Int))
    ·
     have phb8:=neOfBeq hb8;refine lB 20 hb8 (lL hs [.m 21 20] (lG 22 ?_));refine lG 23 (lG 24 (lG 25 (lL hs [.v 26 qF,.v 27 qF,.m 28 27,.v 29 (pB b1),.o 30 (iV op) 0 0 1] ?_)));have hb9:((op:Int) != (2:Int))=true:=bneT oM;have phb9:=neOfBne hb9;refine lB 31 hb9 (lL hs [.m 32 31,.v 33 (qP b1 5),.o 34 (.string s) 0 5 1] ?_);cases zb:(strQn s (⟨#[]⟩))
     ·
      have zw:=strQn_f zb;refine lB 35 zb (lL hs [.v 36 qF,.v 37 qF,.m 38 37,.v 39 (pB b1),.o 40 (iV op) 0 0 1] ?_);cases zd:((op:Int) != (1:Int))
      ·
       have zx:=eqOfBne zd;refine lB 41 zd (lL hs [.m 42 41] (lG 43 ?_));refine lG 44 (lG 45 (lG 46 (lL hs [.v 47 qF,.v 48 qF,.m 49 48,.v 50 (pB b1),.o 51 (iV op) 0 0 1] ?_)));have zp:((op:Int) != (8:Int))=true:=bneT oM;have phb12:=neOfBne zp;refine lB 52 zp (lL hs [.m 53 52,.v 54 (qP b1 1),.o 55 (iV n) 0 1 1] ?_);cases ze:((n:Int) != (0:Int))
       ·
        have zB:=eqOfBne ze;refine lB 56 ze (lL hs [.v 57 qF,.v 58 qF,.m 59 58,.v 60 (qP b1 1),.o 61 (iV n) 0 1 1] ?_);have ⟨zM,phb14⟩:=dF (p:=(n:Int)<(-12:Int)) oM;refine lB 62 zM (lL hs [.v 63 qF,.m 64 63,.v 65 (qP b1 1),.o 66 (iV n) 0 1 1] ?_);have ⟨zN,phb15⟩:=dF (p:=(12:Int)<(n:Int)) oM;refine lB 67 zN (lL hs [.v 68 qF] (lD ?_));intro a_ ka;exact ⟨_,⟨false,h5,rfl,hs.to _ _,(fun h_=>absurd h_ kD),(fun _=>⟨by omega,⟨fun h_=>by first|exact hbi.symm.trans aM|exact absurd h_ oM,fun h_=>by first|assumption|exact absurd h_ oM⟩,by omega,by omega⟩)⟩,ka.to _ kR⟩
       have zB:=neOfBne ze;refine lB 56 ze (lL hs [.v 57 qT,.v 58 qT,.m 59 58] (lG 60 ?_));refine lG 61 (lG 62 (lL hs [.v 63 qT,.m 64 63] (lG 65 ?_)));refine lG 66 (lG 67 (lL hs [.v 68 qT] (lD ?_)));intro a_ ka;exact ⟨_,⟨true,h5,rfl,hs.to _ _,(fun _ h_=>by first|exact Bool.noConfusion ((h_.2.1.1 oM).symm.trans (hbi.symm.trans aM))|exact absurd (h_.2.1.2 oM) aM|(have h1_:=h_.1;have h2_:=h_.2.2;omega)),(fun h_=>absurd h_ kD)⟩,ka.to _ kR⟩
      have zx:=neOfBne zd;refine lB 41 zd (lL hs [.m 42 41,.v 43 (qP b1 2),.o 44 (.agg #[.bool bq,qS zA zn zc,qS dA dn dc]) 0 2 3] (lCval 45 hs (rZeroZ bq zA zn zc dA dn dc q _ _ hs.g hs.f.r.1) (fun _ za hs=>?_)));cases zq:(decide (q.num=0))
      ·
       have zD:=oF zq;refine lL hs [.v 46 qT,.v 47 qT,.v 48 qT,.m 49 48] (lG 50 ?_);refine lG 51 (lG 52 (lG 53 (lG 54 (lG 55 (lG 56 (lG 57 (lL hs [.v 58 qT,.m 59 58] (lG 60 ?_))))))));refine lG 61 (lG 62 (lL hs [.v 63 qT,.m 64 63] (lG 65 ?_)));refine lG 66 (lG 67 (lL hs [.v 68 qT] (lD ?_)));intro a_ ka;exact ⟨_,⟨true,za,rfl,hs.to _ _,(fun _ h_=>by first|exact Bool.noConfusion ((h_.2.1.1 oM).symm.trans (hbi.symm.trans aM))|exact absurd (h_.2.1.2 oM) aM|(have h1_:=h_.1;have h2_:=h_.2.2;omega)),(fun h_=>absurd h_ kD)⟩,ka.to _ kR⟩
      have zD:=oT zq;refine lL hs [.v 46 qF,.v 47 qF,.v 48 qF,.m 49 48,.v 50 (pB b1),.o 51 (iV op) 0 0 1] ?_;cases zf:((op:Int) != (8:Int))
      ·
       have zE:=eqOfBne zf;refine lB 52 zf (lL hs [.m 53 52] (lG 54 ?_));refine lG 55 (lG 56 (lL hs [.v 57 qF,.v 58 qF,.m 59 58,.v 60 (qP b1 1),.o 61 (iV n) 0 1 1] ?_));cases zg:(decide ((n:Int)<(-12:Int)))
       ·
        have zG:=oF zg;refine lB 62 zg (lL hs [.v 63 qF,.m 64 63,.v 65 (qP b1 1),.o 66 (iV n) 0 1 1] ?_);cases zi:(decide ((12:Int)<(n:Int)))
        ·
         have zH:=oF zi;refine lB 67 zi (lL hs [.v 68 qF] (lD ?_));intro a_ ka;exact ⟨_,⟨false,za,rfl,hs.to _ _,(fun h_=>absurd h_ kD),(fun _=>⟨by omega,⟨fun h_=>by first|exact hbi.symm.trans aM|exact absurd h_ oM,fun h_=>by first|assumption|exact absurd h_ oM⟩,by omega,by omega⟩)⟩,ka.to _ kR⟩
        have zH:=oT zi;refine lB 67 zi (lL hs [.v 68 qT] (lD ?_));intro a_ ka;exact ⟨_,⟨true,za,rfl,hs.to _ _,(fun _ h_=>by first|exact Bool.noConfusion ((h_.2.1.1 oM).symm.trans (hbi.symm.trans aM))|exact absurd (h_.2.1.2 oM) aM|(have h1_:=h_.1;have h2_:=h_.2.2;omega)),(fun h_=>absurd h_ kD)⟩,ka.to _ kR⟩
       have zG:=oT zg;refine lB 62 zg (lL hs [.v 63 qT,.m 64 63] (lG 65 ?_));refine lG 66 (lG 67 (lL hs [.v 68 qT] (lD ?_)));intro a_ ka;exact ⟨_,⟨true,za,rfl,hs.to _ _,(fun _ h_=>by first|exact Bool.noConfusion ((h_.2.1.1 oM).symm.trans (hbi.symm.trans aM))|exact absurd (h_.2.1.2 oM) aM|(have h1_:=h_.1;have h2_:=h_.2.2;omega)),(fun h_=>absurd h_ kD)⟩,ka.to _ kR⟩
      have zE:=neOfBne zf;refine lB 52 zf (lL hs [.m 53 52,.v 54 (qP b1 1),.o 55 (iV n) 0 1 1] ?_);cases zj:((n:Int) != (0:Int))
      ·
       have zI:=eqOfBne zj;refine lB 56 zj (lL hs [.v 57 qF,.v 58 qF,.m 59 58,.v 60 (qP b1 1),.o 61 (iV n) 0 1 1] ?_);have ⟨zP,phb35⟩:=dF (p:=(n:Int)<(-12:Int)) oM;refine lB 62 zP (lL hs [.v 63 qF,.m 64 63,.v 65 (qP b1 1),.o 66 (iV n) 0 1 1] ?_);have ⟨zQ,phb36⟩:=dF (p:=(12:Int)<(n:Int)) oM;refine lB 67 zQ (lL hs [.v 68 qF] (lD ?_));intro a_ ka;exact ⟨_,⟨false,za,rfl,hs.to _ _,(fun h_=>absurd h_ kD),(fun _=>⟨by omega,⟨fun h_=>by first|exact hbi.symm.trans aM|exact absurd h_ oM,fun h_=>by first|assumption|exact absurd h_ oM⟩,by omega,by omega⟩)⟩,ka.to _ kR⟩
      have zI:=neOfBne zj;refine lB 56 zj (lL hs [.v 57 qT,.v 58 qT,.m 59 58] (lG 60 ?_));refine lG 61 (lG 62 (lL hs [.v 63 qT,.m 64 63] (lG 65 ?_)));refine lG 66 (lG 67 (lL hs [.v 68 qT] (lD ?_)));intro a_ ka;exact ⟨_,⟨true,za,rfl,hs.to _ _,(fun _ h_=>by first|exact Bool.noConfusion ((h_.2.1.1 oM).symm.trans (hbi.symm.trans aM))|exact absurd (h_.2.1.2 oM) aM|(have h1_:=h_.1;have h2_:=h_.2.2;omega)),(fun h_=>absurd h_ kD)⟩,ka.to _ kR⟩
     have zw:=strQn_t zb;refine lB 35 zb (lL hs [.v 36 qT,.v 37 qT,.m 38 37] (lG 39 ?_));refine lG 40 (lG 41 (lG 42 (lG 43 (lG 44 (lG 45 (lG 46 (lG 47 (lL hs [.v 48 qT,.m 49 48] (lG 50 ?_)))))))));refine lG 51 (lG 52 (lG 53 (lG 54 (lG 55 (lG 56 (lG 57 (lL hs [.v 58 qT,.m 59 58] (lG 60 ?_))))))));refine lG 61 (lG 62 (lL hs [.v 63 qT,.m 64 63] (lG 65 ?_)));refine lG 66 (lG 67 (lL hs [.v 68 qT] (lD ?_)));intro a_ ka;exact ⟨_,⟨true,h5,rfl,hs.to _ _,(fun _ h_=>by first|exact Bool.noConfusion ((h_.2.1.1 oM).symm.trans (hbi.symm.trans aM))|exact absurd (h_.2.1.2 oM) aM|(have h1_:=h_.1;have h2_:=h_.2.2;omega)),(fun h_=>absurd h_ kD)⟩,ka.to _ kR⟩
    have phb8:=eq_of_beq hb8;refine lB 20 hb8 (lL hs [.m 21 20,.v 22 (qP b1 5),.o 23 (.string s) 0 5 1] (lC 24 hs (hIs s hsm _ _ hs.g) ?_));rintro _ _ zW hs ⟨bi,rfl,hbi⟩;cases hb45:(bi)
    ·
     refine lL hs [.v 25 qT,.v 26 qT,.v 27 qT,.m 28 27] (lG 29 ?_);refine lG 30 (lG 31 (lG 32 (lG 33 (lG 34 (lG 35 (lG 36 (lL hs [.v 37 qT,.m 38 37] (lG 39 ?_))))))));refine lG 40 (lG 41 (lG 42 (lG 43 (lG 44 (lG 45 (lG 46 (lG 47 (lL hs [.v 48 qT,.m 49 48] (lG 50 ?_)))))))));refine lG 51 (lG 52 (lG 53 (lG 54 (lG 55 (lG 56 (lG 57 (lL hs [.v 58 qT,.m 59 58] (lG 60 ?_))))))));refine lG 61 (lG 62 (lL hs [.v 63 qT,.m 64 63] (lG 65 ?_)));refine lG 66 (lG 67 (lL hs [.v 68 qT] (lD ?_)));intro a_ ka;exact ⟨_,⟨true,zW,rfl,hs.to _ _,(fun _ h_=>by first|exact Bool.noConfusion ((h_.2.1.1 oM).symm.trans (hbi.symm.trans aM))|exact absurd (h_.2.1.2 oM) aM|(have h1_:=h_.1;have h2_:=h_.2.2;omega)),(fun h_=>absurd h_ kD)⟩,ka.to _ kR⟩
    refine lL hs [.v 25 qF,.v 26 qF,.v 27 qF,.m 28 27,.v 29 (pB b1),.o 30 (iV op) 0 0 1] ?_;have zr:((op:Int) != (2:Int))=false:=bneF oM;have phb48:=eqOfBne zr;refine lB 31 zr (lL hs [.m 32 31] (lG 33 ?_));refine lG 34 (lG 35 (lL hs [.v 36 qF,.v 37 qF,.m 38 37,.v 39 (pB b1),.o 40 (iV op) 0 0 1] ?_));have zs:((op:Int) != (1:Int))=true:=bneT oM;have phb49:=neOfBne zs;refine lB 41 zs (lL hs [.m 42 41,.v 43 (qP b1 2),.o 44 (.agg #[.bool bq,qS zA zn zc,qS dA dn dc]) 0 2 3] (lCval 45 hs (rZeroZ bq zA zn zc dA dn dc q _ _ hs.g hs.f.r.1) (fun _ zt hs=>?_)));cases zu:(decide (q.num=0))
    ·
     have zJ:=oF zu;refine lL hs [.v 46 qT,.v 47 qT,.v 48 qT,.m 49 48] (lG 50 ?_);refine lG 51 (lG 52 (lG 53 (lG 54 (lG 55 (lG 56 (lG 57 (lL hs [.v 58 qT,.m 59 58] (lG 60 ?_))))))));refine lG 61 (lG 62 (lL hs [.v 63 qT,.m 64 63] (lG 65 ?_)));refine lG 66 (lG 67 (lL hs [.v 68 qT] (lD ?_)));intro a_ ka;exact ⟨_,⟨true,zt,rfl,hs.to _ _,(fun _ h_=>by first|exact Bool.noConfusion ((h_.2.1.1 oM).symm.trans (hbi.symm.trans aM))|exact absurd (h_.2.1.2 oM) aM|(have h1_:=h_.1;have h2_:=h_.2.2;omega)),(fun h_=>absurd h_ kD)⟩,ka.to _ kR⟩
    have zJ:=oT zu;refine lL hs [.v 46 qF,.v 47 qF,.v 48 qF,.m 49 48,.v 50 (pB b1),.o 51 (iV op) 0 0 1] ?_;have zv:((op:Int) != (8:Int))=true:=bneT oM;have phb55:=neOfBne zv;refine lB 52 zv (lL hs [.m 53 52,.v 54 (qP b1 1),.o 55 (iV n) 0 1 1] ?_);cases zk:((n:Int) != (0:Int))
    ·
     have zK:=eqOfBne zk;refine lB 56 zk (lL hs [.v 57 qF,.v 58 qF,.m 59 58,.v 60 (qP b1 1),.o 61 (iV n) 0 1 1] ?_);have ⟨zR,phb57⟩:=dF (p:=(n:Int)<(-12:Int)) oM;refine lB 62 zR (lL hs [.v 63 qF,.m 64 63,.v 65 (qP b1 1),.o 66 (iV n) 0 1 1] ?_);have ⟨zS,phb58⟩:=dF (p:=(12:Int)<(n:Int)) oM;refine lB 67 zS (lL hs [.v 68 qF] (lD ?_));intro a_ ka;exact ⟨_,⟨false,zt,rfl,hs.to _ _,(fun h_=>absurd h_ kD),(fun _=>⟨by omega,⟨fun h_=>by first|exact hbi.symm.trans aM|exact absurd h_ oM,fun h_=>by first|assumption|exact absurd h_ oM⟩,by omega,by omega⟩)⟩,ka.to _ kR⟩
    have zK:=neOfBne zk;refine lB 56 zk (lL hs [.v 57 qT,.v 58 qT,.m 59 58] (lG 60 ?_));refine lG 61 (lG 62 (lL hs [.v 63 qT,.m 64 63] (lG 65 ?_)));refine lG 66 (lG 67 (lL hs [.v 68 qT] (lD ?_)));intro a_ ka;exact ⟨_,⟨true,zt,rfl,hs.to _ _,(fun _ h_=>by first|exact Bool.noConfusion ((h_.2.1.1 oM).symm.trans (hbi.symm.trans aM))|exact absurd (h_.2.1.2 oM) aM|(have h1_:=h_.1;have h2_:=h_.2.2;omega)),(fun h_=>absurd h_ kD)⟩,ka.to _ kR⟩
   have phb7:=neOfBne hb7;refine lB 15 hb7 (lL hs [.v 16 qT,.m 17 16] (lG 18 ?_));refine lG 19 (lG 20 (lG 21 (lG 22 (lG 23 (lG 24 (lG 25 (lG 26 (lL hs [.v 27 qT,.m 28 27] (lG 29 ?_)))))))));refine lG 30 (lG 31 (lG 32 (lG 33 (lG 34 (lG 35 (lG 36 (lL hs [.v 37 qT,.m 38 37] (lG 39 ?_))))))));refine lG 40 (lG 41 (lG 42 (lG 43 (lG 44 (lG 45 (lG 46 (lG 47 (lL hs [.v 48 qT,.m 49 48] (lG 50 ?_)))))))));refine lG 51 (lG 52 (lG 53 (lG 54 (lG 55 (lG 56 (lG 57 (lL hs [.v 58 qT,.m 59 58] (lG 60 ?_))))))));refine lG 61 (lG 62 (lL hs [.v 63 qT,.m 64 63] (lG 65 ?_)));refine lG 66 (lG 67 (lL hs [.v 68 qT] (lD ?_)));intro a_ ka;exact ⟨_,⟨true,h5,rfl,hs.to _ _,(fun _ h_=>by first|exact Bool.noConfusion ((h_.2.1.1 oM).symm.trans (hbi.symm.trans aM))|exact absurd (h_.2.1.2 oM) aM|(have h1_:=h_.1;have h2_:=h_.2.2;omega)),(fun h_=>absurd h_ kD)⟩,ka.to _ kR⟩
  have phb6:=oT hb6;refine lB 9 hb6 (lL hs [.m 10 9] (lG 11 ?_));refine lG 12 (lG 13 (lG 14 (lG 15 (lL hs [.v 16 qT,.m 17 16] (lG 18 ?_)))));refine lG 19 (lG 20 (lG 21 (lG 22 (lG 23 (lG 24 (lG 25 (lG 26 (lL hs [.v 27 qT,.m 28 27] (lG 29 ?_)))))))));refine lG 30 (lG 31 (lG 32 (lG 33 (lG 34 (lG 35 (lG 36 (lL hs [.v 37 qT,.m 38 37] (lG 39 ?_))))))));refine lG 40 (lG 41 (lG 42 (lG 43 (lG 44 (lG 45 (lG 46 (lG 47 (lL hs [.v 48 qT,.m 49 48] (lG 50 ?_)))))))));refine lG 51 (lG 52 (lG 53 (lG 54 (lG 55 (lG 56 (lG 57 (lL hs [.v 58 qT,.m 59 58] (lG 60 ?_))))))));refine lG 61 (lG 62 (lL hs [.v 63 qT,.m 64 63] (lG 65 ?_)));refine lG 66 (lG 67 (lL hs [.v 68 qT] (lD ?_)));intro a_ ka;exact ⟨_,⟨true,h5,rfl,hs.to _ _,(fun _ h_=>by first|exact Bool.noConfusion ((h_.2.1.1 oM).symm.trans (hbi.symm.trans aM))|exact absurd (h_.2.1.2 oM) aM|(have h1_:=h_.1;have h2_:=h_.2.2;omega)),(fun h_=>absurd h_ kD)⟩,ka.to _ kR⟩
 rintro _ _ ⟨zo,zX,rfl,hs,zU,hF68⟩;cases zl:(zo)
 ·
  try rw[zl] at hs
  try rw[zl]
  refine cIF (cK (cQ (cSLlL hs [.v 4 (iV 0)] (lNkZ ?_))));refine cTo _ (CG.loop (fun μ_ Γ w_=>∃ (k:Nat) (h_:Hp),μ_=rs.length-k∧Γ=[(1,pB b1),(4,nV k)]∧SS w h w_ h_ [⟨b1,33,[iV op,iV n,.bool bq,qS zA zn zc,qS dA dn dc,.string s,qS A rs.length c]⟩] [] [fun h_=>Rms d h_ rs ks,fun h_=>SlO 7 rmc rtm0 h_ A rs,fun h_=>RZ h_ (bq,qS zA zn zc,qS dA dn dc) q]∧k≤rs.length∧(∀ i,i<k→WfT (fun s=>isb s=true) d (ks.getD i tm0))) _ ⟨0,zX,rfl,rfl,hs.to _ _,Nat.zero_le _,(fun i hi=>absurd hi (Nat.not_lt_zero i))⟩ ?_);rintro _ _ _ ⟨k,_,hm72,rfl,hs,hk,hWk⟩;refine cQ (cSLlL hs [.m 69 4,.v 70 (qP b1 6),.o 71 (qS A rs.length c) 0 6 1,.v 72 (nV rs.length)] ?_);cases zm:(decide ((k:Int)<(rs.length:Int)))
  ·
   have zL:=oF zm;refine lB 73 zm (lNIF (CG.exit ?_))
   show CG _ _ _ _ _ _ _ _
   exact cSLlL hs [.v 2 qT] (lNkXr hs [] qT (wf_tt ⟨by have h1_:=(hF68 aM).1;omega,(hF68 aM).2.2.1,(hF68 aM).2.1,(hF68 aM).2.2.2⟩ hq (fun i hi=>hWk i oM)))
  have zL:=oT zm;refine lB 73 zm (lNIT (cK (cQ (kZ (cSLlL hs [.v 76 (qP b1 6),.o 77 (qS A rs.length c) 0 6 1,.m 78 4] (lX 79 A rs.length c 7 (k:Nat) k ((hs.f.2.1).ok oM) ?_))))));refine lH 80 (.agg #[iV ((rs.getD k rtm0).op),iV ((rs.getD k rtm0).n),.bool ((rs.getD k rtm0).neg),qS ((rs.getD k rtm0).zA) ((rs.getD k rtm0).zn) ((rs.getD k rtm0).zc),qS ((rs.getD k rtm0).dA) ((rs.getD k rtm0).dn) ((rs.getD k rtm0).dc),.string ((rs.getD k rtm0).s),qS ((rs.getD k rtm0).A) ((rs.getD k rtm0).m) ((rs.getD k rtm0).c)]) hs ((hs.f.2.1).el k oM) (lC 81 hs (ih (rs.getD k rtm0) (ks.getD k tm0) _ _ hs.g ((hs.f.1).at_ k oM) (hW k oM)) ?_);rintro _ _ ya hs ⟨bk,rfl,hbk⟩;cases hb76:(bk)
  ·
   exact lL hs [.v 82 qT] (lNIT (cSLlL hs [.v 2 qF] (lNkXr hs [] qF (wf_fk (k:=k) oM aM hbk))))
  refine lL hs [.v 82 qF] (lNIF (cK (kQ (lL hs [.m 74 4] (lIn 75 ((k:Nat)+1) (k+1) ?_)))));refine lL hs [.m 4 75] (lD ?_);intro a_ ka;refine ⟨_,_,?_,⟨k+1,ya,rfl,rfl,hs.to _ _,oM,(fun i hi=>by rcases Nat.lt_succ_iff_lt_or_eq.1 hi with h_|rfl;exact hWk i h_;exact hbk.1 aM)⟩,ka.to _ kR⟩
  omega
 try rw[zl] at hs
 try rw[zl]
 exact cIT (cSLlL hs [.v 2 qF] (lNkXr hs [] qF (wf_ff (fun h_=>zU aM ⟨by have h1_:=h_.1;omega,h_.2.2.1,h_.2.1,h_.2.2.2⟩))))
theorem rFormedT (isb:ByteArray→Bool)(sm:ByteArray→Prop)(hIs:∀ s,sm s→∀ (w:World) (h:Hp),G w h→Calls Tryz.prog 28 #[.string s] w (Ret w h (fun v _=>∃ b,v=.bool b∧b=isb s))):∀ (d:Nat) (r:RTm) (t:Tm) (w:World) (h:Hp),G w h→RmH d h r t→SmT sm d t →  Calls Tryz.prog 68 #[rmv r] w (Ret w h (fun v _=>∃ bb,v=.bool bb∧(bb=true↔WfT (fun s=>isb s=true) d t)))
  | 0,_,_,_,_,_,x,_=>x.elim
  | d+1,r,t,w,h,g,x,wf=>by
    obtain ⟨op,n,b,zA,zn,zc,dA,dn,dc,q,s,A,c,rs,ks,rfl,rfl,hZ,hc,hK,hKs⟩:=x.open;obtain ⟨s1,s2,s3,s4,s5,s6⟩:=wf;exact rFormedS isb sm hIs d (fun r t w h=>rFormedT isb sm hIs d r t w h) op n b zA zn zc dA dn dc q s A c rs ks hc s1 s2 s3 s4 s5 s6 w h g hZ hK hKs
theorem rHeavyS  (ok:ByteArray→Prop)(d:Nat)(ih:∀ (r:RTm) (t:Tm) (w:World) (h:Hp),G w h→RmH d h r t→WfT ok d t→Calls Tryz.prog 69 #[rmv r] w (Ret w h (fun v _=>v=iV ((min (wgt d t) 1073741824:Nat):Int))))(op n:Int)(bq:Bool)(zA:Option Addr)(zn zc:Nat)(dA:Option Addr)(dn dc:Nat)(q:Rat)(s:ByteArray)(A:Option Addr)(c:Nat)(rs:List RTm)(ks:List Tm)(hc:rs.length≤c)(hk3:ks.length≤2)(hari:ari op=(ks.length:Nat))(hq0:op≠1→q=0)(hq:LQ 1 q)(hok:op=2→ok s)(hs0:op≠2→s=⟨#[]⟩)(hn0:op≠8→n=0)(hn1 : -12≤n)(hn2:n≤12)(hW:∀ i,i<ks.length→WfT ok d (ks.getD i tm0))(w:World)(h:Hp)(g:G w h)(hZ:RZ h (bq,.slice zA zn zc,.slice dA dn dc) q)(hK:SlO 7 rmc rtm0 h A rs)(hKs:Rms d h rs ks):CV 69 #[.agg #[iV op,iV n,.bool bq,.slice zA zn zc,.slice dA dn dc,.string s,.slice A rs.length c]] w h (iV ((min (wgt (d+1) (.mk op n q s ks)) 1073741824:Nat):Int)):=by
 have hs:=((((sS g).add (K:=fun h_=>RZ h_ (bq,qS zA zn zc,qS dA dn dc) q) hZ).aS hK).add (K:=fun h_=>Rms d h_ rs ks) hKs);have hln:=(hs.f.1).len;refine go Tryz.func69 [(0,.agg #[iV op,iV n,.bool bq,qS zA zn zc,qS dA dn dc,.string s,qS A rs.length c])] rfl (cSL (lA 1 33 ([iV op,iV n,.bool bq,qS zA zn zc,qS dA dn dc,.string s,qS A rs.length c]) hs (fun b1 w2 h3 hs=>lL hs [.v 2 (iV 0)] (lNcQ (cSLlL hs [.v 5 (qP b1 6),.o 6 (qS A rs.length c) 0 6 1,.v 7 (nV rs.length)] ?_)))));cases hb4:((rs.length:Int) == (0:Int))
 ·
  have phb4:=neOfBeq hb4;refine lB 8 hb4 (lNIF (cK (cSLlL hs [.v 3 (iV 0)] (lNcQ (cSLlL hs [.v 4 (iV 0)] (lNkZ ?_))))));refine cTo _ (CG.loop (fun μ_ Γ w_=>∃ (k:Nat) (sm:Nat) (h_:Hp),μ_=rs.length-k∧Γ=[(1,pB b1),(2,iV 0),(4,nV k),(3,nV sm)]∧SS w h w_ h_ [⟨b1,33,[iV op,iV n,.bool bq,qS zA zn zc,qS dA dn dc,.string s,qS A rs.length c]⟩] [] [fun h_=>Rms d h_ rs ks,fun h_=>SlO 7 rmc rtm0 h_ A rs,fun h_=>RZ h_ (bq,qS zA zn zc,qS dA dn dc) q]∧k≤rs.length∧sm=min (sumN (fun i=>wgt d (ks.getD i tm0)) k) 1073741824) _ ⟨0,0,h3,rfl,rfl,hs.to _ _,Nat.zero_le _,rfl⟩ ?_);rintro _ _ w5 ⟨k,sm,h6,hm7,rfl,hs,hk,hsm⟩;have hs1:(sumN (fun i=>wgt d (ks.getD i tm0)) (k+1))=(sumN (fun i=>wgt d (ks.getD i tm0)) k)+wgt d (ks.getD k tm0):=rfl;refine cQ (cSLlL hs [.m 9 4,.v 10 (qP b1 6),.o 11 (qS A rs.length c) 0 6 1,.v 12 (nV rs.length)] ?_);cases hb8:(decide ((k:Int)<(rs.length:Int)))
  ·
   have phb8:=oF hb8;refine lB 13 hb8 (lNIF (CG.exit ?_))
   show CG _ _ _ _ _ _ _ _
   refine cSLlL hs [.v 25 (pB b1),.o 26 (iV op) 0 0 1,.v 27 (qP b1 1),.o 28 (iV n) 0 1 1,.m 29 3] (lCval 30 hs (rWeighC op n (sm:Nat) oM (fun _=>⟨hn1,hn2⟩) _ _ hs.g) (fun w9 _ hs=>lL hs [.m 2 30] (lN (kX ?_))));have hkn:k=ks.length:=by omega
   have hw_:=wgt_s (d:=d) (op:=op) (n:=n) (q:=q) (s:=s) (ks:=ks) oM;rw[hkn] at hsm
   exact hs.ret [] (iV (min (weighS op n (sm:Nat)) 1073741824)) (congrArg (Value.int .i64) (by rw[hw_,hsm];exact weighS_min hn0 hn1 hn2))
  have phb8:=oT hb8;refine lB 13 hb8 (lNIT (cK (cQ (kZ (kQ (lL hs [.m 16 3,.v 17 (qP b1 6),.o 18 (qS A rs.length c) 0 6 1,.m 19 4] (lX 20 A rs.length c 7 (k:Nat) k ((hs.f.2.1).ok oM) ?_)))))));refine lH 21 (.agg #[iV ((rs.getD k rtm0).op),iV ((rs.getD k rtm0).n),.bool ((rs.getD k rtm0).neg),qS ((rs.getD k rtm0).zA) ((rs.getD k rtm0).zn) ((rs.getD k rtm0).zc),qS ((rs.getD k rtm0).dA) ((rs.getD k rtm0).dn) ((rs.getD k rtm0).dc),.string ((rs.getD k rtm0).s),qS ((rs.getD k rtm0).A) ((rs.getD k rtm0).m) ((rs.getD k rtm0).c)]) hs ((hs.f.2.1).el k oM) (lCval 22 hs (ih (rs.getD k rtm0) (ks.getD k tm0) _ _ hs.g ((hs.f.1).at_ k oM) (hW k oM)) (fun _ za hs=>lI 23 ((sm:Nat)+((min (wgt d (ks.getD k tm0)) 1073741824:Nat):Int)) (lV 24 (iV ((min (sumN (fun i=>wgt d (ks.getD i tm0)) (k+1)) 1073741824:Nat):Int)) ?_ (hr:=rint (n:=if (1073741824:Int)<((sm:Nat)+((min (wgt d (ks.getD k tm0)) 1073741824:Nat):Int)) then (1073741824:Int) else ((sm:Nat)+((min (wgt d (ks.getD k tm0)) 1073741824:Nat):Int))) kR (by split<;>omega)))));refine lL hs [.m 3 24] (lN (kQ (lL hs [.m 14 4] (lIn 15 ((k:Nat)+1) (k+1) ?_))));refine lL hs [.m 4 15] (lD ?_);intro a_ ka;refine ⟨_,_,?_,⟨k+1,(min (sumN (fun i=>wgt d (ks.getD i tm0)) (k+1)) 1073741824),za,rfl,rfl,hs.to _ _,oM,rfl⟩,ka.to _ kR⟩
  omega
 have phb4:=eq_of_beq hb4;exact lB 8 hb4 (lNIT (cSLlL hs [.v 2 (iV 1)] (lNkXr hs [] (iV 1) (congrArg (Value.int .i64) (by rw[wgt_0 oM];rfl)))))
theorem rHeavy (ok:ByteArray→Prop):∀ (d:Nat) (r:RTm) (t:Tm) (w:World) (h:Hp),G w h→RmH d h r t→WfT ok d t→Calls Tryz.prog 69 #[rmv r] w (Ret w h (fun v _=>v=iV ((min (wgt d t) 1073741824:Nat):Int)))
  | 0,_,_,_,_,_,x,_=>x.elim
  | d+1,r,t,w,h,g,x,wf=>by
    obtain ⟨op,n,b,zA,zn,zc,dA,dn,dc,q,s,A,c,rs,ks,rfl,rfl,hZ,hc,hK,hKs⟩:=x.open;have hl2:ks.length≤2:=wf.two;obtain ⟨w1,w2,w3,w4,w5,w6,w7,w8,w9⟩:=wf;exact rHeavyS ok d (fun r t w h=>rHeavy ok d r t w h) op n b zA zn zc dA dn dc q s A c rs ks hc hl2 w1 w2 w3 w4 w5 w6 w7 w8 w9 w h g hZ hK hKs
theorem rCheckT  (isb:ByteArray→Bool)(sm:ByteArray→Prop)(hIs:∀ s,sm s→∀ (w:World) (h:Hp),G w h→Calls Tryz.prog 28 #[.string s] w (Ret w h (fun v _=>∃ b,v=.bool b∧b=isb s)))(d:Nat)(r:RTm)(t:Tm)(hd:d≤24)(w:World)(h:Hp)(g:G w h)(hR:RmH d h r t)(hS:SmT sm d t):CR 30 #[.agg #[iV r.op,iV r.n,.bool r.neg,.slice r.zA r.zn r.zc,.slice r.dA r.dn r.dc,.string r.s,.slice r.A r.m r.c]] w h (fun v _=>∃ e:Int,v=iV e∧(e=0↔WfT (fun s=>isb s=true) d t∧wgt d t≤1000)):=by
 have hs:=((sS g).add (K:=fun h_=>RmH d h_ r t) hR);refine go Tryz.func30 [(0,.agg #[iV r.op,iV r.n,.bool r.neg,qS r.zA r.zn r.zc,qS r.dA r.dn r.dc,.string r.s,qS r.A r.m r.c])] rfl (cSL (lA 1 33 ([iV r.op,iV r.n,.bool r.neg,qS r.zA r.zn r.zc,qS r.dA r.dn r.dc,.string r.s,qS r.A r.m r.c]) hs (fun b1 w2 h3 hs=>lL hs [.v 2 (iV 0)] (lNcQ (kZ (cSLlL hs [.o 4 (.agg #[iV r.op,iV r.n,.bool r.neg,qS r.zA r.zn r.zc,qS r.dA r.dn r.dc,.string r.s,qS r.A r.m r.c]) 0 0 7] (lC 5 hs (rDeepOf sm d r t _ _ hs.g hs.f.1 hS oM) ?_)))))));rintro _ w4 h5 hs ⟨md,rfl,hm1,hm2⟩;cases hb6:(decide ((24:Int)<(md:Int)))
 ·
  have phb6:=oF hb6;refine lB 6 hb6 (lL hs [.m 3 6] (lNIF (cSLlL hs [.o 8 (.agg #[iV r.op,iV r.n,.bool r.neg,qS r.zA r.zn r.zc,qS r.dA r.dn r.dc,.string r.s,qS r.A r.m r.c]) 0 0 7] (lC 9 hs (rFormedT isb sm hIs d r t _ _ hs.g hs.f.1 hS) ?_))));rintro _ w7 h8 hs ⟨bf,rfl,hbf⟩;cases hb9:(bf)
  ·
   exact lL hs [.v 10 qT,.m 7 10] (lNIT (cSLlL hs [.v 2 (iV 2)] (lNkXr hs [] (iV 2) (⟨_,rfl,fun h_=>absurd h_ kD,fun h_=>Bool.noConfusion ((hbf.2 h_.1).symm.trans aM)⟩))))
  refine lL hs [.v 10 qF,.m 7 10] (lNIF (cSLlL hs [.o 12 (.agg #[iV r.op,iV r.n,.bool r.neg,qS r.zA r.zn r.zc,qS r.dA r.dn r.dc,.string r.s,qS r.A r.m r.c]) 0 0 7] (lCval 13 hs (rHeavy (fun s=>isb s=true) d r t _ _ hs.g hs.f.1 (hbf.1 aM)) (fun _ _ hs=>?_))));cases za:(decide ((1000:Int)<(((min (wgt d t) 1073741824:Nat):Int):Int)))
  ·
   have zb:=oF za;exact lB 14 za (lL hs [.m 11 14] (lNIF (cK (cSLlL hs [.v 2 (iV 0)] (lNkXr hs [] (iV 0) (⟨_,rfl,fun _=>⟨hbf.1 aM,by omega⟩,fun _=>rfl⟩))))))
  have zb:=oT za;exact lB 14 za (lL hs [.m 11 14] (lNIT (cSLlL hs [.v 2 (iV 18)] (lNkXr hs [] (iV 18) (⟨_,rfl,fun h_=>absurd h_ kD,fun h_=>by have:=h_.2;omega⟩)))))
 have phb6:=oT hb6;refine lB 6 hb6 (lL hs [.m 3 6] (lNIT (cSLlL hs [.v 2 (iV 19)] (lN (kX ?_)))))
 exfalso;omega
theorem rAmongG (A:Option Addr)(c:Nat)(ns:List ByteArray)(s:ByteArray)(hl:ns.length≤1000)(w:World)(h:Hp)(g:G w h)(hA:SlO 1 strc ⟨#[]⟩ h A ns):CR 29 #[.slice A ns.length c,.string s] w h (fun v _=>∃ b,v=.bool b∧(b=true↔s∈ns)):=by
 have hs:=((sS g).aS hA);refine go Tryz.func29 [(0,qS A ns.length c),(1,.string s)] rfl (cSLlL hs [.v 4 qF] (lNcQ (cSLlL hs [.v 5 (iV 0)] (lNkZ ?_))));refine cTo _ (CG.loop (fun μ_ Γ w_=>∃ (k:Nat) (h_:Hp),μ_=ns.length-k∧Γ=[(0,qS A ns.length c),(1,.string s),(5,nV k)]∧SS w h w_ h_ [] [] [fun h_=>SlO 1 strc ⟨#[]⟩ h_ A ns]∧k≤ns.length∧(∀ i,i<k→¬ns.getD i ⟨#[]⟩=s)) _ ⟨0,h,rfl,rfl,hs.to _ _,Nat.zero_le _,(fun i hi=>absurd hi (Nat.not_lt_zero i))⟩ ?_);rintro _ _ w1 ⟨k,h2,hm3,rfl,hs,hk,hno⟩;refine cQ (cSLlL hs [.m 6 5,.m 7 0,.v 8 (nV ns.length)] ?_);cases hb4:(decide ((k:Int)<(ns.length:Int)))
 ·
  have phb4:=oF hb4;refine lB 9 hb4 (lNIF (CG.exit ?_))
  show CG _ _ _ _ _ _ _ _
  exact cSLlL hs [.v 4 qF] (lNkXr hs [] qF (⟨false,rfl,fun h_=>(by cases h_),fun h_=>(by obtain ⟨i_,hi_,e_⟩:=getG h_;exact absurd e_ (hno i_ oM))⟩))
 have phb4:=oT hb4;refine lB 9 hb4 (lNIT (cK (cQ (kZ (cSLlL hs [.m 12 0,.m 13 5] (lX 14 A ns.length c 1 (k:Nat) k ((hs.f.1).ok oM) ?_))))));refine lH 15 (.string (ns.getD k ⟨#[]⟩)) hs ((hs.f.1).el k oM) (lL hs [.m 16 1] ?_);cases hb5:(strQ (ns.getD k ⟨#[]⟩) s)
 ·
  have phb5:=strQ_f hb5;refine lB 17 hb5 (lNIF (cK (kQ (lL hs [.m 10 5] (lIn 11 ((k:Nat)+1) (k+1) ?_)))));refine lL hs [.m 5 11] (lD ?_);intro a_ ka;refine ⟨_,_,?_,⟨k+1,h2,rfl,rfl,hs.to _ _,oM,(fun i hi=>by rcases Nat.lt_succ_iff_lt_or_eq.1 hi with h_|rfl;exact hno i h_;assumption)⟩,ka.to _ kR⟩
  omega
 have phb5:=strQ_t hb5;exact lB 17 hb5 (lNIT (cSLlL hs [.v 4 qT] (lNkXr hs [] qT (⟨true,rfl,fun _=>memG (by omega:k<ns.length) aM,fun _=>rfl⟩))))
section laws
variable {M:Ms} {P:Program} {ops:Array Oper} {Q:Exit→Act→World→Prop} {k0:Nat}
structure Waits (ops:Array Oper) (k0 i:Nat) (late:List Nat):Prop where
  ev:∀ u∈late,∃ ou,ops[u]?=some ou∧∃ e∈ou.after,Region.binds .any e=true∧(e.on=i∨e.on∈late)
  tl:∀ j oj,ops[j]?=some oj→k0≤j→j∈late
theorem anyR_firstU {i:Nat}{oi:Oper}{v:Value}{S:World→Prop}{late:List Nat}(hi:ops[i]?=some oi)(hsel:∀ (j:Nat) (o:Oper) cs b,ops[j]?=some o→o.op≠.select cs b)
    (hQ:∀ c a w,Q (.panic c) (a.put oi.dst v) w→Q (.panic c) a w)(hcl:∀ w w',S w→Mo M.l w w'→S w')(hw:Waits ops k0 i late) :
    ∀ (n:Nat) (L:Array Bool) (a:Act) (w:World),
      (∀ j oj,ops[j]?=some oj→j≠i→L.getD j true=false→(∀ e∈oj.after,Region.binds .any e=true→e.on≠i)→oi.apart ops oj=true) →
      (∀ u∈late,L.getD u true=false) →
      i∈Region.ready .any ops L→YieldsIf P ops S oi v a→S w →
      anyR M P ops Q k0 n (L.setIfInBounds i true) (a.put oi.dst v) w→anyR M P ops Q k0 (n+1) L a w:=by
  intro n
  induction n with
  | zero =>
    intro L a w _ _ hr hy hS H;refine ⟨fun h=>(by rw[h] at hr;cases hr),fun j hj=>?_⟩
    by_cases hji:j=i
    · subst hji;exact hy.wpOp hi hS ⟨Rl.refl _ _ _ _,H⟩
    · have:=ready_mono hj hji
      rw[H.1] at this
      cases this
  | succ n ih =>
    intro L a w hfree hund hr hy hS H;refine ⟨fun h=>(by rw[h] at hr;cases hr),fun j hj=>?_⟩
    by_cases hji:j=i
    · subst hji;exact hy.wpOp hi hS ⟨Rl.refl _ _ _ _,H⟩
    · have h1:=H.2 j (ready_mono hj hji)
      obtain ⟨hjun,oj,hoj,hall⟩:=mem_ready.1 hj
      have hwait:∀ x,L.getD x true=false→∀ e∈oj.after,Region.binds .any e=true→e.on≠x:=fun x h0 e he hb heq=>by
        have h1:=hall e he hb;rw[heq] at h1
        obtain ⟨hl,h0'⟩:=unl h0
        simp[Array.getD,hl,h0'] at h1
      have hnot:=hwait i (mem_ready.1 hr).1
      have hnl:j ∉ late:=fun hm=>by
        obtain ⟨ou,ho,e,he,hb,h2⟩:=hw.ev j hm;obtain rfl:oj=ou:=Option.some.inj (hoj.symm.trans ho)
        rcases h2 with h2|h2
        · exact hnot e he hb h2
        · exact hwait e.on (hund _ h2) e he hb rfl
      have hlt:j<k0:=by
        rcases Nat.lt_or_ge j k0 with hl|hl
        · exact hl
        · exact absurd (hw.tl j oj hoj hl) hnl
      have h2:=wpOp_putIf hoj (hfree j oj hoj hji hjun hnot) (fun cs b=>hsel i oi cs b hi) (fun cs b=>hsel j oj cs b hoj) hQ hy h1
      have hfree':∀ k ok,ops[k]?=some ok→k≠i→(L.setIfInBounds j true).getD k true=false →
          (∀ e∈ok.after,Region.binds .any e=true→e.on≠i)→oi.apart ops ok=true:=fun k ok hk hki hun hno=>by
        refine hfree k ok hk hki ?_ hno
        by_cases hjk:j=k
        · subst hjk;exact hjun
        · rw[getD_set_ne true hjk] at hun;exact hun
      refine wpOp_mono (fun a' w' h3=>⟨h3.2.1,ih (L.setIfInBounds j true) a' w' hfree' (fun u hu=>?_) (ready_mono hr (Ne.symm hji)) h3.1 (hcl _ _ hS (h3.2.1.1 hlt)) ?_⟩) h2
      · rw[getD_set_ne true (fun e=>hnl (by rw[e];exact hu))];exact hund u hu
      · rw[Array.setIfInBounds_comm _ _ hji]
        exact h3.2.2
theorem E.take0U {h0:Hp}{AL:List Al}{L:Array Bool}{a:Act}{w:World}{h:Hp}{i:Nat}{o:Oper}{v:Value}{S:World→Prop}{late:List Nat}
    (hi:ops[i]?=some o)(hsel:Region.noSelect ops=true)(hf:Region.free .any ops L i=true)(hr:i∈Region.ready .any ops L)
    (hal:∀ x∈AL,x.i≠i∧x.t ∉ o.looksAt ops∧o.dst≠some x.t)(hQ:∀ c a w,¬Q (.panic c) a w)
    (hcl:∀ w w',S w→Mo M.l w w'→S w')(hS:∀ w',Mo M.l w w'→S w')(hy:YieldsIf P ops S o v a)
    (hw:Waits ops k0 i late)(hund:∀ u∈late,L.getD u true=false∧∀ x∈AL,x.i≠u)
    (H:E M P ops Q k0 h0 AL (L.setIfInBounds i true) (a.put o.dst v) w h):E M P ops Q k0 h0 AL L a w h:=by
  intro w' h' u S' T hp hb hn;have hS':∀ s∈S',s.1.i≠i∧s.1.t ∉ o.looksAt ops∧o.dst≠some s.1.t:=fun s hs=>hal _ (mem_perm hp hs)
  have H1:=H w' h' u S' T hp hb hn;rw[addL_set L S' i (fun s hs=>(hS' s hs).1),addA_put a S' o.dst v (fun s hs=>(hS' s hs).2.2)] at H1
  have hr':=addL_ready (fun s hs=>(hS' s hs).1) hr;obtain ⟨e1,e2⟩:=exec_addA (ops:=ops) (Region.noSelect_spec hsel i o · · hi) a S' (fun s hs=>(hS' s hs).2.1)
  unfold A at *
  rw[rem_ready hr']
  exact anyR_firstU hi (Region.noSelect_spec hsel) (fun c a w hq=>absurd hq (hQ _ _ _)) hcl hw _ _ _ _
    (fun j oj hj hji hun=>Region.free_spec hi hf j oj hj hji (addL_getD hun))
    (fun x hx=>by rw[addL_ne true (fun s hs=>(hund x hx).2 _ (mem_perm hp hs))];exact (hund x hx).1) hr' (hy.of_same e1 e2) (hS _ (u.m M.l).mo) H1
end laws
section steps
variable {M:Ms} {P:Program} {n:Nat} {N R:Po} {X:Nat→Po} {ops:Array Oper} {k0:Nat} {hr:Hp} {AL:List Al} {L:Array Bool} {Γ:Env} {w:World} {h:Hp} {w0:World} {h0:Hp} {B:List Bx} {Rs:List Rw} {F:List (Hp→Prop)}
def chkLate (ops:Array Oper)(k0:Nat)(AL:List Al)(L:Array Bool)(i:Nat)(late:List Nat):Bool :=
  (late.all fun u=>decide (u<ops.size) && !(L.getD u true) && (AL.all fun x=>x.i != u) && ((opAt ops u).after.any fun e=>Region.binds .any e && (e.on == i || late.contains e.on))) && ((List.range ops.size).all fun j=>decide (j<k0) || late.contains j)
theorem chkLate_spec {i:Nat}{late:List Nat}(hc:chkLate ops k0 AL L i late=true):Waits ops k0 i late∧∀ u∈late,L.getD u true=false∧∀ x∈AL,x.i≠u:=by
  unfold chkLate at hc
  rw[Bool.and_eq_true] at hc
  obtain ⟨h1,h2⟩:=hc;have h1':=fun u hu=>(List.all_eq_true.1 h1) u hu
  refine ⟨⟨fun u hu=>?_,fun j oj hj hk=>?_⟩,fun u hu=>?_⟩
  · have q:=h1' u hu
    simp only[Bool.and_eq_true,decide_eq_true_eq,Array.any_eq_true,Bool.or_eq_true,beq_iff_eq,List.contains_eq_mem] at q
    obtain ⟨⟨⟨q1,_⟩,_⟩,x,hx,q2,q3⟩:=q;exact ⟨_,opAt_get q1,_,Array.getElem_mem hx,q2,q3⟩
  · have hlt:=(Array.getElem?_eq_some_iff.1 hj).1
    have q:=(List.all_eq_true.1 h2) j (List.mem_range.2 hlt)
    simp only[Bool.or_eq_true,decide_eq_true_eq,List.contains_eq_mem] at q
    rcases q with q|q
    · omega
    · exact q
  · have q:=h1' u hu
    simp only[Bool.and_eq_true,Bool.not_eq_true',List.all_eq_true,bne_iff_ne,ne_eq] at q
    exact ⟨q.1.1.2,fun x hx=>q.1.2 x hx⟩
def cElU (n:Nat)(ops:Array Oper)(k0:Nat)(AL:List Al)(L:Array Bool)(Γ:Env)(i t:Nat)(late:List Nat):Bool:=chkTake n ops k0 AL L i t && knownOp Γ (opAt ops i) && chkLate ops k0 AL L i late && (wantE ops Γ (opAt ops i) == some true)
theorem Rg.loadU (i t:Nat)(late:List Nat)(v:Value)(hc:cElU n ops k0 AL L Γ i t late=true)
    (hr:∀ w',Mo M.l w w'→(execOp (ev Γ) (opAt ops i)).run P w'=.ok (.value v) w')
    (k:EG M P n N R X ops k0 h0 AL (L.setIfInBounds i true) ((t,v)::Γ) w h):EG M P n N R X ops k0 h0 AL L Γ w h:=by
  unfold cElU at hc
  simp only[Bool.and_eq_true] at hc
  obtain ⟨⟨⟨hc,hkn⟩,hl⟩,hw⟩:=hc;have hw:wantE ops Γ (opAt ops i)=some true:=by simpa using hw
  have c:=chkTake_spec hc;obtain ⟨l1,l2⟩:=chkLate_spec hl;intro oks hM g hsz a ka;have e1:=ka.exec (Region.noSelect_spec c.sel i _ · · c.get) hkn;refine E.take0U (v:=v) (S:=fun w'=>Mo M.l w w') c.get c.sel c.free c.ready c.al (fun _ _ _ hq=>hq) (fun _ _ h1 h2=>h1.trans h2) (fun _ hx=>hx) (.inl ⟨ka.want hw,fun w' hx=>by rw[e1];exact hr w' hx⟩) l1 l2 ?_;rw[c.dst];exact k oks hM g hsz _ (ka.put c.tn v)
theorem eRqU (i t j:Nat)(late:List Nat)(v:Value)(ds:List Value){ty:TypeId}{sz c m b o:Nat}{cs:List Value}(s:SS w0 h0 w h B Rs F)(hds:(cs.drop o).take ds.length=ds)(H:EG ⟨[],none⟩ P n N R X ops k0 hr AL (L.setIfInBounds i true) ((t,v)::Γ) w h)(hr':Rs.getD j default=⟨ty,sz,some ⟨b,0,none⟩,c,m,cs⟩:=by kernel_rfl)(hj:decide (j<Rs.length)=true:=by kernel_rfl)(hc:cElU n ops k0 AL L Γ i t late=true:=by kernel_rfl)(he:evalL P (execOp (ev Γ) (opAt ops i)) ds=some (.value v,mka b o ds.length):=by kernel_rfl):EG ⟨[],none⟩ P n N R X ops k0 hr AL L Γ w h :=
  Rg.loadU i t late v hc (fun _ hx=>s.rowrun j hr' (oT hj) hds hx.ext he) H
theorem eOU (i t:Nat)(late:List Nat)(ps:List (Nat × Nat × Nat))(v:Value)(s:SS w0 h0 w h B Rs F)(H:EG ⟨[],none⟩ P n N R X ops k0 hr AL (L.setIfInBounds i true) ((t,v)::Γ) w h)(hc:cElU n ops k0 AL L Γ i t late=true:=by kernel_rfl)(hp:partsOk B ps=true:=by kernel_rfl)(he:evalL P (execOp (ev Γ) (opAt ops i)) (partsV B ps)=some (.value v,partsA B ps):=by kernel_rfl):EG ⟨[],none⟩ P n N R X ops k0 hr AL L Γ w h :=
  Rg.loadU i t late v hc (fun w' hx=>evalL_run _ _ _ _ he (parts_cellsM (fun _ _=>List.not_mem_nil) (fun x hm _=>(hx.blk x.b (by rw[s.g.size];exact lt_of_some (s.st.jk x hm)) List.not_mem_nil).trans (s.st.own x hm)) ps (fun _ h=>h) hp)) H
end steps
theorem strS (s:ByteArray):(s.toList == s.toList)=true:=beq_self_eq_true _
theorem strS2 (s:ByteArray):(!(s.toList == s.toList))=false:=by rw[strS];rfl
section tcs
variable {M:Ms} {P:Program} {n:Nat} {N R:Po} {X:Nat→Po} {ops:Array Oper} {k0:Nat} {L:Array Bool} {Γ:Env} {w:World}
theorem tCs (i t:Nat){f:FuncId}{args:Array Value}{Φ:Value→World→Hp→Prop}(c:Calls P f args w (RetS Φ))(H:∀ v w' h',Φ v w' h'→AG M P n N R X ops k0 (L.setIfInBounds i true) ((t,v)::Γ) w')(hc:(chkT ops k0 L i && knownOp Γ (opAt ops i) && ((opAt ops i).dst == some t) && decide (t<n))=true:=by kernel_rfl)(hw:wantE ops Γ (opAt ops i)=some true:=by kernel_rfl)
    (hr:(execOp (ev Γ) (opAt ops i)).run P w=.ok (.enter f args) w:=by kernel_rfl)(hz:M.z=none:=by rfl):AG M P n N R X ops k0 L Γ w :=
  tC i t (c.mono fun e w' ⟨v,h',he,hΦ⟩=>⟨v,he,Tl.none hz _ _,H v w' h' hΦ⟩) hc hw hr
variable {h:Hp} {w0:World} {h0 hr:Hp} {AL:List Al} {B:List Bx} {Rs:List Rw} {F:List (Hp→Prop)}
theorem eHU (i t:Nat)(late:List Nat)(v:Value){b o:Nat}{cs:List Value}(s:SS w0 h0 w h B Rs F)(sg:Seg h b o cs)(H:EG ⟨[],none⟩ P n N R X ops k0 hr AL (L.setIfInBounds i true) ((t,v)::Γ) w h)(hc:cElU n ops k0 AL L Γ i t late=true:=by kernel_rfl)(he:evalL P (execOp (ev Γ) (opAt ops i)) cs=some (.value v,mka b o cs.length):=by kernel_rfl):EG ⟨[],none⟩ P n N R X ops k0 hr AL L Γ w h :=
  Rg.loadU i t late v hc (fun _ hx=>Seg.run sg s.g hx.ext he) H
end tcs
theorem lay_pos {ns:List ByteArray}{s:ByteArray}{j:Nat}(hm:s∈ns)(hj:j≤ns.length)(hno:∀ i,i<j→¬ns.getD i ⟨#[]⟩=s)(h:j=ns.length∨ns.getD j ⟨#[]⟩=s):posN ns s=j:=by
  have hp:=posN_lt hm
  rcases h with h|h
  · exact absurd hp.2 (hno _ oM)
  · by_cases e:j<ns.length
    · exact posN_eq hno e h
    · exact absurd hp.2 (hno _ oM)
theorem rLayS {w0:World}{h0:Hp}{B2:List Bx}{R2:List Rw}{F2:List (Hp→Prop)}(ok:ByteArray→Prop)(ns:List ByteArray)(Nm:Option Addr)(cN:Nat)(hln:ns.length≤100)(pl:ByteArray→Int)(hpl:∀ s,ok s→s∈ns∧pl s=(posN ns s:Nat))(inp:Int)(O:Option Addr)(on od:Nat)(d:Nat)(ih:∀ (r:RTm) (t:Tm) (A:Option Addr) (c:Nat) (rl:List RSt) (ss:List OSt) (l:List Stp) {w0:World} {h0:Hp} {B2:List Bx} {R2:List Rw} {F2:List (Hp→Prop)} (w:World) (h:Hp),G w h→RmH d h r t→SlO 1 strc ⟨#[]⟩ h Nm ns→LaidO pl 0 h rl ss l→SS w0 h0 w h B2 (⟨102,7,A,c,(rl).length,(rl).flatMap rsc⟩::R2) F2→WfT ok d t→l.length+cntT d t≤1000→Calls Tryz.prog 32 #[.agg #[iV inp,.slice A rl.length c,.slice O on od],rmv r,.slice Nm ns.length cN] w (RetS fun v w1 h1=>∃ A1 c1,∃ rl2:List RSt,∃ ss2:List OSt,v=.tuple #[.agg #[iV inp,.slice A1 rl2.length c1,.slice O on od],iV ((rl2.length:Nat)-1)]∧LaidO pl 0 h1 rl2 ss2 (recT pl d l t)∧SS w0 h0 w1 h1 B2 (⟨102,7,A1,c1,(rl2).length,(rl2).flatMap rsc⟩::R2) F2))(op n:Int)(bq:Bool)(zA:Option Addr)(zn zc:Nat)(dA:Option Addr)(dn dc:Nat)(q:Rat)(s:ByteArray)(A:Option Addr)(c:Nat)(rs:List RTm)(ks:List Tm)(hc:rs.length≤c)(hq0:op≠1→q=0)(hq:LQ 1 q)(hok:op=2→ok s)(hn0:op≠8→n=0)(hn1 : -12≤n)(hn2:n≤12)(hari:ari op=(ks.length:Nat))(hl2:ks.length≤2)(hW:∀ i,i<ks.length→WfT ok d (ks.getD i tm0))(A0:Option Addr)(c0:Nat)(rl:List RSt)(ss:List OSt)(l:List Stp)(hll:l.length+(1+(sumN (fun i=>cntT d (ks.getD i tm0)) ks.length))≤1000)(w:World)(h:Hp)(g:G w h)(hZ:RZ h (bq,.slice zA zn zc,.slice dA dn dc) q)(hK:SlO 7 rmc rtm0 h A rs)(hKs:Rms d h rs ks)(hN:SlO 1 strc ⟨#[]⟩ h Nm ns)(hLd0:LaidO pl 0 h rl ss l)(hs:SS w0 h0 w h B2 (⟨102,7,A0,c0,(rl).length,(rl).flatMap rsc⟩::R2) F2):Calls Tryz.prog 32 #[.agg #[iV inp,.slice A0 ((rl).length) c0,.slice O on od],.agg #[iV op,iV n,.bool bq,.slice zA zn zc,.slice dA dn dc,.string s,.slice A rs.length c],.slice Nm ns.length cN] w (RetS fun v w1 h1=>∃ A1 c1,∃ rl2:List RSt,∃ ss2:List OSt,v=.tuple #[.agg #[iV inp,.slice A1 rl2.length c1,.slice O on od],iV ((rl2.length:Nat)-1)]∧LaidO pl 0 h1 rl2 ss2 (recT pl (d+1) l (.mk op n q s ks))∧SS w0 h0 w1 h1 B2 (⟨102,7,A1,c1,(rl2).length,(rl2).flatMap rsc⟩::R2) F2):=by
 replace hs:=hs.to ([]++B2) ([⟨102,7,A0,c0,(rl).length,(rl).flatMap rsc⟩]++R2);replace hs:=(((((hs.add (K:=fun h_=>RZ h_ (bq,qS zA zn zc,qS dA dn dc) q) hZ).aS hK).add (K:=fun h_=>Rms d h_ rs ks) hKs).aS hN).add (K:=fun h_=>LaidO pl 0 h_ rl ss l) hLd0);have hln:=(hs.f.r.1).len;have hac:=ari_cases op;have hl0_:=(hs.f.1).len;refine go Tryz.func32 [(0,.agg #[iV inp,qS A0 ((rl).length) c0,qS O on od]),(1,.agg #[iV op,iV n,.bool bq,qS zA zn zc,qS dA dn dc,.string s,qS A rs.length c]),(2,qS Nm ns.length cN)] rfl (cSL (lA 3 48 ([iV inp,qS A0 ((rl).length) c0,qS O on od]) hs (fun b1 w2 h3 hs=>lA 4 33 ([iV op,iV n,.bool bq,qS zA zn zc,qS dA dn dc,.string s,qS A rs.length c]) hs (fun b4 w5 h6 hs=>lA 6 48 ([iV 0,sZ,sZ]) hs (fun b7 w8 h9 hs=>lL hs [.v 7 (iV 0)] (lNS (lL hs [.v 11 (pB b4),.o 12 (iV op) 1 0 1,.v 13 (qP b4 1),.o 14 (iV n) 1 1 1,.v 15 (.agg #[iV op,iV 0,iV 0,iV n,qF,sZ,sZ])] (lA 8 102 ([iV 0,iV 0,iV 0,iV 0,qF,sZ,sZ]) hs (fun zd _ zq hs=>lP 0 0 ([iV op,iV 0,iV 0,iV n,qF,sZ,sZ]) hs (fun _ hs=>?_))))))))));refine lN (CG.join (fun Γ w_=>∃ (nn:Int) (qb:Bool) (qA:Option Addr) (qn:Nat) (qc:Nat) (qD:Option Addr) (qm:Nat) (qd:Nat) (h_:Hp),Γ=[(2,qS Nm ns.length cN),(3,pB b1),(4,pB b4),(6,pB b7),(7,iV 0),(8,pB zd)]∧SS w0 h0 w_ h_ ([⟨zd,102,[iV op,iV 0,iV 0,iV nn,.bool qb,qS qA qn qc,qS qD qm qd]⟩,⟨b7,48,[iV 0,sZ,sZ]⟩,⟨b4,33,[iV op,iV n,.bool bq,qS zA zn zc,qS dA dn dc,.string s,qS A rs.length c]⟩,⟨b1,48,[iV inp,qS A0 ((rl).length) c0,qS O on od]⟩]++B2) ([⟨102,7,A0,c0,(rl).length,(rl).flatMap rsc⟩]++R2) ([fun h_=>RZ h_ (qb,qS qA qn qc,qS qD qm qd) q,fun h_=>LaidO pl 0 h_ rl ss l,fun h_=>SlO 1 strc ⟨#[]⟩ h_ Nm ns,fun h_=>Rms d h_ rs ks,fun h_=>SlO 7 rmc rtm0 h_ A rs,fun h_=>RZ h_ (bq,qS zA zn zc,qS dA dn dc) q]++F2)∧nn=(if op=2 then pl s else n)∧(-1000:Int)≤nn∧nn≤(1000:Int)) ?_ ?_)
 ·
  refine cSLlL hs [.v 16 (pB b4),.o 17 (iV op) 2 0 1] (lNkZ (cSL ?_));cases zj:((op:Int) == (1:Int))
  ·
   have zr:=neOfBeq zj;refine lB 19 zj (lL hs [.m 18 19] (lNIF (cSL ?_)));cases zk:((op:Int) == (2:Int))
   ·
    have zs:=neOfBeq zk;refine lB 24 zk (lL hs [.m 23 24] (lNIF (CG.skip ?_)));intro a_ ka;replace hs:=(hs.add (K:=fun h_=>RZ h_ (false,sZ,sZ) q) (by rw[hq0 oM];exact rz_nil));exact ⟨_,⟨n,false,none,0,0,none,0,0,zq,rfl,hs.to _ _,((if_neg oM).symm),oM⟩,ka.to _ kR⟩
   have zs:=eq_of_beq zk;refine lB 24 zk (lL hs [.m 23 24] (lNIT (kZ ?_)));refine cTo _ (CG.loop (fun μ_ Γ w_=>∃ (j:Nat) (jn:Int) (h_:Hp),μ_=ns.length-j∧Γ=[(2,qS Nm ns.length cN),(3,pB b1),(4,pB b4),(6,pB b7),(7,iV 0),(8,pB zd)]∧SS w0 h0 w_ h_ ([⟨zd,102,[iV op,iV 0,iV 0,iV jn,qF,sZ,sZ]⟩,⟨b7,48,[iV 0,sZ,sZ]⟩,⟨b4,33,[iV op,iV n,.bool bq,qS zA zn zc,qS dA dn dc,.string s,qS A rs.length c]⟩,⟨b1,48,[iV inp,qS A0 ((rl).length) c0,qS O on od]⟩]++B2) ([⟨102,7,A0,c0,(rl).length,(rl).flatMap rsc⟩]++R2) ([fun h_=>LaidO pl 0 h_ rl ss l,fun h_=>SlO 1 strc ⟨#[]⟩ h_ Nm ns,fun h_=>Rms d h_ rs ks,fun h_=>SlO 7 rmc rtm0 h_ A rs,fun h_=>RZ h_ (bq,qS zA zn zc,qS dA dn dc) q]++F2)∧j≤ns.length∧jn=(j:Nat)∧(∀ i,i<j→¬ns.getD i ⟨#[]⟩=s)) _ ⟨0,n,zq,rfl,rfl,hs.to _ _,Nat.zero_le _,(by have:=hn0 oM;omega),(fun i hi=>absurd hi (Nat.not_lt_zero i))⟩ ?_);rintro _ _ _ ⟨j,jn,_,hm21,rfl,hs,hj,hjn,hno⟩;refine cQ (cQ (cR 15 [] mixed hs al_nil ?_));refine eV 0 25 (qP zd 3) (eO 1 26 [(0,3,1)] (iV jn) hs (eV 2 27 (qS Nm ns.length cN) (eV 3 28 (nV ns.length) ?_)));cases zl:(decide ((jn:Int)<(ns.length:Int)))
   ·
    have zt:=oF zl;refine eB 4 29 zl (eV 5 30 qF (eG 6 31 (eG 7 32 (eG 8 33 (eG 9 34 (eG 10 35 (eG 11 36 (eG 12 37 (eG 13 38 (eV 14 39 qF (eD0 hs (fun _ zB hs=>tN (cIF (CG.exit ?_))))))))))))));intro a_ ka;replace hs:=(hs.add (K:=fun h_=>RZ h_ (false,sZ,sZ) q) (by rw[hq0 oM];exact rz_nil));exact ⟨_,⟨jn,false,none,0,0,none,0,0,zB,rfl,hs.to _ _,(by have q_:=hpl s (hok oM);rw[if_pos oM,q_.2,hjn];congr 1;exact (lay_pos q_.1 hj hno (by first|(left;omega)|(right;assumption))).symm),oM⟩,ka.to _ kR⟩
   have zt:=oT zl;refine eB 4 29 zl (eV 5 30 qT (eV 6 31 (qS Nm ns.length cN) (eV 7 32 (qP zd 3) (eO 8 33 [(0,3,1)] (iV jn) hs (eX 9 34 Nm ns.length cN 1 jn j ((hs.f.2.1).ok oM) (eH 10 35 (.string (ns.getD j ⟨#[]⟩)) hs ((hs.f.2.1).el j oM) (eV 11 36 (qP b4 5) (eO 12 37 [(2,5,1)] (.string s) hs ?_))))))));cases zm:(strQn (ns.getD j ⟨#[]⟩) s)
   ·
    have zu:=strQn_f zm;refine eB 13 38 zm (eV 14 39 qF (eD0 hs (fun _ zD hs=>tN (cIF (CG.exit ?_)))));intro a_ ka;replace hs:=(hs.add (K:=fun h_=>RZ h_ (false,sZ,sZ) q) (by rw[hq0 oM];exact rz_nil));exact ⟨_,⟨jn,false,none,0,0,none,0,0,zD,rfl,hs.to _ _,(by have q_:=hpl s (hok oM);rw[if_pos oM,q_.2,hjn];congr 1;exact (lay_pos q_.1 hj hno (by first|(left;omega)|(right;assumption))).symm),oM⟩,ka.to _ kR⟩
   have zu:=strQn_t zm;refine eB 13 38 zm (eV 14 39 qT (eD0 hs (fun _ zE hs=>tN (cIT (cK (kZ (kQ (lL hs [.v 40 (qP zd 3),.o 41 (iV jn) 0 3 1] (lI 42 (jn+1) ?_)))))))));refine lL hs [.v 43 (qP zd 3)] (lP 0 3 ([iV (jn+1)]) hs (fun _ hs=>lD ?_));intro a_ ka;refine ⟨_,_,?_,⟨j+1,jn+1,zE,rfl,rfl,hs.to _ _,oM,oM,(fun i hi=>by rcases Nat.lt_succ_iff_lt_or_eq.1 hi with h_|rfl;exact hno i h_;assumption)⟩,ka.to _ kR⟩
   omega
  have zr:=eq_of_beq zj;refine lB 19 zj (lL hs [.m 18 19] (lNIT (kQ (lL hs [.v 20 (qP b4 2),.o 21 (.agg #[.bool bq,qS zA zn zc,qS dA dn dc]) 2 2 3,.v 22 (qP zd 4)] (lP 0 4 ([.bool bq,qS zA zn zc,qS dA dn dc]) hs (fun _ hs=>lD ?_))))));intro a_ ka;replace hs:=(hs.add (K:=fun h_=>RZ h_ (bq,qS zA zn zc,qS dA dn dc) q) hs.f.q.1);exact ⟨_,⟨n,bq,zA,zn,zc,dA,dn,dc,zq,rfl,hs.to _ _,((if_neg oM).symm),oM⟩,ka.to _ kR⟩
 rintro _ _ ⟨nn,qb,qA,qn,qc,qD,qm,qd,zG,rfl,hs,hnn,hnb⟩;refine cQ (cSLlL hs [.v 9 (iV 0)] (lNkZ ?_));replace hs:=hs.add (K:=fun h_=>LaidO pl 0 h_ rl ss (recK (recT pl d) ks l 0).1) (hs.f.2.1);refine cTo _ (CG.loop (fun μ_ Γ w_=>∃ (k:Nat) (srA:Option Addr) (src:Nat) (tl:List RSt) (sl:List OSt) (za:Int) (zb:Int) (h_:Hp),μ_=rs.length-k∧Γ=[(2,qS Nm ns.length cN),(3,pB b1),(4,pB b4),(6,pB b7),(7,iV 0),(8,pB zd),(9,nV k)]∧SS w0 h0 w_ h_ ([⟨zd,102,[iV op,iV za,iV zb,iV nn,.bool qb,qS qA qn qc,qS qD qm qd]⟩,⟨b7,48,[iV 0,sZ,sZ]⟩,⟨b4,33,[iV op,iV n,.bool bq,qS zA zn zc,qS dA dn dc,.string s,qS A rs.length c]⟩,⟨b1,48,[iV inp,qS srA ((tl).length) src,qS O on od]⟩]++B2) ([⟨102,7,srA,src,(tl).length,(tl).flatMap rsc⟩]++R2) ([fun h_=>LaidO pl 0 h_ tl sl (recK (recT pl d) ks l k).1,fun h_=>RZ h_ (qb,qS qA qn qc,qS qD qm qd) q,fun h_=>LaidO pl 0 h_ rl ss l,fun h_=>SlO 1 strc ⟨#[]⟩ h_ Nm ns,fun h_=>Rms d h_ rs ks,fun h_=>SlO 7 rmc rtm0 h_ A rs,fun h_=>RZ h_ (bq,qS zA zn zc,qS dA dn dc) q]++F2)∧k≤rs.length∧za=(recK (recT pl d) ks l k).2.1∧zb=(recK (recT pl d) ks l k).2.2∧((-1000:Int)≤za∧za≤(1000:Int))∧((-1000:Int)≤zb∧zb≤(1000:Int))) _ ⟨0,A0,c0,rl,ss,0,0,zG,rfl,rfl,hs.to _ _,Nat.zero_le _,rfl,rfl,oM⟩ ?_);rintro _ _ _ ⟨k,srA,src,tl,sl,za,zb,_,hm48,rfl,hs,hk,ha1,hb1,hab⟩;refine cQ (cSLlL hs [.m 44 9,.v 45 (qP b4 6),.o 46 (qS A rs.length c) 2 6 1,.v 47 (nV rs.length)] ?_);cases zo:(decide ((k:Int)<(rs.length:Int)))
 ·
  have zv:=oF zo;refine lB 48 zo (lNIF (CG.exit ?_))
  show CG _ _ _ _ _ _ _ _
  refine cSL ?_;have hkn:k=ks.length:=by omega
  have hltl_:=(hs.f.1).len;have hkl3_:=recK_len (pl:=pl) rec_len hW l k oM;have hsm3_:=sumN_mono (fun i=>cntT d (ks.getD i tm0)) (show k≤ks.length by omega);obtain ⟨sl2,hLe⟩:=(hs.f.1).snoc hs.f.2.1 (op:=op) (a:=za) (e:=zb) (n:=nn) oM hab.1 hab.2 hnb hq;have hrT:recT pl (d+1) l (.mk op n q s ks)=(recK (recT pl d) ks l k).1++[⟨op,za,zb,nn,q⟩]:=by rw[ha1,hb1,hnn,hkn];rfl
  have hle_:(tl++[(⟨op,za,zb,nn,(qb,qS qA qn qc,qS qD qm qd)⟩:RSt)]).length=tl.length+1:=by rw[List.length_append];rfl
  replace hs:=hs.add (K:=fun h_=>LaidO pl 0 h_ (tl++[(⟨op,za,zb,nn,(qb,qS qA qn qc,qS qD qm qd)⟩:RSt)]) sl2 (recT pl (d+1) l (.mk op n q s ks))) (by rw[hrT];exact hLe);refine lL hs [.v 68 (qP b1 1),.o 69 (qS srA ((tl).length) src) 3 1 1,.o 70 (.agg #[iV op,iV za,iV zb,iV nn,.bool qb,qS qA qn qc,qS qD qm qd]) 0 0 7] (lR 71 102 1 ([iV op,iV za,iV zb,iV nn,.bool qb,qS qA qn qc,qS qD qm qd]) hs (fun zH _ _ hs=>lY 72 0 102 7 src srA tl rsc (⟨op,za,zb,nn,(qb,qS qA qn qc,qS qD qm qd)⟩:RSt) 88 zH (.agg #[iV 0,iV 0,iV 0,iV 0,qF,sZ,sZ]) hs hs.f.1 (fun zg zi _ _ hs=>lL hs [.v 73 (qP b1 1)] (lP 3 1 ([qS zg ((tl++[(⟨op,za,zb,nn,(qb,qS qA qn qc,qS qD qm qd)⟩:RSt)]).length) zi]) hs (fun _ hs=>lNcQ ?_)))));have hsr:=hs;refine cRz 5 [] [b7] mixed hs al_nil (eO 0 74 [(3,0,3)] (.agg #[iV inp,qS zg ((tl++[(⟨op,za,zb,nn,(qb,qS qA qn qc,qS qD qm qd)⟩:RSt)]).length) zi,qS O on od]) hs (eV 1 75 (qP b1 1) (eOz 2 76 [(3,1,1)] (qS zg ((tl++[(⟨op,za,zb,nn,(qb,qS qA qn qc,qS qD qm qd)⟩:RSt)]).length) zi) hsr hs ?_ (hM:=fun p hp=>by obtain rfl:=List.mem_singleton.1 hp;exact fun hm=>by rcases List.mem_cons.1 hm with e|hm;exact bx_ne hs.st (i:=3) (j:=1) kR kR kR e;cases hm))));refine eV 3 77 (nV ((tl++[(⟨op,za,zb,nn,(qb,qS qA qn qc,qS qD qm qd)⟩:RSt)]).length)) (eI 4 78 (((tl++[(⟨op,za,zb,nn,(qb,qS qA qn qc,qS qD qm qd)⟩:RSt)]).length:Nat)-1) (eD0 hs (fun _ _ hs=>tP 5 1 0 ([iV inp,qS zg ((tl++[(⟨op,za,zb,nn,(qb,qS qA qn qc,qS qD qm qd)⟩:RSt)]).length) zi,qS O on od]) hs (fun _ hs=>?_) (hz:=tlz_mem (List.mem_cons_self)))));refine tV 6 7 (iV (((tl++[(⟨op,za,zb,nn,(qb,qS qA qn qc,qS qD qm qd)⟩:RSt)]).length:Nat)-1)) (tN (kX (hs.retS [(1,0,3)] (.tuple #[.agg #[iV inp,qS zg ((tl++[(⟨op,za,zb,nn,(qb,qS qA qn qc,qS qD qm qd)⟩:RSt)]).length) zi,qS O on od],iV (((tl++[(⟨op,za,zb,nn,(qb,qS qA qn qc,qS qD qm qd)⟩:RSt)]).length:Nat)-1)]) ?_)));exact ⟨zg,zi,tl++[(⟨op,za,zb,nn,(qb,qS qA qn qc,qS qD qm qd)⟩:RSt)],sl2,rfl,hs.f.2.1,(hs.tl.tl.tl.tl.tl.tl.tl.tl.tl.drop 4 0).to _ _⟩
 have zv:=oT zo;refine lB 48 zo (lNIT (cK (cQ (kZ (cSLlL hs [.v 10 (iV 0)] (lNcQ (cR 7 [] mixed hs al_nil ?_)))))));refine eOU 0 52 [7,8,9,10,11,12] [(3,0,3)] (.agg #[iV inp,qS srA ((tl).length) src,qS O on od]) hs (eV 1 53 (qP b4 6) (eOU 2 54 [4,5,7,8,9,10,11,12] [(2,6,1)] (qS A rs.length c) hs (eV 3 55 (nV k) (eX 4 56 A rs.length c 7 (k:Nat) k ((hs.f.q.2.1).ok oM) (eHU 5 57 [7,8,9,10,11,12] (.agg #[iV ((rs.getD k rtm0).op),iV ((rs.getD k rtm0).n),.bool ((rs.getD k rtm0).neg),qS ((rs.getD k rtm0).zA) ((rs.getD k rtm0).zn) ((rs.getD k rtm0).zc),qS ((rs.getD k rtm0).dA) ((rs.getD k rtm0).dn) ((rs.getD k rtm0).dc),.string ((rs.getD k rtm0).s),qS ((rs.getD k rtm0).A) ((rs.getD k rtm0).m) ((rs.getD k rtm0).c)]) hs ((hs.f.q.2.1).el k oM) (eV 6 58 (qS Nm ns.length cN) (eD0 hs (fun _ _ hs=>?_))))))));have hsm_:=sumN_mono (fun i=>cntT d (ks.getD i tm0)) (show k+1≤ks.length by omega);have hs1_:(sumN (fun i=>cntT d (ks.getD i tm0)) (k+1))=(sumN (fun i=>cntT d (ks.getD i tm0)) k)+cntT d (ks.getD k tm0):=rfl;have hkl_:=recK_len (pl:=pl) rec_len hW l k oM;refine tCs 7 59 (ih (rs.getD k rtm0) (ks.getD k tm0) srA src tl sl (recK (recT pl d) ks l k).1 _ _ hs.g ((hs.f.q.1).at_ k oM) hs.f.r.2.1 hs.f.1 (hs.frontR [] ([]++R2) ⟨102,7,srA,src,(tl).length,(tl).flatMap rsc⟩) (hW k oM) oM) ?_;rintro _ _ zx ⟨ze,zf,rl67,ss68,rfl,hLd2,hs⟩;replace hs:=(SS.backR [] ([]++R2) ⟨102,7,ze,zf,(rl67).length,(rl67).flatMap rsc⟩ hs).to ([⟨zd,102,[iV op,iV za,iV zb,iV nn,.bool qb,qS qA qn qc,qS qD qm qd]⟩,⟨b7,48,[iV 0,sZ,sZ]⟩,⟨b4,33,[iV op,iV n,.bool bq,qS zA zn zc,qS dA dn dc,.string s,qS A rs.length c]⟩,⟨b1,48,[iV inp,qS srA ((tl).length) src,qS O on od]⟩]++B2) ([⟨102,7,ze,zf,(rl67).length,(rl67).flatMap rsc⟩]++R2);replace hs:=(hs.add (K:=fun h_=>LaidO pl 0 h_ rl67 ss68 (recT pl d (recK (recT pl d) ks l k).1 (ks.getD k tm0))) hLd2);have hl2_:=(hs.f.1).len;rw[rec_len (hW k oM),hkl_] at hl2_
 refine tV 8 51 (.tuple #[.agg #[iV inp,qS ze ((rl67).length) zf,qS O on od],iV ((rl67.length:Nat)-1)]) (tU 9 60 (.agg #[iV inp,qS ze ((rl67).length) zf,qS O on od]) (tU 10 61 (iV ((rl67.length:Nat)-1)) (tP 11 3 0 ([iV inp,qS ze ((rl67).length) zf,qS O on od]) hs (fun _ hs=>tV 12 10 (iV ((rl67.length:Nat)-1)) (tNS (lL hs [.m 62 9] ?_))))));cases zp:((k:Int) == (0:Int))
 ·
  have zw:=neOfBeq zp;refine lB 63 zp (lNIF (kQ (lL hs [.m 66 10,.v 67 (qP zd 2)] (lP 0 2 ([iV ((rl67.length:Nat)-1)]) hs (fun _ hs=>lN (kQ (lL hs [.m 49 9] (lIn 50 ((k:Nat)+1) (k+1) ?_))))))));refine lL hs [.m 9 50] (lD ?_);intro a_ ka;have zI:((rl67.length:Nat)-1)=(recK (recT pl d) ks l (k+1)).2.2:=(by rw[(hs.f.1).len];exact rK_b1 oM);replace hs:=(hs.tl.tl.add (K:=fun h_=>LaidO pl 0 h_ rl67 ss68 (recK (recT pl d) ks l (k+1)).1) hs.f.1);refine ⟨_,_,?_,⟨k+1,ze,zf,rl67,ss68,za,((rl67.length:Nat)-1),zx,rfl,rfl,hs.to _ _,oM,(rK_a1 ha1 oM),zI,oM⟩,ka.to _ kR⟩
  omega
 have zw:=eq_of_beq zp;refine lB 63 zp (lNIT (kQ (lL hs [.m 64 10,.v 65 (qP zd 1)] (lP 0 1 ([iV ((rl67.length:Nat)-1)]) hs (fun _ hs=>lN (kQ (lL hs [.m 49 9] (lIn 50 ((k:Nat)+1) (k+1) ?_))))))));refine lL hs [.m 9 50] (lD ?_);intro a_ ka;have zJ:((rl67.length:Nat)-1)=(recK (recT pl d) ks l (k+1)).2.1:=(by rw[(hs.f.1).len];exact rK_a0 oM);replace hs:=(hs.tl.tl.add (K:=fun h_=>LaidO pl 0 h_ rl67 ss68 (recK (recT pl d) ks l (k+1)).1) hs.f.1);refine ⟨_,_,?_,⟨k+1,ze,zf,rl67,ss68,((rl67.length:Nat)-1),zb,zx,rfl,rfl,hs.to _ _,oM,zJ,(rK_b0 hb1 oM),oM⟩,ka.to _ kR⟩
 omega
theorem rLayT (ok:ByteArray→Prop)(ns:List ByteArray)(Nm:Option Addr)(cN:Nat)(hln:ns.length≤100)(pl:ByteArray→Int)(hpl:∀ s,ok s→s∈ns∧pl s=(posN ns s:Nat))(inp:Int)(O:Option Addr)(on od:Nat):∀ (d:Nat) (r:RTm) (t:Tm) (A:Option Addr) (c:Nat) (rl:List RSt) (ss:List OSt) (l:List Stp) {w0:World} {h0:Hp} {B2:List Bx} {R2:List Rw} {F2:List (Hp→Prop)} (w:World) (h:Hp),G w h→RmH d h r t→SlO 1 strc ⟨#[]⟩ h Nm ns→LaidO pl 0 h rl ss l→SS w0 h0 w h B2 (⟨102,7,A,c,(rl).length,(rl).flatMap rsc⟩::R2) F2→WfT ok d t→l.length+cntT d t≤1000→Calls Tryz.prog 32 #[.agg #[iV inp,.slice A rl.length c,.slice O on od],rmv r,.slice Nm ns.length cN] w (RetS fun v w1 h1=>∃ A1 c1,∃ rl2:List RSt,∃ ss2:List OSt,v=.tuple #[.agg #[iV inp,.slice A1 rl2.length c1,.slice O on od],iV ((rl2.length:Nat)-1)]∧LaidO pl 0 h1 rl2 ss2 (recT pl d l t)∧SS w0 h0 w1 h1 B2 (⟨102,7,A1,c1,(rl2).length,(rl2).flatMap rsc⟩::R2) F2)
  | 0,_,_,_,_,_,_,_,_,_,_,_,_,_,_,_,x,_,_,_,_,_=>x.elim
  | d+1,r,t,A0,c0,rl,ss,l,w0,h0,B2,R2,F2,w,h,g,x,hN,hL,hs,wf,hl=>by
    obtain ⟨op,n,b,zA,zn,zc,dA,dn,dc,q,s,A,c,rs,ks,rfl,rfl,hZ,hc,hK,hKs⟩:=x.open;have hl2:ks.length≤2:=wf.two;obtain ⟨w1,w2,w3,w4,w5,w6,w7,w8,w9⟩:=wf;exact rLayS ok ns Nm cN hln pl hpl inp O on od d (fun r t A c rl ss l=>@fun w0 h0 B2 R2 F2 w h=>rLayT ok ns Nm cN hln pl hpl inp O on od d r t A c rl ss l w h) op n b zA zn zc dA dn dc q s A c rs ks hc w2 w3 w4 w6 w7 w8 w1 hl2 w9 A0 c0 rl ss l hl w h g hZ hK hKs hN hL hs
section srt
open Go.RowKit Go.Maps Go.Sort Go.Shelf Go.WideShapes
def Tryz.keysZ_ren:Go.Shelf.Ren:=⟨fun|7=>60|10=>98|n=>n,fun|23=>120|26=>9|3=>4|28=>124|0=>0|27=>123|33=>86|4=>4|n=>n,fun|n=>n⟩
theorem Tryz.keysZ:Go.Proofs.SlLaysZ.n7 Tryz.prog Tryz.keysZ_ren:={
  mixed:=by kernel_rfl
  f7:=⟨Tryz.f60.name,by decide,Tryz.func60.trans (congrArg some kR)⟩
  f10:=⟨Tryz.f98.name,by decide,Tryz.func98.trans (congrArg some kR)⟩
  t0:=Tryz.underlying0
  a0:=Tryz.isAgg0
  z0:=Tryz.sizeOf0
  v0:=Tryz.zeroValue0
  t4:=Tryz.underlying4
  a4:=Tryz.isAgg4
  z4:=Tryz.sizeOf4
  v4:=Tryz.zeroValue4
  t23:=Tryz.underlying120
  a23:=Tryz.isAgg120
  z23:=Tryz.sizeOf120
  v23:=Tryz.zeroValue120
  t26:=Tryz.underlying9
  a26:=Tryz.isAgg9
  z26:=Tryz.sizeOf9
  v26:=Tryz.zeroValue9
  t27:=Tryz.underlying123
  a27:=Tryz.isAgg123
  z27:=Tryz.sizeOf123
  v27:=Tryz.zeroValue123
  t28:=Tryz.underlying124
  a28:=Tryz.isAgg124
  z28:=Tryz.sizeOf124
  v28:=Tryz.zeroValue124
  t33:=Tryz.underlying86
  a33:=Tryz.isAgg86
  z33:=Tryz.sizeOf86
  v33:=Tryz.zeroValue86 }
def Tryz.sortedZ_ren:Go.Shelf.Ren:=⟨fun|6=>59|8=>96|9=>97|11=>132|13=>134|12=>133|23=>168|24=>169|14=>159|15=>160|16=>161|17=>162|18=>163|19=>164|20=>165|21=>166|22=>167|25=>192|26=>193|27=>194|28=>195|29=>196|30=>197|31=>210|n=>n,fun|26=>9|28=>124|24=>35|0=>0|3=>3|37=>156|48=>155|50=>53|4=>4|40=>213|39=>212|45=>81|5=>5|9=>9|51=>246|55=>250|57=>256|58=>130|33=>86|n=>n,fun|n=>n⟩
theorem Tryz.sortedZ:Go.Proofs.SlLaysZ.n6 Tryz.prog Tryz.sortedZ_ren:={
  mixed:=by kernel_rfl
  f6:=⟨Tryz.f59.name,by decide,Tryz.func59.trans (congrArg some kR)⟩
  f8:=⟨Tryz.f96.name,by decide,Tryz.func96.trans (congrArg some kR)⟩
  f11:=⟨Tryz.f132.name,by decide,Tryz.func132.trans (congrArg some kR)⟩
  t0:=Tryz.underlying0
  a0:=Tryz.isAgg0
  z0:=Tryz.sizeOf0
  v0:=Tryz.zeroValue0
  t24:=Tryz.underlying35
  a24:=Tryz.isAgg35
  z24:=Tryz.sizeOf35
  v24:=Tryz.zeroValue35
  t26:=Tryz.underlying9
  a26:=Tryz.isAgg9
  z26:=Tryz.sizeOf9
  v26:=Tryz.zeroValue9
  t28:=Tryz.underlying124
  a28:=Tryz.isAgg124
  z28:=Tryz.sizeOf124
  v28:=Tryz.zeroValue124
  i26:=by kernel_rfl }
def Tryz.sortZ_ren:Go.Shelf.Ren:=⟨fun|6=>97|8=>134|9=>133|19=>168|20=>169|21=>159|22=>160|23=>161|24=>162|25=>163|26=>164|27=>165|28=>166|29=>167|36=>192|31=>193|32=>194|37=>195|38=>196|39=>197|41=>210|n=>n,fun|27=>35|29=>9|3=>3|32=>156|26=>35|0=>0|44=>155|46=>53|4=>4|36=>213|35=>212|41=>81|5=>5|9=>9|53=>246|57=>250|63=>256|64=>130|n=>n,fun|n=>n⟩
theorem Tryz.sortZ:Go.Proofs.SlLaysM.n6 Tryz.prog Tryz.sortZ_ren:={
  mixed:=by kernel_rfl
  f6:=⟨Tryz.f97.name,by decide,Tryz.func97.trans (congrArg some kR)⟩
  f8:=Tryz.func134.trans (congrArg some kR)
  f9:=⟨Tryz.f133.name,by decide,Tryz.func133.trans (congrArg some kR)⟩
  f19:=Tryz.func168.trans (congrArg some kR)
  f20:=Tryz.func169.trans (congrArg some kR)
  f21:=⟨Tryz.f159.name,by decide,Tryz.func159.trans (congrArg some kR)⟩
  f22:=⟨Tryz.f160.name,by decide,Tryz.func160.trans (congrArg some kR)⟩
  f23:=⟨Tryz.f161.name,by decide,Tryz.func161.trans (congrArg some kR)⟩
  f24:=⟨Tryz.f162.name,by decide,Tryz.func162.trans (congrArg some kR)⟩
  f25:=⟨Tryz.f163.name,by decide,Tryz.func163.trans (congrArg some kR)⟩
  f26:=⟨Tryz.f164.name,by decide,Tryz.func164.trans (congrArg some kR)⟩
  f27:=⟨Tryz.f165.name,by decide,Tryz.func165.trans (congrArg some kR)⟩
  f28:=⟨Tryz.f166.name,by decide,Tryz.func166.trans (congrArg some kR)⟩
  f29:=⟨Tryz.f167.name,by decide,Tryz.func167.trans (congrArg some kR)⟩
  f31:=Tryz.func193.trans (congrArg some kR)
  f32:=Tryz.func194.trans (congrArg some kR)
  f36:=⟨Tryz.f192.name,by decide,Tryz.func192.trans (congrArg some kR)⟩
  f37:=⟨Tryz.f195.name,by decide,Tryz.func195.trans (congrArg some kR)⟩
  f38:=⟨Tryz.f196.name,by decide,Tryz.func196.trans (congrArg some kR)⟩
  f39:=⟨Tryz.f197.name,by decide,Tryz.func197.trans (congrArg some kR)⟩
  f41:=⟨Tryz.f210.name,by decide,Tryz.func210.trans (congrArg some kR)⟩
  t0:=Tryz.underlying0
  a0:=Tryz.isAgg0
  z0:=Tryz.sizeOf0
  v0:=Tryz.zeroValue0
  t3:=Tryz.underlying3
  a3:=Tryz.isAgg3
  z3:=Tryz.sizeOf3
  v3:=Tryz.zeroValue3
  t4:=Tryz.underlying4
  a4:=Tryz.isAgg4
  z4:=Tryz.sizeOf4
  v4:=Tryz.zeroValue4
  t5:=Tryz.underlying5
  a5:=Tryz.isAgg5
  z5:=Tryz.sizeOf5
  v5:=Tryz.zeroValue5
  t9:=Tryz.underlying9
  a9:=Tryz.isAgg9
  z9:=Tryz.sizeOf9
  v9:=Tryz.zeroValue9
  t26:=Tryz.underlying35
  a26:=Tryz.isAgg35
  z26:=Tryz.sizeOf35
  v26:=Tryz.zeroValue35
  t27:=Tryz.underlying35
  a27:=Tryz.isAgg35
  z27:=Tryz.sizeOf35
  v27:=Tryz.zeroValue35
  t29:=Tryz.underlying9
  a29:=Tryz.isAgg9
  z29:=Tryz.sizeOf9
  v29:=Tryz.zeroValue9
  t32:=Tryz.underlying156
  a32:=Tryz.isAgg156
  z32:=Tryz.sizeOf156
  v32:=Tryz.zeroValue156
  t35:=Tryz.underlying212
  a35:=Tryz.isAgg212
  z35:=Tryz.sizeOf212
  v35:=Tryz.zeroValue212
  t36:=Tryz.underlying213
  a36:=Tryz.isAgg213
  z36:=Tryz.sizeOf213
  v36:=Tryz.zeroValue213
  t41:=Tryz.underlying81
  a41:=Tryz.isAgg81
  z41:=Tryz.sizeOf81
  v41:=Tryz.zeroValue81
  t44:=Tryz.underlying155
  a44:=Tryz.isAgg155
  z44:=Tryz.sizeOf155
  v44:=Tryz.zeroValue155
  t46:=Tryz.underlying53
  a46:=Tryz.isAgg53
  z46:=Tryz.sizeOf53
  v46:=Tryz.zeroValue53
  t53:=Tryz.underlying246
  a53:=Tryz.isAgg246
  z53:=Tryz.sizeOf246
  v53:=Tryz.zeroValue246
  t57:=Tryz.underlying250
  a57:=Tryz.isAgg250
  z57:=Tryz.sizeOf250
  v57:=Tryz.zeroValue250
  t63:=Tryz.underlying256
  a63:=Tryz.isAgg256
  z63:=Tryz.sizeOf256
  v63:=Tryz.zeroValue256
  t64:=Tryz.underlying130
  a64:=Tryz.isAgg130
  z64:=Tryz.sizeOf130
  v64:=Tryz.zeroValue130 }
theorem srt_sorts (m:Nat):AnyZ.SortsIn Tryz.prog Tryz.sortedZ_ren Fence.wide m :=
  ⟨fun blk off cap ss W hH hblk hsz=>callsIn_wide.2 (AnyM.slices_Sort_string Tryz.sortZ blk off cap ss W hH hblk hsz),fun p cap W=>callsIn_wide.2 (AnyM.slices_Sort_string_none Tryz.sortZ p cap W)⟩
theorem srt_keys (mb:Option Nat)(W:World):CallsIn Fence.wide 5 Tryz.prog 60 #[.map mb] W fun e w'=>e=.returned (.func (.func 98) #[] #[.pointer (some ⟨W.heap.size,0,none⟩)])∧w'=W.alloc (.cells #[.map mb] 120) :=
  AnyZ.keys_in Tryz.keysZ Fence.wide 5 trivial rfl mb W
theorem srt_sorted {H:Type}(b nn:Nat)(D0:DataW H)(R:Value→Option (DataW H × List MemPlace))(w:World)(hown:w.ownsMap Tryz.prog 9 R b nn D0)(hmax:Maps.size D0≤maxLen)(hbytes:Maps.size D0*16≤140737488355328) :
    CallsIn Fence.wide 5 Tryz.prog 59 #[.func (.func 98) #[] #[.pointer (some ⟨w.heap.size,0,none⟩)]] (w.alloc (.cells #[.map (some b)] 120)) fun e w'=>∃ (v:Value) (ss:List (List UInt8)),e=.returned v∧ss.Perm (strKeys D0) ∧
      w'.ownsRow (w.alloc (.cells #[.map (some b)] 120)).heap.size 9 1 v ss.length ((ss.mergeSort (fun x y=>decide (x≤y))).map encStr)∧(v=.slice none 0 0↔ss=[])∧Below (w.alloc (.cells #[.map (some b)] 120)).heap.size (w.alloc (.cells #[.map (some b)] 120)) w':=by
  have hbl:=hown.lt
  have hseq:SeqGives Fence.wide 2 Tryz.prog 98 #[.pointer (some ⟨w.heap.size,0,none⟩)] encStr (fun ss=>ss.Perm (strKeys D0)) (Maps.size D0) (w.alloc (.cells #[.map (some b)] 120)) :=
    AnyZ.keys_gives (ρ:=Tryz.keysZ_ren) { Tryz.keysZ with } Fence.wide _ trivial rfl oM w.heap.size b nn D0 _ (by simp) (by simp) (by
      obtain ⟨es,clock,hb,Ft,hs,hD⟩:=hown;exact ⟨es,clock,(Below.heap_alloc _ _ b hbl).trans hb,Ft,hs,hD⟩)
  exact AnyZ.sorted_in Tryz.sortedZ Fence.wide 5 trivial trivial trivial trivial rfl oM (srt_sorts _) (enters_of Tryz.func97 kR rfl) 98 #[.pointer (some ⟨w.heap.size,0,none⟩)] trivial (enters_of Tryz.func98 kR rfl) _ _ hmax hbytes _ hseq
section
variable {P:Program} {k:TypeId} (hk:P.underlying k=some .string)
def RU (_:Value):Option (DataW Unit × List MemPlace):=some (.nil,[])
theorem kes_rd (hk:P.underlying k=some .string){ss:List ByteArray}(hs:∀ s∈ss,s.size≤maxLen){e:MapEntry}(he:e∈kes ss):∃ s∈ss,WideElems.rd P k RU e=some (.string s.data.toList,.nil)∧e.key=.string s:=by
  obtain ⟨j,s,hj,rfl⟩:=kes_mem he;have hm:s∈ss:=List.mem_iff_getElem?.2 ⟨j,hj⟩;refine ⟨s,hm,?_,rfl⟩
  have h1:keyOf P k (.string s)=some (.string s.data.toList):=by
    have:=hs s hm
    simp[keyOf,hk,mapKey,this]
  unfold WideElems.rd
  rw[h1];rfl
theorem kes_stamped {ss:List ByteArray}(hn:ss.Nodup):MapKept.Stamped (kes ss).toArray ss.length:=by
  refine ⟨fun x hx=>?_,?_,?_⟩
  · obtain ⟨j,s,hj,rfl⟩:=kes_mem (by simpa using hx)
    exact (List.getElem?_eq_some_iff.1 hj).1
  · have e:(kes ss).map (·.born)=List.range ss.length:=by
      apply List.ext_getElem
      · simp[kes]
      · intro i h1 h2;simp[kes]
    show ((kes ss).map (·.born)).Nodup
    rw[e];exact List.nodup_range
  · have e:(kes ss).map (·.key)=ss.map Value.string:=by
      apply List.ext_getElem
      · simp[kes]
      · intro i h1 h2;simp[kes]
    show ((kes ss).map (·.key)).Nodup
    rw[e];exact List.Pairwise.map _ (fun a b h e=>h (Value.string.inj e)) hn
theorem kes_own (hk:P.underlying k=some .string){w:World}{b:Nat}{ss:List ByteArray}(hb:w.heap[b]?=some (.map (kes ss).toArray ss.length))(hn:ss.Nodup)(hs:∀ s∈ss,s.size≤maxLen)(hl:ss.length≤1048576) :
    ∃ D:DataW Unit,w.ownsMap P k RU b ss.length D∧(strKeys D).Perm (ss.map fun s=>s.data.toList)∧Maps.size D≤1048576:=by
  have hlen:(kes ss).length=ss.length:=by simp[kes]
  refine ⟨.map (((kes ss).map (WideElems.rg P k RU)).foldr DataW.insert []),⟨(kes ss).toArray,ss.length,hb,⟨?_,kes_stamped hn,fun x hx=>?_⟩,?_,rfl⟩,?_,?_⟩
  · show (kes ss).toArray.size≤maxLen
    rw[List.size_toArray,hlen];unfold maxLen;omega
  · obtain ⟨s,_,h,_⟩:=kes_rd (P:=P) hk hs (by simpa using hx)
    exact ⟨_,h⟩
  · rw[List.size_toArray,hlen];exact Nat.le_refl _
  · show ((((kes ss).map (WideElems.rg P k RU)).foldr DataW.insert []).map fun p=>strOf p.1).Perm _
    refine ((sorted_perm _).map _).trans (List.Perm.of_eq ?_);rw[List.map_map]
    apply List.ext_getElem
    · simp[hlen]
    · intro i h1 h2
      have hi:i<(kes ss).length:=by simpa using h1
      obtain ⟨s,hs2,hr,hkey⟩:=kes_rd (P:=P) hk hs (List.getElem_mem hi);obtain ⟨s',h3,h4⟩:=kes_at (List.getElem?_eq_getElem hi);rw[List.getElem_map,List.getElem_map];rw[h4] at hkey
      injection hkey with hkey
      subst hkey
      show strOf (((WideElems.rd P k RU (kes ss)[i]).getD (.bool false,.nil)).1)=_
      rw[hr]
      show s'.data.toList=_
      rw[List.getElem?_eq_getElem oM] at h3
      rw[Option.some.inj h3]
  · show Maps.size (.map _)≤_
    rw[Maps.size_eq,(sorted_perm _).length_eq,List.length_map,hlen];exact hl
end
theorem lift_new2 {w w':World}{h:Hp}(g:G w h)(x:Ext w w'):∃ h',Up w h w' h'∧∀ b,h.size≤b→h'[b]?=w'.heap[b]?:=by
  have hs:=x.size;have e0:=g.size
  have key:∀ b,h.size≤b→(h++w'.heap.extract h.size w'.heap.size)[b]?=w'.heap[b]?:=fun b hb=>by
    rw[Array.getElem?_append_right hb,Array.getElem?_extract]
    by_cases hl:b<w'.heap.size
    · rw[if_pos oM];congr 1;omega
    · rw[if_neg oM,Array.getElem?_eq_none oM]
  refine ⟨h++w'.heap.extract h.size w'.heap.size,⟨x,⟨by simp,fun b hb=>Array.getElem?_append_left hb⟩,⟨by simp;omega,fun b=>?_⟩⟩,key⟩
  rcases Nat.lt_or_ge b h.size with hb|hb
  · rw[Array.getElem?_append_left hb]
    have e:=Below.block x b oM
    rcases g.blk b with h1|h1
    · exact .inl (h1.trans e.symm)
    · exact .inr h1
  · exact .inl (key b hb)
theorem tNames (ok:ByteArray→Prop)(hok:∀ s,ok s→s.size≤1000)(d:Nat)(hd:d≤20)(p:PTm)(t:Tm)(w:World)(h:Hp)(g:G w h)(hT:TmH d h p t)(hW:WfT ok d t):CR 23 #[ptv p] w h (fun v h1=>∃ (A:Option Addr) (c:Nat) (ss:List ByteArray),v=.slice A ss.length c∧ss.length≤c∧ss.length≤1048576∧SlO 1 strc ⟨#[]⟩ h1 A ss∧∀ x,x∈ss↔HasN d t x):=by
  refine (callsIn_wide (n:=6)).1 (callsIn_of_wp Tryz.func23 rfl trivial ?_ rfl)
  simp only[Tryz.ntmps23,List.size_toArray,List.length_cons,List.length_nil,Nat.reduceAdd,Nat.reduceSub,Array.replicate_succ,Array.replicate_zero,List.push_toArray,List.append_toArray,List.nil_append,List.cons_append]
  unfold ptv
  have hfK:Fence.wide.fn 58:=trivial;have hf2:Fence.wide.fn 60:=trivial;have hf3:Fence.wide.fn 59:=trivial
  have hg2:∀ o:Obj,G ((w.alloc o).alloc (.map #[] 0)) ((h.push junk).push junk)∧MapK ((w.alloc o).alloc (.map #[] 0)) ((h.push junk).push junk) (w.heap.size+1) []∧TmH d ((h.push junk).push junk) p t:=fun o=>by
    have u1:Up w h (w.alloc o) (h.push junk):=Up.allocAny g o junk (.inr rfl);have u2:Up (w.alloc o) (h.push junk) ((w.alloc o).alloc (.map #[] 0)) ((h.push junk).push junk):=Up.allocAny u1.g _ _ (.inr rfl);refine ⟨u2.g,⟨?_,?_,List.nodup_nil⟩,(hT.gw u1.gr.gw).gw u2.gr.gw⟩
    · rw[show w.heap.size+1=(h.push junk).size by rw[Array.size_push,g.size]];exact Array.getElem?_push_size
    · rw[heap_alloc,show w.heap.size+1=(w.alloc o).heap.size by simp];exact Array.getElem?_push_size
  have hsz:∀ s,HasN d t s→s.size≤maxLen:=fun s hs=>by have:=hok s (wf_has hW hs);unfold maxLen;omega
  have hcn:=cnt_le hW;have hp2:2^d≤1048576:=Nat.le_trans (Nat.pow_le_pow_right oM hd) kD;have hmm:=@run_makeMap Tryz.prog
  gi_wp2
  gi_at_call 58
  generalize hW2:(w.alloc _).alloc (.map #[] 0)=W2
  have q:=hg2 (.cells #[iV p.op,iV p.n,.bool (ineg p.q.num),uV (lo (iabs p.q.num)),.string (hi (iabs p.q.num)),uV (lo (qd p.q)),.string (hi (qd p.q)),.string p.s,qS p.A p.m p.c] 61);rw[hW2] at q
  clear hg2
  have cg:=(callsIn_wide (n:=5)).2 (tGather ok d p t (w.heap.size+1) [] W2 _ q.1 q.2.2 hW q.2.1)
  unfold ptv at cg
  refine cg.mono ?_
  clear cg
  rintro e w' ⟨v,h3,rfl,um,rfl,ss,ho,hn,hss,hl⟩;have hss2:∀ x,x∈ss↔HasN d t x:=fun x=>by rw[hss x];simp
  have hl2:ss.length≤1048576:=by have:=(show ss.length≤0+cntT d t from hl);omega
  have hszw:w.heap.size+2=W2.heap.size:=by rw[←hW2];simp
  have hb2:Go.RowKit.Below w.heap.size w W2:=by rw[←hW2];exact ((Below.refl _ w).alloc (nR _) _).alloc (by simp) _
  have hb1:Go.RowKit.Below w.heap.size w w':=⟨um.mo.os.trans hb2.os,um.mo.tape.trans hb2.tape,um.mo.output.trans hb2.output,Nat.le_trans hb2.size um.mo.size,fun c hc=>(um.mo.blk c oM (fun hm=>by rw[List.mem_singleton] at hm;omega)).trans (hb2.block c hc)⟩
  clear hss hW2
  obtain ⟨D,hD1,hD2,hD3⟩:=kes_own (P:=Tryz.prog) (k:=9) Tryz.underlying9 ho hn (fun s h_=>hsz s ((hss2 s).1 h_)) hl2
  gi_wp2
  gi_at_call 60
  refine (srt_keys _ _).mono ?_;rintro e w'' ⟨rfl,rfl⟩
  gi_wp2
  gi_at_call 59
  refine (srt_sorted (w.heap.size+1) ss.length D RU w' hD1 (by unfold maxLen;omega) oM).mono ?_;rintro e w3 ⟨v,zs,rfl,hz1,hz2,-,hz3⟩;have hbw:=hb1.size;have hb3:Ext w w3:=(hb1.alloc hbw _).trans (hz3.mono (by simp;omega));obtain ⟨h',u,key⟩:=lift_new2 g hb3
  have hzl:∀ x:ByteArray,x∈((zs.mergeSort fun x y=>decide (x≤y)).map fun z=>(⟨z.toArray⟩:ByteArray))↔HasN d t x:=fun x=>by
    rw[←hss2 x,List.mem_map]
    constructor
    · rintro ⟨z,hz,rfl⟩
      have h1:=(hz1.trans hD2).mem_iff.1 ((List.mergeSort_perm zs _).mem_iff.1 hz);obtain ⟨s,hs,e⟩:=List.mem_map.1 h1;have:s=⟨z.toArray⟩:=by cases s;rename_i a;simp at e;subst e;rfl
      rw[←this];exact hs
    · intro hx
      refine ⟨x.data.toList,(List.mergeSort_perm zs _).mem_iff.2 ((hz1.trans hD2).mem_iff.2 (List.mem_map.2 ⟨x,hx,rfl⟩)),?_⟩;cases x;simp
  have hzn:((zs.mergeSort fun x y=>decide (x≤y)).map fun z=>(⟨z.toArray⟩:ByteArray)).length=zs.length:=by rw[List.length_map,(List.mergeSort_perm zs _).length_eq]
  have hzs:zs.length≤1048576:=by rw[(hz1.trans hD2).length_eq,List.length_map];exact hl2
  gi_wp2
  go_ret
  generalize hzz:((zs.mergeSort fun x y=>decide (x≤y)).map fun z=>(⟨z.toArray⟩:ByteArray))=zz at hzl hzn
  refine ⟨v,h',rfl,u,?_⟩
  rcases hz2 with ⟨-,⟨rfl,hz⟩|⟨gb,cap,cur,rfl,hbase,hgb,r1,-,-,r4⟩⟩
  · have:zz=[]:=List.eq_nil_of_length_eq_zero oM
    subst this;refine ⟨none,0,[],rfl,nR _,by simp,SlO.nil,fun x=>hzl x⟩
  · refine ⟨sB gb,cap,zz,by rw[hzn],by omega,by omega,SlO.of_flat (sz:=1) (f:=strc) (d:=⟨#[]⟩) (b:=gb) (o:=0) (fun _=>rfl) fun i v hv=>?_,hzl⟩
    have hf:zz.flatMap strc=(zs.mergeSort fun x y=>decide (x≤y)).map encStr:=by
      rw[←hzz]
      generalize (zs.mergeSort fun x y=>decide (x≤y))=q
      induction q with
      | nil=>rfl
      | cons a l ih=>rw[List.map_cons,List.map_cons,List.flatMap_cons,ih];rfl
    rw[hf,←r4,Nat.mul_one] at hv
    have hv2:cur.toList[i]?=some v:=by
      rw[List.getElem?_take] at hv
      split at hv
      · exact hv
      · cases hv
    have hgs:h.size≤gb:=by have:=g.size;simp at hbase;omega
    unfold hcell
    rw[key gb hgs,hgb,Nat.zero_add]
    show cur[i]?=some v
    rw[←Array.getElem?_toList];exact hv2
end srt
def CkOk (isb:ByteArray→Bool)(d:Nat)(t:Tm):Prop:=WfT (fun s=>isb s=true) d t∧wgt d t≤1000
def NmIn (dec:ByteArray→Bool)(d:Nat)(t:Tm):Prop:=∀ s,HasN d t s→dec s=true
structure OfR (isb dec:ByteArray→Bool) (pl:ByteArray→Int) (d n:Nat) (e0:Int) (ts:List Tm) (e inp:Int) (l:List Stp) (os:List Int):Prop where
  how:(e0≠0∧e=e0)∨(e0=0∧∃ k,k<ts.length∧(∀ i,i<k→CkOk isb d (ts.getD i tm0)∧NmIn dec d (ts.getD i tm0))∧((¬CkOk isb d (ts.getD k tm0)∧e=1)∨(CkOk isb d (ts.getD k tm0)∧¬NmIn dec d (ts.getD k tm0)∧e=11)))∨(e0=0∧(∀ i,i<ts.length→CkOk isb d (ts.getD i tm0)∧NmIn dec d (ts.getD i tm0))∧e=chkTp (n:Nat) (allS pl d ts ts.length) (allO pl d ts ts.length))
  bad:e≠0→inp=0∧l=[]∧os=[]
  ok:e=0→inp=(n:Nat)∧l=allS pl d ts ts.length∧os=allO pl d ts ts.length
section
variable {isb dec:ByteArray→Bool} {pl:ByteArray→Int} {d n:Nat} {e0:Int} {ts:List Tm} {e inp:Int} {l:List Stp} {os:List Int}
theorem OfR.call (h:e0≠0)(h1:inp=0)(h2:l=[])(h3:os=[]):OfR isb dec pl d n e0 ts e0 inp l os:=⟨.inl ⟨h,rfl⟩,fun _=>⟨h1,h2,h3⟩,fun x=>absurd x h⟩
theorem OfR.no {k:Nat}(h:e0=0)(hk:k<ts.length)(ho:∀ i,i<k→CkOk isb d (ts.getD i tm0)∧NmIn dec d (ts.getD i tm0))(hb:(¬CkOk isb d (ts.getD k tm0)∧e=1)∨(CkOk isb d (ts.getD k tm0)∧¬NmIn dec d (ts.getD k tm0)∧e=11))(h1:inp=0)(h2:l=[])(h3:os=[]):OfR isb dec pl d n e0 ts e inp l os :=
  ⟨.inr (.inl ⟨h,k,hk,ho,hb⟩),fun _=>⟨h1,h2,h3⟩,fun x=>by rcases hb with ⟨_,y⟩|⟨_,_,y⟩<;>omega⟩
theorem OfR.chk {N:Nat}(h:e0=0)(hN:N=ts.length)(ho:∀ i,i<N→CkOk isb d (ts.getD i tm0)∧NmIn dec d (ts.getD i tm0))(he:e=chkTp (n:Nat) (allS pl d ts ts.length) (allO pl d ts ts.length))(hz:e≠0)(h1:inp=0)(h2:l=[])(h3:os=[]):OfR isb dec pl d n e0 ts e inp l os :=
  ⟨.inr (.inr ⟨h,fun i hi=>ho i oM,he⟩),fun _=>⟨h1,h2,h3⟩,fun x=>absurd x hz⟩
theorem OfR.fine {N:Nat}(h:e0=0)(hN:N=ts.length)(ho:∀ i,i<N→CkOk isb d (ts.getD i tm0)∧NmIn dec d (ts.getD i tm0))(he:chkTp (n:Nat) (allS pl d ts ts.length) (allO pl d ts ts.length)=0)(h1:inp=(n:Nat))(h2:l=allS pl d ts ts.length)(h3:os=allO pl d ts ts.length):OfR isb dec pl d n e0 ts 0 inp l os :=
  ⟨.inr (.inr ⟨h,fun i hi=>ho i oM,he.symm⟩),fun x=>absurd rfl x,fun _=>⟨h1,h2,h3⟩⟩
theorem OfR.eq {e' inp':Int}{l':List Stp}{os':List Int}(x:OfR isb dec pl d n e0 ts e inp l os)(y:OfR isb dec pl d n e0 ts e' inp' l' os'):e=e'∧inp=inp'∧l=l'∧os=os':=by
  have he : e=e':=by
    rcases x.how with ⟨a1,a2⟩|⟨a1,k,a2,a3,a4⟩|⟨a1,a2,a3⟩
    · rcases y.how with ⟨b1,b2⟩|⟨b1,_⟩|⟨b1,_⟩
      · omega
      · exact absurd b1 a1
      · exact absurd b1 a1
    · rcases y.how with ⟨b1,_⟩|⟨b1,k',b2,b3,b4⟩|⟨b1,b2,b3⟩
      · exact absurd a1 b1
      · have hk:k=k':=by
          rcases Nat.lt_trichotomy k k' with h|h|h
          · have:=b3 k h
            rcases a4 with ⟨p,_⟩|⟨_,p,_⟩
            · exact absurd this.1 p
            · exact absurd this.2 p
          · exact h
          · have:=a3 k' h
            rcases b4 with ⟨p,_⟩|⟨_,p,_⟩
            · exact absurd this.1 p
            · exact absurd this.2 p
        subst hk
        rcases a4 with ⟨p,p1⟩|⟨p,_,p1⟩<;>rcases b4 with ⟨q,q1⟩|⟨q,_,q1⟩<;>first|omega|exact absurd p q|exact absurd q p
      · have:=b2 k a2
        rcases a4 with ⟨p,_⟩|⟨_,p,_⟩
        · exact absurd this.1 p
        · exact absurd this.2 p
    · rcases y.how with ⟨b1,_⟩|⟨b1,k',b2,b3,b4⟩|⟨b1,b2,b3⟩
      · exact absurd a1 b1
      · have:=a2 k' b2
        rcases b4 with ⟨p,_⟩|⟨_,p,_⟩
        · exact absurd this.1 p
        · exact absurd this.2 p
      · omega
  subst he
  by_cases z:e=0
  · obtain ⟨a1,a2,a3⟩:=x.ok z;obtain ⟨b1,b2,b3⟩:=y.ok z
    exact ⟨rfl,by omega,a2.trans b2.symm,a3.trans b3.symm⟩
  · obtain ⟨a1,a2,a3⟩:=x.bad z;obtain ⟨b1,b2,b3⟩:=y.bad z
    exact ⟨rfl,by omega,a2.trans b2.symm,a3.trans b3.symm⟩
end
theorem nb_f {b:Bool}(h:(!b)=false):b=true:=by cases b<;>first|rfl|cases h
theorem nb_t {b:Bool}(h:(!b)=true):b=false:=by cases b<;>first|rfl|cases h
theorem mem_at {l:List ByteArray}{k:Nat}(h:k<l.length):l.getD k ⟨#[]⟩∈l:=by
  rw[List.getD_eq_getElem?_getD,List.getElem?_eq_getElem h];exact List.getElem_mem h
theorem mem_at2 {l:List ByteArray}{s:ByteArray}(h:s∈l):∃ i,i<l.length∧l.getD i ⟨#[]⟩=s:=by
  obtain ⟨i,hi,e⟩:=List.mem_iff_getElem.1 h;exact ⟨i,hi,by rw[List.getD_eq_getElem?_getD,List.getElem?_eq_getElem hi];exact e⟩
theorem ck_ok {isb:ByteArray→Bool}{d:Nat}{t:Tm}{e:Int}(h:(WfT (fun s=>isb s=true) d t∧e=(if 1000<wgt d t then 18 else 0))∨(¬WfT (fun s=>isb s=true) d t∧e=2))(z:e=0):WfT (fun s=>isb s=true) d t∧wgt d t≤1000:=by
  rcases h with ⟨h1,h2⟩|⟨h1,h2⟩
  · refine ⟨h1,?_⟩
    split at h2<;>omega
  · omega
theorem ck_no {isb:ByteArray→Bool}{d:Nat}{t:Tm}{e:Int}(h:(WfT (fun s=>isb s=true) d t∧e=(if 1000<wgt d t then 18 else 0))∨(¬WfT (fun s=>isb s=true) d t∧e=2))(z:CkOk isb d t):e=0:=by
  rcases h with ⟨h1,h2⟩|⟨h1,h2⟩
  · rw[h2,if_neg (by have:=z.2;omega)]
  · exact absurd z.1 h1
theorem lk_has {s:ByteArray}{es:List MapEntry}{v:Value}{b:Bool}{z:Prop}(h:(∃ i,Instr.findNow .string (.string s) es 0=some (some (i,v))∧b=true)∨(Instr.findNow .string (.string s) es 0=some none∧b=false∧z))(hb:b=true):∃ i,Instr.findNow .string (.string s) es 0=some (some (i,v)):=by
  rcases h with ⟨i,h,_⟩|⟨_,h,_⟩
  · exact ⟨i,h⟩
  · rw[hb] at h;cases h
theorem sum_cnt {ok:ByteArray→Prop}{d:Nat}(hd:d≤12){ts:List Tm}{k:Nat}(hk:k≤10)(hw:∀ i,i<k→WfT ok d (ts.getD i tm0)):sumN (fun i=>cntT d (ts.getD i tm0)) k≤40960:=by
  have h2:2^d≤4096:=Nat.le_trans (Nat.pow_le_pow_right oM hd) kD;have:=sumN_le (f:=fun i=>cntT d (ts.getD i tm0)) (b:=4096) k (fun i hi=>by have:=cnt_le (hw i hi);show cntT d _≤_;omega)
  omega
theorem tOf  (A:Option Addr)(c:Nat)(ps:List PTm)(ts:List Tm)(Nm:Option Addr)(cN:Nat)(ns:List ByteArray)(d:Nat)(hd:d≤12)(hlt:ps.length≤10)(hln:ns.length≤10)(isb:ByteArray→Bool)(sm:ByteArray→Prop)(hIs:∀ s,sm s→∀ (w:World) (h:Hp),G w h→Calls Tryz.prog 54 #[.string s] w (Ret w h (fun v _=>∃ b,v=.bool b∧b=isb s)))(hsm:∀ s,isb s=true→s.size≤1000)(hS:∀ i,i<ts.length→SmT sm d (ts.getD i tm0))(pl:ByteArray→Int)(dec:ByteArray→Bool)(es:List MapEntry)(hpl:∀ s,isb s=true→0≤pl s∧pl s≤1000)(hlk:∀ s,isb s=true→(∃ i,Instr.findNow .string (.string s) es 0=some (some (i,iV (pl s)))∧dec s=true)∨(Instr.findNow .string (.string s) es 0=some none∧dec s=false∧pl s=0))(nm:Int→ByteArray)(hnm:∀ s,isb s=true→dec s=true→nmOk nm pl (ns.length:Nat) s)(e0:Int)(hCall:∀ (w:World) (h:Hp),G w h→SlO 1 strc ⟨#[]⟩ h Nm ns→Calls Tryz.prog 20 #[.slice Nm ns.length cN] w (Ret w h (fun v _=>v=iV e0)))(hPl:e0=0→∀ (w:World) (h:Hp),G w h→SlO 1 strc ⟨#[]⟩ h Nm ns→Calls Tryz.prog 21 #[.slice Nm ns.length cN] w (Ret w h (fun v h1=>∃ b,v=.map (some b)∧MapS h1 b es)))(w:World)(h:Hp)(g:G w h)(hA:SlO 9 ptc ptm0 h A ps)(hT:Tms d h ps ts)(hN:SlO 1 strc ⟨#[]⟩ h Nm ns):CR 8 #[.slice A ps.length c,.slice Nm ns.length cN] w h (fun v h1=>∃ (e inp:Int) (A:Option Addr) (c:Nat) (l:List Stp) (O:Option Addr) (c2:Nat) (os:List Int),v=.tuple #[.agg #[iV inp,.slice A l.length c,.slice O os.length c2],iV e]∧SlO 9 stc stp0 h1 A l∧Si O os h1∧OfR isb dec pl d ns.length e0 ts e inp l os):=by
 have hs:=((((sS g).aS hA).add (K:=fun h_=>Tms d h_ ps ts) hT).aS hN);have hlpt:=(hs.f.2.1).len;have hd2:2^d≤4096:=Nat.le_trans (Nat.pow_le_pow_right oM hd) kD;refine go Tryz.func8 [(0,qS A ps.length c),(1,qS Nm ns.length cN)] rfl (cSL (lA 4 40 ([iV 0,sZ,sZ]) hs (fun b1 w2 h3 hs=>lL hs [.v 5 (iV 0)] (lNcQ (cSLlL hs [.m 19 0,.v 20 (nV ps.length)] ?_)))));cases hb4:(decide ((300:Int)<(ps.length:Int)))
 ·
  have phb4:=oF hb4;refine lB 21 hb4 (lL hs [.m 22 21,.m 23 1,.v 24 (nV ns.length)] ?_);cases hb5:(decide ((300:Int)<(ns.length:Int)))
  ·
   have phb5:=oF hb5;refine lB 25 hb5 (lL hs [.v 26 qF] (lNIF (cK (cQ (cSLlL hs [.m 28 1] (lCval 29 hs (hCall _ _ hs.g hs.f.1) (fun w6 h7 hs=>lL hs [.m 6 29] (lNS (lL hs [.m 30 6] ?_)))))))));cases hb8:((e0:Int) != (0:Int))
   ·
    have phb8:=eqOfBne hb8;refine lB 31 hb8 (lNIF (cK (cSLlL hs [.m 34 1] (lC 35 hs (hPl oM _ _ hs.g hs.f.1) ?_))));rintro _ w9 zu hs ⟨bm,rfl,hM⟩;replace hs:=(hs.add (K:=fun h_=>MapS h_ bm es) hM);refine lL hs [.m 7 35] (lNS (lL hs [.v 8 (iV 0)] (lNcQ (cSLlL hs [.m 36 0,.v 37 (nV ps.length),.v 38 (iV 0)] (lNkZ ?_)))));refine cTo _ (CG.loop (fun μ_ Γ w_=>∃ (k:Nat) (h_:Hp),μ_=ps.length-k∧Γ=[(0,qS A ps.length c),(1,qS Nm ns.length cN),(4,pB b1),(7,.map (some bm)),(36,qS A ps.length c),(37,nV ps.length),(38,nV k),(8,nV (sumN (fun i=>cntT d (ts.getD i tm0)) k))]∧SS w h w_ h_ [⟨b1,40,[iV 0,sZ,sZ]⟩] [] [fun h_=>MapS h_ bm es,fun h_=>SlO 1 strc ⟨#[]⟩ h_ Nm ns,fun h_=>Tms d h_ ps ts,fun h_=>SlO 9 ptc ptm0 h_ A ps]∧k≤ps.length∧(∀ i,i<k→CkOk isb d (ts.getD i tm0)∧NmIn dec d (ts.getD i tm0))) _ ⟨0,zu,rfl,rfl,hs.to _ _,Nat.zero_le _,(fun i hi=>absurd hi (Nat.not_lt_zero i))⟩ ?_);rintro _ _ _ ⟨k,_,hm13,rfl,hs,hk,hok1⟩;have hsb:=sum_cnt (d:=d) (hd:=hd) (ts:=ts) (k:=k) oM (fun i hi=>(hok1 i hi).1.1);have hs1_:(sumN (fun i=>cntT d (ts.getD i tm0)) (k+1))=(sumN (fun i=>cntT d (ts.getD i tm0)) k)+cntT d (ts.getD k tm0):=rfl;refine cSL ?_;cases zb:(decide ((k:Int)<(ps.length:Int)))
    ·
     have zl:=oF zb;refine lB 39 zb (lNcQ (cIF (CG.exit ?_)))
     show CG _ _ _ _ _ _ _ _
     refine cQ (cSLlL hs [.m 68 8] ?_);cases zc:(decide ((65536:Int)<(((sumN (fun i=>cntT d (ts.getD i tm0)) k):Nat):Int)))
     ·
      have zm:=oF zc;refine lB 69 zc (lNIF (cK (cSLlL hs [.m 71 1,.v 72 (nV ns.length),.v 73 (.agg #[nV ns.length,sZ,sZ])] (lA 15 40 ([iV 0,sZ,sZ]) hs (fun za _ zv hs=>lP 0 0 ([nV ns.length,sZ,sZ]) hs (fun _ hs=>lNcQ (cSLlL hs [.m 74 0,.v 75 (nV ps.length),.v 76 (iV 0)] (lNkZ ?_))))))));replace hs:=hs.nil 3 1;replace hs:=hs.nil 99 9;refine cTo [(4,pB b1),(7,.map (some bm)),(15,pB za),(74,qS A ps.length c),(75,nV ps.length),(76,iV 0)] ?_;refine CG.loop (fun μ_ Γ w_=>∃ (k:Nat) (srA:Option Addr) (src:Nat) (tl:List Stp) (soA:Option Addr) (soc:Nat) (ol:List Int) (h_:Hp),μ_=ps.length-k∧Γ=[(4,pB b1),(7,.map (some bm)),(15,pB za),(74,qS A ps.length c),(75,nV ps.length),(76,nV k)]∧SS w h w_ h_ [⟨za,40,[nV ns.length,qS srA ((tl).length) src,qS soA ((ol).length) soc]⟩,⟨b1,40,[iV 0,sZ,sZ]⟩] [⟨99,9,srA,src,(tl).length,(tl).flatMap stc⟩,⟨3,1,soA,soc,(ol).length,(ol).flatMap i64c⟩] [fun h_=>MapS h_ bm es,fun h_=>SlO 1 strc ⟨#[]⟩ h_ Nm ns,fun h_=>Tms d h_ ps ts,fun h_=>SlO 9 ptc ptm0 h_ A ps]∧k≤ps.length∧tl=(allS pl d ts k)∧ol=(allO pl d ts k)∧tl.length=(sumN (fun i=>cntT d (ts.getD i tm0)) k)) _ ⟨0,none,0,[],none,0,[],zv,rfl,rfl,hs.to _ _,Nat.zero_le _,rfl,rfl,rfl⟩ ?_;rintro _ _ _ ⟨k,srA,src,tl,soA,soc,ol,_,hm22,rfl,hs,hk,htl,hol,hll⟩;have hs1_:(sumN (fun i=>cntT d (ts.getD i tm0)) (k+1))=(sumN (fun i=>cntT d (ts.getD i tm0)) k)+cntT d (ts.getD k tm0):=rfl;have hsm_:=sumN_mono (fun i=>cntT d (ts.getD i tm0)) (show k≤ps.length by omega);have hsb3:=sum_cnt (d:=d) (hd:=hd) (ts:=ts) (k:=ps.length) oM (fun i hi=>(hok1 i oM).1.1);have holl:ol.length=k:=by rw[hol];exact allO_len k
      refine cSL ?_;cases zd:(decide ((k:Int)<(ps.length:Int)))
      ·
       have zn:=oF zd;refine lB 77 zd (lNcQ (cIF (CG.exit ?_)))
       show CG _ _ _ _ _ _ _ _
       refine cQ (cSL ?_);have hkn:k=ts.length:=by omega
       have hsbE:=sum_cnt (d:=d) (hd:=hd) (ts:=ts) (k:=ts.length) oM (fun i hi=>(hok1 i oM).1.1);rw[hkn] at htl hol hll
       have hall:=all_ok (ok:=fun s=>isb s=true∧dec s=true) (nm:=nm) (pl:=pl) (inp:=(ns.length:Nat)) (fun s h_=>hnm s h_.1 h_.2) (show d≤20 by omega) ts.length (nR _) (fun i hi=>(hok1 i oM).1.1.names (fun s h_=>(hok1 i oM).2 s h_));rw[←htl] at hall
       obtain ⟨_,hs,hc25⟩:=hs.pubr 0 (A:=srA) (c:=src) (l:=tl) (f:=stc) (ty:=99) (sz:=9) stp0 (fun _=>rfl);obtain ⟨_,hs,hc28⟩:=hs.pubr 0 (A:=soA) (c:=soc) (l:=ol) (f:=i64c) (ty:=3) (sz:=1) 0 (fun _=>rfl);refine lL hs [.o 96 (.agg #[nV ns.length,qS srA ((tl).length) src,qS soA ((ol).length) soc]) 0 0 3] (lCval 97 hs (tCheck (ns.length:Nat) srA src tl soA soc ol oM oM (fun i _=>hall.lq i) _ _ hs.g hs.f.2.1 hs.f.1) (fun _ _ hs=>lL hs [.m 18 97] (lNS (lL hs [.m 98 18] ?_))));cases ze:((chkTp (ns.length:Nat) tl ol:Int) != (0:Int))
       ·
        have zo:=eqOfBne ze;exact lB 99 ze (lNIF (cK (cSLlL hs [.o 102 (.agg #[nV ns.length,qS srA ((tl).length) src,qS soA ((ol).length) soc]) 0 0 3] (lP 1 0 ([nV ns.length,qS srA ((tl).length) src,qS soA ((ol).length) soc]) hs (fun _ hs=>lL hs [.v 5 (iV 0)] (lNkXr hs [(1,0,3)] (.tuple #[.agg #[nV ns.length,qS srA ((tl).length) src,qS soA ((ol).length) soc],iV 0]) (⟨0,(ns.length:Nat),srA,src,tl,soA,soc,ol,rfl,hs.f.2.1,hs.f.1,OfR.fine oM oM hok1 (by rw[←htl,←hol];omega) rfl (by rw[htl]) (by rw[hol])⟩)))))))
       have zo:=neOfBne ze;exact lB 99 ze (lNIT (cSLlL hs [.v 100 (.agg #[iV 0,sZ,sZ]),.m 101 18] (lP 1 0 ([iV 0,sZ,sZ]) hs (fun _ hs=>lL hs [.m 5 101] (lNkXr hs [(1,0,3)] (.tuple #[.agg #[iV 0,sZ,sZ],iV (chkTp (ns.length:Nat) tl ol)]) (⟨_,0,none,0,[],none,0,[],rfl,SlO.nil,SlO.nil,OfR.chk oM oM hok1 (by rw[←htl,←hol]) oM rfl rfl rfl⟩))))))
      have zn:=oT zd;refine lB 77 zd (lNcQ (cIT (cK (cQ (kZ (cSL (lX 78 A ps.length c 9 (k:Nat) k ((hs.f.r.2.1).ok oM) ?_)))))));refine lH 79 (pX (ps.getD k ptm0)) hs ((hs.f.r.2.1).el k oM) (lA 17 61 ([iV 0,iV 0,qF,uV 0,eS,uV 0,eS,eS,sZ]) hs (fun zw _ _ hs=>lP 0 0 (pC (ps.getD k ptm0)) hs (fun _ hs=>lNS (lL hs [.v 80 (qP za 1),.o 81 (qS srA ((tl).length) src) 1 1 1,.o 82 (pX (ps.getD k ptm0)) 0 0 9,.m 83 7] ?_))));have hsm2_:=sumN_mono (fun i=>cntT d (ts.getD i tm0)) (show k+1≤ps.length by omega);refine lCs 84 (tRecord (fun s=>isb s=true∧dec s=true) pl bm es (fun s h_=>hpl s h_.1) (fun s h_=>lk_has (hlk s h_.1) h_.2) d (ps.getD k ptm0) (ts.getD k tm0) srA src tl _ _ hs.g ((hs.f.r.1).at_ k oM) hs.f.1 (hs.frontR [] [⟨3,1,soA,soc,(ol).length,(ol).flatMap i64c⟩] ⟨99,9,srA,src,(tl).length,(tl).flatMap stc⟩) ((hok1 k oM).1.1.names (fun s h_=>(hok1 k oM).2 s h_)) oM) ?_;rintro _ _ _ ⟨zi,zj,rfl,hs⟩;replace hs:=(SS.backR [] [⟨3,1,soA,soc,(ol).length,(ol).flatMap i64c⟩] ⟨99,9,zi,zj,(recT pl d tl (ts.getD k tm0)).length,(recT pl d tl (ts.getD k tm0)).flatMap stc⟩ hs).to [⟨zw,61,pC (ps.getD k ptm0)⟩,⟨za,40,[nV ns.length,qS srA ((tl).length) src,qS soA ((ol).length) soc]⟩,⟨b1,40,[iV 0,sZ,sZ]⟩] [⟨99,9,zi,zj,(recT pl d tl (ts.getD k tm0)).length,(recT pl d tl (ts.getD k tm0)).flatMap stc⟩,⟨3,1,soA,soc,(ol).length,(ol).flatMap i64c⟩];have hrl:=rec_len (pl:=pl) (hok1 k oM).1.1 tl;refine lL hs [.v 85 (qP za 1)] (lP 1 1 ([qS zi ((recT pl d tl (ts.getD k tm0)).length) zj]) hs (fun _ hs=>lN (kQ (lL hs [.v 86 (qP za 2),.o 87 (qS soA ((ol).length) soc) 1 2 1,.v 88 (qP za 1),.o 89 (qS zi ((recT pl d tl (ts.getD k tm0)).length) zj) 1 1 1,.v 90 (nV ((recT pl d tl (ts.getD k tm0)).length))] (lI 91 (((recT pl d tl (ts.getD k tm0)).length:Nat)-1) ?_)))));refine lR 92 3 1 ([iV (((recT pl d tl (ts.getD k tm0)).length:Nat)-1)]) hs (fun zx _ _ hs=>lY 93 1 3 1 soc soA ol i64c (((recT pl d tl (ts.getD k tm0)).length:Nat)-1:Int) 8 zx (iV 0) hs hs.f.1 (fun zr zs _ zA hs=>lL hs [.v 94 (qP za 2)] (lP 1 2 ([qS zr ((ol++[(((recT pl d tl (ts.getD k tm0)).length:Nat)-1:Int)]).length) zs]) hs (fun _ hs=>lN (kQ (lIn 95 ((k:Nat)+1) (k+1) ?_))))));refine lL hs [.m 76 95] (lD ?_);intro a_ ka;replace hs:=hs.tl;replace hs:=hs.drop 1 0;refine ⟨_,_,?_,⟨k+1,zi,zj,recT pl d tl (ts.getD k tm0),zr,zs,ol++[(((recT pl d tl (ts.getD k tm0)).length:Nat)-1:Int)],zA,rfl,rfl,hs.to _ _,oM,(by rw[htl];rfl),(by rw[hol,htl];rfl),oM⟩,ka.to _ kR⟩
      omega
     have zm:=oT zc;refine lB 69 zc (lNIT (cSLlL hs [.v 70 (.agg #[iV 0,sZ,sZ])] (lP 0 0 ([iV 0,sZ,sZ]) hs (fun _ hs=>lL hs [.v 5 (iV 5)] (lN (kX ?_))))))
     exfalso;omega
    have zl:=oT zb;refine lB 39 zb (lNcQ (cIT (cK (cQ (kZ (cSL (lX 40 A ps.length c 9 (k:Nat) k ((hs.f.r.2.1).ok oM) ?_)))))));refine lH 41 (pX (ps.getD k ptm0)) hs ((hs.f.r.2.1).el k oM) (lA 10 61 ([iV 0,iV 0,qF,uV 0,eS,uV 0,eS,eS,sZ]) hs (fun zt _ _ hs=>lP 0 0 (pC (ps.getD k ptm0)) hs (fun _ hs=>lNcQ (cSLlL hs [.o 42 (pX (ps.getD k ptm0)) 0 0 9] (lC 43 hs (tChkG isb sm hIs d (ps.getD k ptm0) (ts.getD k tm0) oM _ _ hs.g ((hs.f.r.1).at_ k oM) (hS k oM)) ?_)))));rintro _ _ _ hs ⟨ek,rfl,hek⟩;cases zf:((ek:Int) != (0:Int))
    ·
     have zp:=eqOfBne zf;refine lB 44 zf (lNIF (cK (cQ (cSL ?_))));have hwk:WfT (fun s=>isb s=true) d (ts.getD k tm0)∧wgt d (ts.getD k tm0)≤1000:=ck_ok hek oM;have hwg:=hwk.2;replace hwk:=hwk.1;refine lL hs [.o 46 (pX (ps.getD k ptm0)) 0 0 9] (lC 47 hs (tNames (fun s=>isb s=true) hsm d oM (ps.getD k ptm0) (ts.getD k tm0) _ _ hs.g ((hs.f.r.1).at_ k oM) hwk) ?_);rintro _ _ zB hs ⟨nA,nc,nss,rfl,hnc,hnl,hnS,hnm_⟩;replace hs:=hs.aS hnS;have hnok:∀ s,s∈nss→isb s=true:=fun s hs_=>wf_has hwk ((hnm_ s).1 hs_)
     refine lL hs [.v 48 (nV nss.length),.v 49 (iV 0)] (lNkZ ?_);refine cTo _ (CG.loop (fun μ_ Γ w_=>∃ (j:Nat) (h_:Hp),μ_=nss.length-j∧Γ=[(0,qS A ps.length c),(1,qS Nm ns.length cN),(4,pB b1),(7,.map (some bm)),(36,qS A ps.length c),(37,nV ps.length),(38,nV k),(8,nV (sumN (fun i=>cntT d (ts.getD i tm0)) k)),(10,pB zt),(47,qS nA nss.length nc),(48,nV nss.length),(49,nV j)]∧SS w h w_ h_ [⟨zt,61,pC (ps.getD k ptm0)⟩,⟨b1,40,[iV 0,sZ,sZ]⟩] [] [fun h_=>SlO 1 strc ⟨#[]⟩ h_ nA nss,fun h_=>MapS h_ bm es,fun h_=>SlO 1 strc ⟨#[]⟩ h_ Nm ns,fun h_=>Tms d h_ ps ts,fun h_=>SlO 9 ptc ptm0 h_ A ps]∧j≤nss.length∧(∀ i,i<j→dec (nss.getD i ⟨#[]⟩)=true)) _ ⟨0,zB,rfl,rfl,hs.to _ _,Nat.zero_le _,(fun i hi=>absurd hi (Nat.not_lt_zero i))⟩ ?_);rintro _ _ _ ⟨j,zD,hm71,rfl,hs,hj,hdec⟩;refine cSL ?_;cases zg:(decide ((j:Int)<(nss.length:Int)))
     ·
      have zq:=oF zg;refine lB 50 zg (lNcQ (cIF (CG.exit ?_)))
      show CG _ _ _ _ _ _ _ _
      refine kQ (lL hs [.m 63 8,.o 64 (pX (ps.getD k ptm0)) 0 0 9] (lCval 65 hs (tCount (fun s=>isb s=true) d (ps.getD k ptm0) (ts.getD k tm0) _ _ hs.g ((hs.f.r.2.1).at_ k oM) hwk oM) (fun _ zE hs=>?_)));have hcb:=cnt_le hwk;refine lIn 66 (((sumN (fun i=>cntT d (ts.getD i tm0)) k):Nat)+(cntT d (ts.getD k tm0):Nat)) (((sumN (fun i=>cntT d (ts.getD i tm0)) k):Nat)+(cntT d (ts.getD k tm0))) (lL hs [.m 8 66] (lN (kQ (lIn 67 ((k:Nat)+1) (k+1) ?_))));refine lL hs [.m 38 67] (lD ?_);intro a_ ka;replace hs:=hs.tl;replace hs:=hs.drop 1 0;refine ⟨_,_,?_,⟨k+1,zE,rfl,rfl,hs.to _ _,oM,(fun i hi=>by rcases Nat.lt_succ_iff_lt_or_eq.1 hi with h_|rfl;exact hok1 i h_;exact ⟨⟨hwk,hwg⟩,fun s hs_=>by obtain ⟨j_,hj_,e_⟩:=mem_at2 ((hnm_ s).2 hs_);rw[←e_];exact hdec j_ oM⟩)⟩,ka.to _ kR⟩
      omega
     have zq:=oT zg;refine lB 50 zg (lNcQ (cIT (cK (cQ (kZ (cSL (lX 51 nA nss.length nc 1 (j:Nat) j ((hs.f.1).ok oM) ?_)))))));refine lH 52 (.string (nss.getD j ⟨#[]⟩)) hs ((hs.f.1).el j oM) (lL hs [.m 12 52] (lNS (lL hs [.m 54 7,.m 55 12] (lMr 56 77 9 3 (nss.getD j ⟨#[]⟩) true (iV (pl (nss.getD j ⟨#[]⟩))) ((dec (nss.getD j ⟨#[]⟩))) hs hs.f.2.1 ?_ (hf:=(by rcases hlk (nss.getD j ⟨#[]⟩) (hnok (nss.getD j ⟨#[]⟩) (mem_at oM)) with ⟨i_,e1_,e2_⟩|⟨e1_,e2_,e3_⟩;exact .inl ⟨i_,e1_,e2_⟩;exact .inr ⟨e1_,e2_,fun _=>by rw[e3_];kernel_rfl⟩))))));refine lL hs [.m 53 56,.v 57 (iV (pl (nss.getD j ⟨#[]⟩))),.v 58 (.bool (dec (nss.getD j ⟨#[]⟩))),.m 13 57,.m 14 58] (lNS (lL hs [.m 59 14] ?_));cases zk:(!(dec (nss.getD j ⟨#[]⟩)))
     ·
      refine lB 60 zk (lNIF (cK (kQ (lIn 62 ((j:Nat)+1) (j+1) ?_))));refine lL hs [.m 49 62] (lD ?_);intro a_ ka;refine ⟨_,_,?_,⟨j+1,zD,rfl,rfl,hs.to _ _,oM,(fun i hi=>by rcases Nat.lt_succ_iff_lt_or_eq.1 hi with h_|rfl;exact hdec i h_;exact nb_f aM)⟩,ka.to _ kR⟩
      omega
     exact lB 60 zk (lNIT (cSLlL hs [.v 61 (.agg #[iV 0,sZ,sZ])] (lP 1 0 ([iV 0,sZ,sZ]) hs (fun _ hs=>lL hs [.v 5 (iV 11)] (lNkXr hs [(1,0,3)] (.tuple #[.agg #[iV 0,sZ,sZ],iV 11]) (⟨_,0,none,0,[],none,0,[],rfl,SlO.nil,SlO.nil,OfR.no oM (k:=k) oM hok1 (.inr ⟨⟨hwk,hwg⟩,fun h_=>Bool.noConfusion ((h_ _ ((hnm_ _).1 (mem_at (by omega:j<nss.length)))).symm.trans (nb_t aM)),rfl⟩) rfl rfl rfl⟩))))))
    have zp:=neOfBne zf;exact lB 44 zf (lNIT (cSLlL hs [.v 45 (.agg #[iV 0,sZ,sZ])] (lP 1 0 ([iV 0,sZ,sZ]) hs (fun _ hs=>lL hs [.v 5 (iV 1)] (lNkXr hs [(1,0,3)] (.tuple #[.agg #[iV 0,sZ,sZ],iV 1]) (⟨_,0,none,0,[],none,0,[],rfl,SlO.nil,SlO.nil,OfR.no oM (k:=k) oM hok1 (.inl ⟨fun h_=>by have:=ck_no hek h_;omega,rfl⟩) rfl rfl rfl⟩))))))
   have phb8:=neOfBne hb8;exact lB 31 hb8 (lNIT (cSLlL hs [.v 32 (.agg #[iV 0,sZ,sZ]),.m 33 6] (lP 0 0 ([iV 0,sZ,sZ]) hs (fun _ hs=>lL hs [.m 5 33] (lNkXr hs [(0,0,3)] (.tuple #[.agg #[iV 0,sZ,sZ],iV e0]) (⟨_,0,none,0,[],none,0,[],rfl,SlO.nil,SlO.nil,OfR.call oM rfl rfl rfl⟩))))))
  have phb5:=oT hb5;refine lB 25 hb5 (lL hs [.v 26 qT] (lNIT (cSLlL hs [.v 27 (.agg #[iV 0,sZ,sZ])] (lP 0 0 ([iV 0,sZ,sZ]) hs (fun _ hs=>lL hs [.v 5 (iV 5)] (lN (kX ?_)))))))
  exfalso;omega
 have phb4:=oT hb4;refine lB 21 hb4 (lL hs [.m 22 21] (lG 23 ?_));refine lG 24 (lG 25 (lL hs [.v 26 qT] (lNIT (cSLlL hs [.v 27 (.agg #[iV 0,sZ,sZ])] (lP 0 0 ([iV 0,sZ,sZ]) hs (fun _ hs=>lL hs [.v 5 (iV 5)] (lN (kX ?_))))))))
 exfalso;omega
theorem mem_ins {us:List ByteArray}{i:Nat}{s:ByteArray}{op:Int}(h:op=2)(x:ByteArray):x∈us.take i++[s]++us.drop i↔(x∈us∨(op=2∧x=s)):=by
  have e:x∈us↔x∈us.take i∨x∈us.drop i:=by rw[←List.mem_append,List.take_append_drop]
  rw[e,List.mem_append,List.mem_append,List.mem_singleton]
  constructor
  · rintro ((h1|h1)|h1)
    · exact .inl (.inl h1)
    · exact .inr ⟨h,h1⟩
    · exact .inl (.inr h1)
  · rintro ((h1|h1)|⟨_,h1⟩)
    · exact .inl (.inl h1)
    · exact .inr h1
    · exact .inl (.inr h1)
theorem mem_fnd {us:List ByteArray}{i:Nat}{s:ByteArray}{op:Int}(hi:i<us.length)(he:us.getD i ⟨#[]⟩=s)(x:ByteArray):x∈us↔(x∈us∨(op=2∧x=s)):=by
  constructor
  · exact .inl
  · rintro (h1|⟨_,rfl⟩)
    · exact h1
    · rw[←he];exact memG hi rfl
theorem mem_not {us:List ByteArray}{s:ByteArray}{op:Int}(h:op≠2)(x:ByteArray):x∈us↔(x∈us∨(op=2∧x=s)):=by
  constructor
  · exact .inl
  · rintro (h1|⟨h2,_⟩)
    · exact h1
    · exact absurd h2 h
theorem has0 {d:Nat}{ks:List Tm}{x:ByteArray}(a b:Prop):(a∨b)↔(a∨b∨HasK d ks 0 x):=by
  constructor
  · rintro (h|h)
    · exact .inl h
    · exact .inr (.inl h)
  · rintro (h|h|⟨i,hi,_⟩)
    · exact .inl h
    · exact .inr h
    · exact absurd hi (Nat.not_lt_zero i)
theorem has1 {d k:Nat}{ks:List Tm}{x:ByteArray}{n:Prop}{a b:Prop}(h:n↔(a∨b∨HasK d ks k x)):(n∨HasN d (ks.getD k tm0) x)↔(a∨b∨HasK d ks (k+1) x):=by
  rw[h]
  constructor
  · rintro ((h1|h1|⟨i,hi,h1⟩)|h1)
    · exact .inl h1
    · exact .inr (.inl h1)
    · exact .inr (.inr ⟨i,by omega,h1⟩)
    · exact .inr (.inr ⟨k,by omega,h1⟩)
  · rintro (h1|h1|⟨i,hi,h1⟩)
    · exact .inl (.inl h1)
    · exact .inl (.inr (.inl h1))
    · rcases Nat.lt_succ_iff_lt_or_eq.1 hi with h2|rfl
      · exact .inl (.inr (.inr ⟨i,h2,h1⟩))
      · exact .inr h1
theorem rNamesS  (ok:ByteArray→Prop)(d:Nat)(ih:∀ (r:RTm) (t:Tm) (uA:Option Addr) (uc:Nat) (us:List ByteArray) (w:World) (h:Hp),G w h→RmH d h r t→WfT ok d t→us.length≤uc→SlO 1 strc ⟨#[]⟩ h uA us→us.length+cntT d t≤1000000→Calls Tryz.prog 70 #[rmv r,.slice uA us.length uc] w (Ret w h (fun v h1=>∃ A_ c_,∃ nss:List ByteArray,v=.slice A_ nss.length c_∧nss.length≤c_∧nss.length≤us.length+cntT d t∧SlO 1 strc ⟨#[]⟩ h1 A_ nss∧∀ x,x∈nss↔(x∈us∨HasN d t x))))(op n:Int)(bq:Bool)(zA:Option Addr)(zn zc:Nat)(dA:Option Addr)(dn dc:Nat)(q:Rat)(s:ByteArray)(A:Option Addr)(c:Nat)(rs:List RTm)(ks:List Tm)(hc:rs.length≤c)(uA:Option Addr)(uc:Nat)(us:List ByteArray)(hk3:ks.length≤2)(hW:∀ i,i<ks.length→WfT ok d (ks.getD i tm0))(huc:us.length≤uc)(hb:us.length+(1+(sumN (fun i=>cntT d (ks.getD i tm0)) ks.length))≤1000000)(w:World)(h:Hp)(g:G w h)(hZ:RZ h (bq,.slice zA zn zc,.slice dA dn dc) q)(hK:SlO 7 rmc rtm0 h A rs)(hKs:Rms d h rs ks)(hL:SlO 1 strc ⟨#[]⟩ h uA us):CR 70 #[.agg #[iV op,iV n,.bool bq,.slice zA zn zc,.slice dA dn dc,.string s,.slice A rs.length c],.slice uA us.length uc] w h (fun v h1=>∃ A_ c_,∃ nss:List ByteArray,v=.slice A_ nss.length c_∧nss.length≤c_∧nss.length≤us.length+cntT (d+1) (.mk op n q s ks)∧SlO 1 strc ⟨#[]⟩ h1 A_ nss∧∀ x,x∈nss↔(x∈us∨HasN (d+1) (.mk op n q s ks) x)):=by
 have hs:=(((((sS g).add (K:=fun h_=>RZ h_ (bq,qS zA zn zc,qS dA dn dc) q) hZ).aS hK).add (K:=fun h_=>Rms d h_ rs ks) hKs).aS hL);have hln:=(hs.f.2.1).len;refine go Tryz.func70 [(0,.agg #[iV op,iV n,.bool bq,qS zA zn zc,qS dA dn dc,.string s,qS A rs.length c]),(1,qS uA us.length uc)] rfl (cSL (lA 2 33 ([iV op,iV n,.bool bq,qS zA zn zc,qS dA dn dc,.string s,qS A rs.length c]) hs (fun b1 w2 h3 hs=>?_)));refine lL hs [.v 4 (sZ)] (lN (CG.join (fun Γ w_=>∃ (mA:Option Addr) (mc:Nat) (ms:List ByteArray) (h_:Hp),Γ=[(2,pB b1),(4,sZ),(1,qS mA ms.length mc)]∧SS w h w_ h_ [⟨b1,33,[iV op,iV n,.bool bq,qS zA zn zc,qS dA dn dc,.string s,qS A rs.length c]⟩] [] [fun h_=>SlO 1 strc ⟨#[]⟩ h_ mA ms,fun h_=>SlO 1 strc ⟨#[]⟩ h_ uA us,fun h_=>Rms d h_ rs ks,fun h_=>SlO 7 rmc rtm0 h_ A rs,fun h_=>RZ h_ (bq,qS zA zn zc,qS dA dn dc) q]∧ms.length≤mc∧ms.length≤us.length+1∧(∀ x,x∈ms↔(x∈us∨(op=2∧x=s)))) ?_ ?_))
 ·
  refine cSLlL hs [.v 7 (pB b1),.o 8 (iV op) 0 0 1] ?_;cases hb4:((op:Int) == (2:Int))
  ·
   have phb4:=neOfBeq hb4;refine lB 9 hb4 (lNIF (CG.skip ?_));intro a_ ka;replace hs:=(hs.add (K:=fun h_=>SlO 1 strc ⟨#[]⟩ h_ uA us) hs.f.1);exact ⟨_,⟨uA,uc,us,h3,rfl,hs.to _ _,huc,oM,(mem_not oM)⟩,ka.to _ kR⟩
  have phb4:=eq_of_beq hb4;refine lB 9 hb4 ?_;refine lNIT (cSLlL hs [.v 5 (iV 0)] (lN (CG.join (fun Γ w_=>∃ (j:Nat) (h_:Hp),Γ=[(1,qS uA us.length uc),(2,pB b1),(4,sZ),(5,nV j)]∧SS w h w_ h_ [⟨b1,33,[iV op,iV n,.bool bq,qS zA zn zc,qS dA dn dc,.string s,qS A rs.length c]⟩] [] [fun h_=>SlO 1 strc ⟨#[]⟩ h_ uA us,fun h_=>Rms d h_ rs ks,fun h_=>SlO 7 rmc rtm0 h_ A rs,fun h_=>RZ h_ (bq,qS zA zn zc,qS dA dn dc) q]∧j≤us.length) ?_ ?_)))
  ·
   refine kZ ?_;refine cTo _ (CG.loop (fun μ_ Γ w_=>∃ (i:Nat) (h_:Hp),μ_=us.length-i∧Γ=[(1,qS uA us.length uc),(2,pB b1),(4,sZ),(5,nV i)]∧SS w h w_ h_ [⟨b1,33,[iV op,iV n,.bool bq,qS zA zn zc,qS dA dn dc,.string s,qS A rs.length c]⟩] [] [fun h_=>SlO 1 strc ⟨#[]⟩ h_ uA us,fun h_=>Rms d h_ rs ks,fun h_=>SlO 7 rmc rtm0 h_ A rs,fun h_=>RZ h_ (bq,qS zA zn zc,qS dA dn dc) q]∧i≤us.length) _ ⟨0,h3,rfl,rfl,hs.to _ _,Nat.zero_le _⟩ ?_);rintro _ _ w9 ⟨i,_,hm11,rfl,hs,hi⟩;refine cQ (cQ (cR 13 [] mixed hs al_nil ?_));refine eV 0 10 (nV i) (eV 1 11 (qS uA us.length uc) (eV 2 12 (nV us.length) ?_));cases za:(decide ((i:Int)<(us.length:Int)))
   ·
    have zl:=oF za;refine eB 3 13 za (eV 4 14 qF (eG 5 15 (eG 6 16 (eG 7 17 (eG 8 18 (eG 9 19 (eG 10 20 (eG 11 21 (eV 12 22 qF (eD0 hs (fun _ zs hs=>tN (cIF (CG.exit ?_)))))))))))));intro a_ ka;exact ⟨_,⟨i,zs,rfl,hs.to _ _,oM⟩,ka.to _ kR⟩
   have zl:=oT za;refine eB 3 13 za (eV 4 14 qT (eV 5 15 (qS uA us.length uc) (eV 6 16 (nV i) (eX 7 17 uA us.length uc 1 (i:Nat) i ((hs.f.1).ok oM) (eH 8 18 (.string (us.getD i ⟨#[]⟩)) hs ((hs.f.1).el i oM) (eV 9 19 (qP b1 5) (eO 10 20 [(0,5,1)] (.string s) hs ?_)))))));cases zi:(strL (us.getD i ⟨#[]⟩) s)
   ·
    refine eB 11 21 zi (eV 12 22 qF (eD0 hs (fun _ zt hs=>tN (cIF (CG.exit ?_)))));intro a_ ka;exact ⟨_,⟨i,zt,rfl,hs.to _ _,oM⟩,ka.to _ kR⟩
   refine eB 11 21 zi (eV 12 22 qT (eD0 hs (fun _ zu hs=>tN (cIT (cK (kZ (kQ (lL hs [.m 23 5] (lIn 24 ((i:Nat)+1) (i+1) ?_)))))))));refine lL hs [.m 5 24] (lD ?_);intro a_ ka;refine ⟨_,_,?_,⟨i+1,zu,rfl,rfl,hs.to _ _,oM⟩,ka.to _ kR⟩
   omega
  rintro _ _ ⟨j,_,rfl,hs,hj⟩;refine cQ (cR 13 [] mixed hs al_nil ?_);refine eV 0 25 (nV j) (eV 1 26 (qS uA us.length uc) (eV 2 27 (nV us.length) ?_));cases zb:((j:Int) == (us.length:Int))
  ·
   have zm:=neOfBeq zb;refine eB 3 28 zb (eV 4 29 qF (eV 5 30 (qS uA us.length uc) (eV 6 31 (nV j) (eX 7 32 uA us.length uc 1 (j:Nat) j ((hs.f.1).ok oM) (eH 8 33 (.string (us.getD j ⟨#[]⟩)) hs ((hs.f.1).el j oM) (eV 9 34 (qP b1 5) (eO 10 35 [(0,5,1)] (.string s) hs ?_)))))));cases zd:(strQn (us.getD j ⟨#[]⟩) s)
   ·
    have zo:=strQn_f zd;refine eB 11 36 zd (eV 12 37 qF (eD0 hs (fun _ zv hs=>tN (cIF (CG.skip ?_)))));intro a_ ka;replace hs:=(hs.add (K:=fun h_=>SlO 1 strc ⟨#[]⟩ h_ uA us) hs.f.1);exact ⟨_,⟨uA,uc,us,zv,rfl,hs.to _ _,huc,oM,(mem_fnd (i:=j) oM aM)⟩,ka.to _ kR⟩
   have zo:=strQn_t zd;refine eB 11 36 zd (eV 12 37 qT (eD0 hs (fun zw _ hs=>tN (cIT ?_))));obtain ⟨K_,hK_⟩:∃ K_,K_=zw.heap.size:=⟨_,rfl⟩;have hk_b1:b1<K_:=by rw[hK_];exact zblk hs 0
   refine cRa ⟨[],some (K_,[])⟩ 0 mixed ?_;have hszK:=hs.g.size;replace hs:=hs.drew;have hKl:=Nat.le_of_eq hK_;refine zV 1 39 (qS uA us.length uc) (zV 2 40 (nV j) ?_);have hl1_:(us.take j).length=j:=by rw[List.length_take];omega
   have hl2_:(us.drop j).length=us.length-j:=List.length_drop;have hl3_:(us.take j++[s]).length=j+1:=by rw[List.length_append,hl1_];rfl
   have hl4_:(us.take j++[s]++us.drop j).length=us.length+1:=by rw[List.length_append,hl3_,hl2_];omega
   refine zT 3 41 uA us.length uc 1 (j:Nat) j ?_;replace hs:=hs.aS ((hs.f.1).take j);refine zV 5 43 (qP b1 5) (zO 6 44 [(0,5,1)] (.string s) rfl hKl hs (fun p hp=>by obtain rfl:=List.mem_singleton.1 hp;exact hk_b1) (zV 9 47 (qS uA us.length uc) (zV 10 48 (nV j) (zF 11 49 uA us.length uc 1 (j:Nat) j ?_))));replace hs:=hs.aS ((hs.f.2.1).drop j uc huc);refine zR3 0 7 4 38 45 42 9 9 1 strc ⟨#[]⟩ 1 ([.string s]) uA (us.take j) j uc 16 (eS) rfl hKl hs (fun _ f_=>f_.2.1) (fun b35 zx zB zD _ _ hKv42 hKl hs=>?_) (hn:=by simp only[List.length_take,List.length_drop]<;>omega);refine zY1 8 46 0 9 1 zB zx (us.take j) strc s 16 zD (eS) rfl hKl hKv42 hs hs.f.1 (fun zE zG _ _ hKv48 hKl hs=>zYa 12 50 0 9 1 zG zE (us.take j++[s]) strc ⟨#[]⟩ (if uc=j then uA else uA.map (·.add (j*1))) (us.drop j) (us.length-j) (uc-j) 16 (eS) rfl hKl hKv48 hs hs.f.2.1 (fun zf zj _ _ hKl hs=>?_) (hn:=by simp only[List.length_take,List.length_drop]<;>omega));refine zV 13 1 (qS zf ((us.take j++[s]++(us.drop j)).length) zj) (tD ?_);obtain ⟨zH,hs,zq⟩:=hs.pubr 0 (A:=zf) (c:=zj) (l:=us.take j++[s]++(us.drop j)) (f:=strc) (ty:=9) (sz:=1) (⟨#[]⟩) (fun _=>rfl);intro a_ ka;replace hs:=(hs.tl.tl.tl.tl.add (K:=fun h_=>SlO 1 strc ⟨#[]⟩ h_ zf (us.take j++[s]++(us.drop j))) hs.f.1);exact ⟨_,⟨zf,zj,us.take j++[s]++(us.drop j),zH,rfl,hs.to _ _,zq,(by rw[hl4_];omega),(mem_ins oM)⟩,ka.to _ kR⟩
  have zm:=eq_of_beq zb;refine eB 3 28 zb (eV 4 29 qT (eG 5 30 (eG 6 31 (eG 7 32 (eG 8 33 (eG 9 34 (eG 10 35 (eG 11 36 (eV 12 37 qT (eD0 hs (fun zI _ hs=>tN (cIT ?_))))))))))));obtain ⟨K_,hK_⟩:∃ K_,K_=zI.heap.size:=⟨_,rfl⟩;have hk_b1:b1<K_:=by rw[hK_];exact zblk hs 0
  refine cRa ⟨[],some (K_,[])⟩ 0 mixed ?_;have hszK:=hs.g.size;replace hs:=hs.drew;have hKl:=Nat.le_of_eq hK_;refine zV 1 39 (qS uA us.length uc) (zV 2 40 (nV j) ?_);have hl1_:(us.take j).length=j:=by rw[List.length_take];omega
  have hl2_:(us.drop j).length=us.length-j:=List.length_drop;have hl3_:(us.take j++[s]).length=j+1:=by rw[List.length_append,hl1_];rfl
  have hl4_:(us.take j++[s]++us.drop j).length=us.length+1:=by rw[List.length_append,hl3_,hl2_];omega
  refine zT 3 41 uA us.length uc 1 (j:Nat) j ?_;replace hs:=hs.aS ((hs.f.1).take j);refine zV 5 43 (qP b1 5) (zO 6 44 [(0,5,1)] (.string s) rfl hKl hs (fun p hp=>by obtain rfl:=List.mem_singleton.1 hp;exact hk_b1) (zV 9 47 (qS uA us.length uc) (zV 10 48 (nV j) (zF 11 49 uA us.length uc 1 (j:Nat) j ?_))));replace hs:=hs.aS ((hs.f.2.1).drop j uc huc);refine zR3 0 7 4 38 45 42 9 9 1 strc ⟨#[]⟩ 1 ([.string s]) uA (us.take j) j uc 16 (eS) rfl hKl hs (fun _ f_=>f_.2.1) (fun b64 zJ zK zL _ _ hKv71 hKl hs=>?_) (hn:=by simp only[List.length_take,List.length_drop]<;>omega);refine zY1 8 46 0 9 1 zK zJ (us.take j) strc s 16 zL (eS) rfl hKl hKv71 hs hs.f.1 (fun zM zN _ _ hKv77 hKl hs=>zYa 12 50 0 9 1 zN zM (us.take j++[s]) strc ⟨#[]⟩ (if uc=j then uA else uA.map (·.add (j*1))) (us.drop j) (us.length-j) (uc-j) 16 (eS) rfl hKl hKv77 hs hs.f.2.1 (fun zg zk _ _ hKl hs=>?_) (hn:=by simp only[List.length_take,List.length_drop]<;>omega));refine zV 13 1 (qS zg ((us.take j++[s]++(us.drop j)).length) zk) (tD ?_);obtain ⟨zP,hs,zr⟩:=hs.pubr 0 (A:=zg) (c:=zk) (l:=us.take j++[s]++(us.drop j)) (f:=strc) (ty:=9) (sz:=1) (⟨#[]⟩) (fun _=>rfl);intro a_ ka;replace hs:=(hs.tl.tl.tl.tl.add (K:=fun h_=>SlO 1 strc ⟨#[]⟩ h_ zg (us.take j++[s]++(us.drop j))) hs.f.1);exact ⟨_,⟨zg,zk,us.take j++[s]++(us.drop j),zP,rfl,hs.to _ _,zr,(by rw[hl4_];omega),(mem_ins oM)⟩,ka.to _ kR⟩
 rintro _ _ ⟨mA,mc,ms,zQ,rfl,hs,hmc,hml,hmm⟩;refine cQ (cSLlL hs [.v 6 (iV 0)] (lNkZ ?_));replace hs:=hs.add (K:=fun h_=>SlO 1 strc ⟨#[]⟩ h_ mA ms) (hs.f.1);refine cTo _ (CG.loop (fun μ_ Γ w_=>∃ (k:Nat) (nA:Option Addr) (nc:Nat) (nss:List ByteArray) (h_:Hp),μ_=ks.length-k∧Γ=[(2,pB b1),(4,sZ),(6,nV k),(1,qS nA nss.length nc)]∧SS w h w_ h_ [⟨b1,33,[iV op,iV n,.bool bq,qS zA zn zc,qS dA dn dc,.string s,qS A rs.length c]⟩] [] [fun h_=>SlO 1 strc ⟨#[]⟩ h_ nA nss,fun h_=>SlO 1 strc ⟨#[]⟩ h_ mA ms,fun h_=>SlO 1 strc ⟨#[]⟩ h_ uA us,fun h_=>Rms d h_ rs ks,fun h_=>SlO 7 rmc rtm0 h_ A rs,fun h_=>RZ h_ (bq,qS zA zn zc,qS dA dn dc) q]∧k≤ks.length∧nss.length≤nc∧nss.length≤us.length+1+(sumN (fun i=>cntT d (ks.getD i tm0)) k)∧(∀ x,x∈nss↔(x∈us∨(op=2∧x=s)∨HasK d ks k x))) _ ⟨0,mA,mc,ms,zQ,rfl,rfl,hs.to _ _,Nat.zero_le _,hmc,hml,(fun x=>(hmm x).trans (has0 _ _))⟩ ?_);rintro _ _ _ ⟨k,nA,nc,nss,_,hm95,rfl,hs,hk,hnc,hnl,hnm⟩;refine cQ (cSLlL hs [.m 51 6,.v 52 (qP b1 6),.o 53 (qS A rs.length c) 0 6 1,.v 54 (nV rs.length)] ?_);cases ze:(decide ((k:Int)<(rs.length:Int)))
 ·
  have zp:=oF ze;refine lB 55 ze (lNIF (CG.exit ?_))
  show CG _ _ _ _ _ _ _ _
  refine cSLlL hs [.m 65 1,.m 4 65] (lN (kX ?_));have hkn:k=ks.length:=by omega
  rw[hkn] at hnm hnl
  exact hs.ret [] (qS nA nss.length nc) (⟨_,_,_,rfl,hnc,(by show _≤us.length+(1+(sumN (fun i=>cntT d (ks.getD i tm0)) ks.length));omega),hs.f.1,hnm⟩)
 have zp:=oT ze;refine lB 55 ze (lNIT (cK (cQ (kZ (kQ (lL hs [.v 58 (qP b1 6),.o 59 (qS A rs.length c) 0 6 1,.m 60 6] (lX 61 A rs.length c 7 (k:Nat) k ((hs.f.q.1).ok oM) ?_)))))));refine lH 62 (.agg #[iV ((rs.getD k rtm0).op),iV ((rs.getD k rtm0).n),.bool ((rs.getD k rtm0).neg),qS ((rs.getD k rtm0).zA) ((rs.getD k rtm0).zn) ((rs.getD k rtm0).zc),qS ((rs.getD k rtm0).dA) ((rs.getD k rtm0).dn) ((rs.getD k rtm0).dc),.string ((rs.getD k rtm0).s),qS ((rs.getD k rtm0).A) ((rs.getD k rtm0).m) ((rs.getD k rtm0).c)]) hs ((hs.f.q.1).el k oM) (lL hs [.m 63 1] ?_);have hsm_:=sumN_mono (fun i=>cntT d (ks.getD i tm0)) (show k+1≤ks.length by omega);have hs1_:(sumN (fun i=>cntT d (ks.getD i tm0)) (k+1))=(sumN (fun i=>cntT d (ks.getD i tm0)) k)+cntT d (ks.getD k tm0):=rfl;refine lC 64 hs (ih (rs.getD k rtm0) (ks.getD k tm0) nA nc nss _ _ hs.g ((hs.f.r.2.1).at_ k oM) (hW k oM) hnc hs.f.1 oM) ?_;rintro _ _ zR hs ⟨xA,xc,xss,rfl,hxc,hxl,hX,hxm⟩;replace hs:=hs.aS hX;refine lL hs [.m 1 64] (lN (kQ (lL hs [.m 56 6] (lIn 57 ((k:Nat)+1) (k+1) ?_))));refine lL hs [.m 6 57] (lD ?_);intro a_ ka;replace hs:=(hs.tl.tl.add (K:=fun h_=>SlO 1 strc ⟨#[]⟩ h_ xA xss) hs.f.1);refine ⟨_,_,?_,⟨k+1,xA,xc,xss,zR,rfl,rfl,hs.to _ _,oM,hxc,oM,(fun x=>(hxm x).trans (has1 (hnm x)))⟩,ka.to _ kR⟩
 omega
end Go.Proofs.YtfkjipodndiklaaGreatDoor
