/- Laws and contracts that the card of this claim stands on, part 6. No condition of ours. -/
import Derived.Test.YticblaklfnadoaaGreatDoorPi0
import Derived.Test.YticblaklfnadoaaGreatDoorPi1
import Derived.Test.YticblaklfnadoaaGreatDoorPi2
import Derived.Test.YticblaklfnadoaaGreatDoorPi3
import Derived.Test.YticblaklfnadoaaGreatDoorPi4
set_option maxRecDepth 100000
set_option maxHeartbeats 4000000
namespace Go.Proofs.YticblaklfnadoaaGreatDoor
open Go.RowKit
open Go.RowKit Go.Shelf
section ops
variable {P:Program} {Γ:Env} {o:Oper}
theorem opShlI {t u:TypeId}{x y:Operand}{ky:IntKind}{b:Int}{m:Nat}(n:Nat)(ho:o.op=.binOp .shl t x y u)(hx:ev Γ x=.int .i64 1)(hy:ev Γ y=.int ky b)(hb:b=(n:Int))(hn:n≤16)(hm:m=2^n)(w:World) :
    (execOp (ev Γ) o).run P w=.ok (.value (.int .i64 (m:Nat))) w:=by
  subst hb
  have e:=opShl (P:=P) ho hx hy (show n≤IntKind.bits .i64 by show n≤64;omega) w
  have h1:((1:Int)*2^n)=(m:Nat):=by rw[Int.one_mul,hm,Int.natCast_pow];rfl
  have h2:2^n≤2^16:=Nat.pow_le_pow_right kD hn
  rw[h1,wr64 oM oM] at e
  exact e
end ops
section laws
variable {M:Ms} {P:Program} {n:Nat} {N R:Po} {X:Nat→Po} {ops:Array Oper} {k k0:Nat} {hr:Hp} {AL:List Al} {L:Array Bool} {Γ:Env} {w:World} {h:Hp} {w0 wi:World} {h0:Hp} {B:List Bx} {Rs:List Rw} {F:List (Hp→Prop)} {Ml:List Nat}
theorem eFg (i t:Nat)(v:Value)(cs:List Value){b o:Nat}{ty:TypeId}{vs:List Value}(s:SS w0 h0 w h B Rs F)(ho:Own w0 b ty vs)(hcs:(vs.drop o).take cs.length=cs)(H:EG M P n N R X ops k0 hr AL (L.setIfInBounds i true) ((t,v)::Γ) w h)(hM:b ∉ M.l:=by exact List.not_mem_nil)(hc:cEl n ops k0 AL L Γ i t=true:=by kernel_rfl)
    (he:evalL P (execOp (ev Γ) (opAt ops i)) cs=some (.value v,mka b o cs.length):=by kernel_rfl):EG M P n N R X ops k0 hr AL L Γ w h :=
  Rg.load i t v (cEl_1 hc).1 (cEl_1 hc).2 (fun w' hx=>evalL_run _ _ _ _ he (fun q a u ha hu=>by rw[mka_get _ _ _ _ _ ha,((s.fown ho).mo hx hM).cell];exact take_drop_get hcs q u hu)) H
theorem put_up {b:Nat}{w':World}(g:G w h)(p:Put b w w')(hb:b∈Ml)(hj:h[b]?=some junk):UpM Ml w h w' h :=
  (UpM.refl g).put p hb ⟨p.size.trans g.size,fun c=>by
    by_cases e:c=b
    · subst e;exact .inr hj
    · rw[p.blk c e];exact g.blk c⟩
theorem tFg (i o:Nat)(cs:List Value){b:Nat}{ty:TypeId}{vs:List Value}(s:SS w0 h0 w h B Rs F)(hd:Dif Ml wi w0)(hM:∀ c∈Ml,h0[c]?=some junk)(hb:b∈Ml)(ho:Own w0 b ty vs)(hl:o+cs.length≤vs.length)
    (H:∀ w' w0',Dif Ml wi w0'→Own w0' b ty (putAt vs o cs)→(∀ c t vs',c≠b→Own w0 c t vs'→Own w0' c t vs')→SS w0' h0 w' h B Rs F→AG M P n N R X ops k0 (L.setIfInBounds i true) Γ w')
    (hc:(chkT ops k0 L i && knownOp Γ (opAt ops i) && ((opAt ops i).dst == none))=true:=by kernel_rfl)(hw:wantE ops Γ (opAt ops i)=some true:=by kernel_rfl)
    (he:evalW P (execOp (ev Γ) (opAt ops i))=some (.skip,mkl b o cs):=by kernel_rfl)(hz:∀ K bs,M.z=some (K,bs)→K≤b∨b∈bs:=by intro _ _ e;cases e):AG M P n N R X ops k0 L Γ w:=by
  obtain ⟨w',hrun,hp,ho'⟩:=evalW_run _ _ o cs vs w he (s.fown ho) hl
  refine T.store i w' hc hw hrun (hp.tl hz) ?_
  obtain ⟨w0',hd',hc',s'⟩:=s.frn hd hM (put_up s.g hp hb (s.fjk (hM b hb)))
  have hs0:=s.g0.size
  refine H w' w0' hd' ((hc' b (lt_of_some (hM b hb))).trans ho') (fun c t vs' hne o'=>?_) s'
  have hlt:c<h0.size:=by have:=o'.lt;omega
  exact ((hc' c hlt).trans (hp.blk c hne)).trans (s.fown o')
end laws
section zone
variable {w0 w w':World} {h0 h h':Hp} {B:List Bx} {R:List Rw} {F:List (Hp→Prop)}
theorem nd_bs {Y:List Bx}{f:Bx→Bx}(hf:∀ y,(f y).b=y.b):(Y.map f).map (·.b)=Y.map (·.b):=by
  rw[List.map_map];exact List.map_congr_left (fun y _=>hf y)
def cellsAt (w:World)(b:Nat):List Value:=match w.heap[b]? with
  | some (.cells cs _ _)=>cs.toList
  | _=>[]
theorem Own.at_ {b:Nat}{t:TypeId}{vs:List Value}(o:Own w b t vs):cellsAt w b=vs:=by unfold cellsAt;rw[show w.heap[b]?=_ from o]
def newY (w':World)(M:List Nat)(Y:List Bx):List Bx:=Y.map fun y=>if y.b∈M then ⟨y.b,y.t,cellsAt w' y.b⟩ else y
theorem SS.stepY {Y:List Bx}(s:SS w0 h0 w h (B++Y) R F){M:List Nat}(u:UpM M w h w' h')(hM:∀ c∈M,∃ y∈Y,y.b=c∧∃ vs,Own w' c y.t vs) :
    ∃ Y',SS w0 h0 w' h' (B++Y') R F∧(∀ y∈Y,y.b ∉ M→y∈Y')∧(∀ y∈Y,∀ vs,y.b∈M→Own w' y.b y.t vs→(⟨y.b,y.t,vs⟩:Bx)∈Y')∧Y'.map (·.t)=Y.map (·.t):=by
  have hnd:=s.st.nd
  rw[List.map_append,List.nodup_append] at hnd
  have hfb:∀ y:Bx,(if y.b∈M then (⟨y.b,y.t,cellsAt w' y.b⟩:Bx) else y).b=y.b:=fun y=>by split<;>rfl
  have hyb:(newY w' M Y).map (·.b)=Y.map (·.b):=nd_bs hfb
  have hmb:(B++newY w' M Y).map (·.b)=(B++Y).map (·.b):=by rw[List.map_append,List.map_append,hyb]
  have hlo:∀ c∈M,h0.size≤c:=fun c hc=>by
    obtain ⟨y,hy,e,_⟩:=hM c hc
    rw[←e];exact s.st.lo y (List.mem_append_right _ hy)
  have hB:∀ x∈B,x.b ∉ M:=fun x hx hm=>by
    obtain ⟨y,hy,e,_⟩:=hM _ hm
    exact hnd.2.2 x.b (List.mem_map.2 ⟨x,hx,rfl⟩) y.b (List.mem_map.2 ⟨y,hy,rfl⟩) e.symm
  have hs0:=s.g0.size
  refine ⟨newY w' M Y,⟨s.g0,⟨⟨⟨u.mo.os.trans s.st.up.ext.os,u.mo.tape.trans s.st.up.ext.tape,u.mo.output.trans s.st.up.ext.output,Nat.le_trans s.st.up.ext.size u.mo.size,fun c hc=>?_⟩,s.st.up.gr.trans u.gr,u.g⟩,fun x hx=>?_,fun x hx=>?_,fun x hx=>?_,by rw[hmb];exact s.st.nd⟩,fun r hr=>?_,s.ap,s.mo,s.f.gw s.mo u.gr.gw⟩,fun y hy hn=>List.mem_map.2 ⟨y,hy,by simp[hn]⟩,fun y hy vs hm ho=>List.mem_map.2 ⟨y,hy,by simp[hm,ho.at_]⟩,by unfold newY;rw[List.map_map];exact List.map_congr_left (fun y _=>by simp only[Function.comp];split<;>rfl)⟩
  · rw[u.mo.blk c (Nat.lt_of_lt_of_le hc s.st.up.ext.size) (fun hm=>by have:=hlo c hm;omega)]
    exact Below.block s.st.up.ext c hc
  · rcases List.mem_append.1 hx with hx|hx
    · exact (s.st.own x (List.mem_append_left _ hx)).mo u.mo (hB x hx)
    · obtain ⟨y,hy,e⟩:=List.mem_map.1 hx
      split at e
      · rename_i hm
        obtain ⟨z,hz,ez,vs,ho⟩:=hM _ hm
        have:z=y:=nd_eq hnd.2.1 hz hy ez
        subst this
        rw[←e]
        show Own w' z.b z.t (cellsAt w' z.b)
        rw[ho.at_];exact ho
      · rename_i hm
        rw[←e];exact (s.st.own y (List.mem_append_right _ hy)).mo u.mo hm
  · have:x.b∈(B++newY w' M Y).map (·.b):=List.mem_map.2 ⟨x,hx,rfl⟩
    rw[hmb] at this
    obtain ⟨z,hz,e⟩:=List.mem_map.1 this
    rw[←e,u.gr.blk _ (lt_of_some (s.st.jk z hz))];exact s.st.jk z hz
  · have:x.b∈(B++newY w' M Y).map (·.b):=List.mem_map.2 ⟨x,hx,rfl⟩
    rw[hmb] at this
    obtain ⟨z,hz,e⟩:=List.mem_map.1 this
    rw[←e];exact s.st.lo z hz
  · have r0:=s.ro r hr
    refine ⟨own_block r0.own (fun c hc=>u.mo.blk c (own_lt r0.own hc) (fun hm=>?_)),fun c hc=>(u.gr.blk c (r0.lt hc)).trans (r0.jk c hc),fun c hc hm=>r0.ap c hc (by rw[←hmb];exact hm)⟩
    obtain ⟨y,hy,e,_⟩:=hM c hm
    exact r0.ap c hc (by rw[←e];exact List.mem_map.2 ⟨y,List.mem_append_right _ hy,rfl⟩)
theorem SS.retake2 {F':List (Hp→Prop)}(s:SS w0 h0 w h B [] F')(h1:Hp)(T:List TypeId)(hF:AllF F h1)(mo:∀ p∈F,∀ h h',Gw h h'→p h→p h')(gw:Gw h1 h)(hlo:h0.size≤h1.size)(hT:T.all (· != 0)=true:=by kernel_rfl) :
    ∃ Y h'',SS w0 h0 w h'' (B++Y) [] F∧(∀ b t vs,Nw h1.size h b t vs→t∈T→(⟨b,t,vs⟩:Bx)∈Y)∧(Y.map (·.b)).Nodup∧(∀ b t vs,Nw h1.size h b t vs→t ∉ T→Nw h1.size h'' b t vs)∧(∀ y∈Y,y.t∈T):=by
  have hT':(0:TypeId) ∉ T:=fun hm=>by
    have:=(List.all_eq_true.1 hT) 0 hm
    simp at this
  have hz:∀ y∈zone h h1.size T,h1.size≤y.b∧y.t∈T∧h[y.b]?=some (.cells y.vs.toArray y.t (0,0)):=fun y hy=>zone_mem.1 hy
  have hzj:∀ y∈zone h h1.size T,h[y.b]?≠some junk:=fun y hy e=>by
    obtain ⟨_,h2,h3⟩:=hz y hy
    rw[e] at h3
    injection h3 with h3
    unfold junk at h3
    injection h3 with _ h4
    exact hT' (h4▸h2)
  have hlt:∀ y∈zone h h1.size T,y.b<h.size:=fun y hy=>lt_of_some (hz y hy).2.2
  have hBne:∀ x∈B,∀ y∈zone h h1.size T,y.b≠x.b:=fun x hx y hy e=>hzj y hy (e▸s.st.jk x hx)
  have gw2:Gw h1 (unzone h (zone h h1.size T)):=⟨by rw[unzone_size];exact gw.size,fun b hb=>by
    rw[unzone_ne (fun y hy e=>by have:=(hz y hy).1;omega)]
    exact gw.blk b hb⟩
  refine ⟨zone h h1.size T,unzone h (zone h h1.size T),⟨s.g0,⟨⟨s.st.up.ext,⟨by rw[unzone_size];exact s.st.up.gr.size,fun b hb=>?_⟩,⟨by rw[unzone_size];exact s.st.up.g.size,fun b=>?_⟩⟩,?_,?_,?_,?_⟩,fun r hr=>(by cases hr),.nil,mo,hF.gw mo gw2⟩,?_,zone_nodup _ _ _,?_,fun y hy=>(hz y hy).2.1⟩
  · rw[unzone_ne (fun y hy e=>by have:=(hz y hy).1;omega)];exact s.st.up.gr.blk b hb
  · by_cases hm:∃ y∈zone h h1.size T,y.b=b
    · obtain ⟨y,hy,e⟩:=hm
      subst e
      exact .inr (unzone_mem hy (hlt y hy))
    · rw[unzone_ne (fun y hy e=>hm ⟨y,hy,e⟩)];exact s.st.up.g.blk b
  · intro x hx
    rcases List.mem_append.1 hx with hx|hx
    · exact s.st.own x hx
    · rcases s.st.up.g.blk x.b with e|e
      · exact e.symm.trans (hz x hx).2.2
      · exact absurd e (hzj x hx)
  · intro x hx
    rcases List.mem_append.1 hx with hx|hx
    · rw[unzone_ne (hBne x hx)];exact s.st.jk x hx
    · exact unzone_mem hx (hlt x hx)
  · intro x hx
    rcases List.mem_append.1 hx with hx|hx
    · exact s.st.lo x hx
    · exact Nat.le_trans hlo (hz x hx).1
  · rw[List.map_append,List.nodup_append]
    refine ⟨s.st.nd,zone_nodup _ _ _,fun a ha c hc e=>?_⟩
    obtain ⟨x,hx,e1⟩:=List.mem_map.1 ha
    obtain ⟨y,hy,e2⟩:=List.mem_map.1 hc
    have e1':x.b=a:=e1
    have e2':y.b=c:=e2
    exact hBne x hx y hy oM
  · intro b t vs n ht
    exact zone_mem.2 ⟨n.1,ht,n.2.2⟩
  · intro b t vs n ht
    refine ⟨n.1,n.2.1,?_⟩
    rw[unzone_ne (fun y hy e=>?_)];exact n.2.2
    obtain ⟨_,h2,h3⟩:=hz y hy
    rw[e,n.2.2] at h3
    injection h3 with h3
    injection h3 with _ h4
    exact ht (h4▸h2)
end zone
def RetMs (M:List Nat)(w0:World)(h0:Hp)(Φ:Value→World→Hp→Prop):Ending→World→Prop:=fun e w'=>∃ v h',e=.returned v∧UpM M w0 h0 w' h'∧Φ v w' h'
section ret
variable {P:Program} {n:Nat} {Γ:Env} {w:World} {h:Hp} {w0 wz:World} {h0 hz:Hp} {B:List Bx} {Rs:List Rw} {F:List (Hp→Prop)}
theorem SS.retMs {fn:Func}{M:List Nat}{Φ:Value→World→Hp→Prop}(s:SS wz hz w h B Rs F)(um:UpM M w0 h0 w h)(ps:List (Nat × Nat × Nat))(v:Value)(hΦ:Φ v w h)(hk:(resK fn Γ && partsOk B ps)=true:=by kernel_rfl)(he:evalL P (resE fn Γ) (partsV B ps)=some (v,partsA B ps):=by kernel_rfl):∀ a,Kn n a Γ→RetP P fn (RetMs M w0 h0 Φ) a w:=by
  intro a ka
  rw[Bool.and_eq_true] at hk
  refine ⟨ka.df,v,?_,v,h,rfl,um,hΦ⟩
  rw[results_env ka hk.1]
  exact evalL_run _ _ _ _ he (parts_cells s.st.own ps hk.2)
end ret
section call
variable {M:Ms} {P:Program} {n:Nat} {N R:Po} {X:Nat→Po} {ops:Array Oper} {k0:Nat} {hr:Hp} {AL:List Al} {L:Array Bool} {Γ:Env} {w:World} {h:Hp} {w0:World} {h0:Hp} {B:List Bx} {Rs:List Rw} {F:List (Hp→Prop)}
theorem eCms (i t:Nat){f:FuncId}{args:Array Value}{Ml:List Nat}{Φ:World→Hp→Value→World→Hp→Prop}(s:SS w0 h0 w h B Rs F)(hMl:Ml=M.l)(c:∀ w1 h1,SS w0 h0 w1 h1 B Rs F→Calls P f args w1 (RetMs Ml w1 h1 (Φ w1 h1)))(H:∀ w1 h1 v w' h',SS w0 h0 w1 h1 B Rs F→UpM Ml w1 h1 w' h'→Φ w1 h1 v w' h'→EG M P n N R X ops k0 hr AL (L.setIfInBounds i true) ((t,v)::Γ) w' h')(hc:cEv n ops k0 AL L Γ i t=true:=by kernel_rfl)(hv:∀ w,(execOp (ev Γ) (opAt ops i)).run P w=.ok (.enter f args) w:=by intro _;kernel_rfl):EG M P n N R X ops k0 hr AL L Γ w h :=
  Rg.call i t f args (cEv_1 hc).1 (cEv_1 hc).2 hv (fun w1 h1 u=>(c w1 h1 (s.step u)).mono fun e w' ⟨v,h',he,u2,hΦ⟩=>⟨v,h',he,u2.weak (fun b hb=>by rw[←hMl];exact hb),H w1 h1 v w' h' (s.step u) u2 hΦ⟩)
theorem SS.tail_ne {Y:List Bx}{Ml:List Nat}(s:SS w0 h0 w h (B++Y) Rs F)(hM:∀ c∈Ml,∃ y∈Y,y.b=c)(j:Nat)(hj:decide (j<B.length)=true:=by kernel_rfl):(bxAt (B++Y) j).b ∉ Ml:=fun hm=>by
  obtain ⟨y,hy,e⟩:=hM _ hm
  have hj':=oT hj
  have hnd:=s.st.nd
  rw[List.map_append,List.nodup_append] at hnd
  have e2:bxAt (B++Y) j=B[j]:=by unfold bxAt;simp[List.getElem?_append_left,hj']
  rw[e2] at e
  exact hnd.2.2 B[j].b (List.mem_map.2 ⟨_,List.getElem_mem hj',rfl⟩) y.b (List.mem_map.2 ⟨y,hy,rfl⟩) e.symm
theorem SS.tail_jk {Y:List Bx}{Ml:List Nat}(s:SS w0 h0 w h (B++Y) Rs F)(hM:∀ c∈Ml,∃ y∈Y,y.b=c):∀ c∈Ml,h[c]?=some junk:=fun c hc=>by
  obtain ⟨y,hy,e⟩:=hM c hc
  rw[←e];exact s.st.jk y (List.mem_append_right _ hy)
end call
theorem own_el {l:List Rat}{sp:List Value}{k:Nat}(hk:k<l.length):((l.flatMap qc++sp).drop (0+k*5)).take (qc (l.getD k 0)).length=qc (l.getD k 0):=by
  have hf:∀ x:Rat,(qc x).length=5:=fun _=>rfl
  have hl:=len_flat hf l
  have h1:(k+1)*5≤l.length*5:=Nat.mul_le_mul_right _ hk
  rw[List.drop_append_of_le_length (by rw[hl];omega),List.take_append_of_le_length (by rw[List.length_drop,hl];show 5≤_;omega)]
  exact row_el hf 0 l k hk
theorem own_le {l:List Rat}{sp:List Value}{k:Nat}{x:Rat}(hk:k<l.length):0+k*5+(qc x).length≤(l.flatMap qc++sp).length:=by
  have hf:∀ x:Rat,(qc x).length=5:=fun _=>rfl
  have hl:=len_flat hf l
  have h1:(k+1)*5≤l.length*5:=Nat.mul_le_mul_right _ hk
  rw[List.length_append,hl];show 0+k*5+5≤_;omega
theorem putAt_app:∀ (cs a b:List Value) (o:Nat),o+cs.length≤a.length→putAt (a++b) o cs=putAt a o cs++b
  | [],_,_,_,_=>rfl
  | c::cs,a,b,o,h=>by
    rw[List.length_cons] at h
    show putAt ((a++b).set o c) (o+1) cs=putAt (a.set o c) (o+1) cs++b
    rw[List.set_append_left _ _ oM]
    exact putAt_app cs _ b (o+1) (by rw[List.length_set];omega)
theorem own_put {l:List Rat}{sp:List Value}{k:Nat}{x:Rat}(hk:k<l.length):putAt (l.flatMap qc++sp) (0+k*5) (qc x)=(l.set k x).flatMap qc++sp:=by
  have hf:∀ x:Rat,(qc x).length=5:=fun _=>rfl
  have hl:=len_flat hf l
  have h1:(k+1)*5≤l.length*5:=Nat.mul_le_mul_right _ hk
  rw[putAt_app _ _ _ _ (by rw[hl];show 0+k*5+5≤_;omega),Nat.zero_add,putAt_flat hf l k x hk]
theorem sumq_len (L:Lay)(x:List Rat):(sumq L x).length=L.W.length:=by simp[sumq]
theorem sumq_get {L:Lay}{x:List Rat}{i:Nat}(h:i<L.W.length):(sumq L x).getD i 0=sumr L x i:=getD_mapR h
theorem acc_step {l:List Rat}{g δ:Nat→Rat}{i:Nat}(hi:i<l.length)(hv:∀ a,l.getD a 0=g a+(if a<i then δ a else 0)):∀ a,(l.set i (l.getD i 0+δ i)).getD a 0=g a+(if a<i+1 then δ a else 0):=fun a=>by
  rw[getD_set_ hi]
  split
  · rename_i e;subst e
    rw[hv a,if_neg (Nat.lt_irrefl a),if_pos (Nat.lt_succ_self a),Rat.add_zero]
  · rename_i e
    rw[hv a]
    by_cases h:a<i
    · rw[if_pos h,if_pos oM]
    · rw[if_neg h,if_neg oM]
theorem acc_stepc {l:List Rat}{g δ:Nat→Rat}{i c:Nat}(hi:i<l.length)(hic:i<c)(hv:∀ a,a<c→l.getD a 0=g a+(if a<i then δ a else 0)):∀ a,a<c→(l.set i (l.getD i 0+δ i)).getD a 0=g a+(if a<i+1 then δ a else 0):=fun a ha=>by
  rw[getD_set_ hi]
  split
  · rename_i e;subst e
    rw[hv a ha,if_neg (Nat.lt_irrefl a),if_pos (Nat.lt_succ_self a),Rat.add_zero]
  · rename_i e
    rw[hv a ha]
    by_cases h:a<i
    · rw[if_pos h,if_pos oM]
    · rw[if_neg h,if_neg oM]
theorem getD_setL {α:Type}{l:List α}{n i:Nat}{d x:α}(h:i≠n):(l.set n x).getD i d=l.getD i d:=by
  rw[List.getD_eq_getElem?_getD,List.getElem?_set_ne (Ne.symm h),←List.getD_eq_getElem?_getD]
theorem getD_setS {l:List (List Rat)}{n:Nat}{x:List Rat}(h:n<l.length):(l.set n x).getD n []=x:=by
  rw[List.getD_eq_getElem?_getD,List.getElem?_set_self h];rfl
theorem acc_len {Wc:List (List Rat)}{rw_:List Rat}{i r c:Nat}(hW:∀ a,a<r→(Wc.getD a []).length=c)(hr:rw_.length=c):∀ a,a<r→((Wc.set i rw_).getD a []).length=c:=fun a ha=>by
  by_cases e:a=i
  · subst e
    by_cases h:a<Wc.length
    · rw[getD_setS h];exact hr
    · rw[List.set_eq_of_length_le oM];exact hW a ha
  · rw[getD_setL e];exact hW a ha
theorem acc_rows {Wc:List (List Rat)}{rw_:List Rat}{g δ:Nat→Nat→Rat}{i r c:Nat}(hi:i<Wc.length)(hv:∀ a,a<r→∀ b,(Wc.getD a []).getD b 0=g a b+(if a<i then (if b<c then δ a b else 0) else 0))(hr:∀ b,rw_.getD b 0=g i b+(if b<c then δ i b else 0)) :
    ∀ a,a<r→∀ b,((Wc.set i rw_).getD a []).getD b 0=g a b+(if a<i+1 then (if b<c then δ a b else 0) else 0):=fun a ha b=>by
  by_cases e:a=i
  · subst e;rw[getD_setS hi,hr b,if_pos (Nat.lt_succ_self a)]
  · rw[getD_setL e,hv a ha b]
    by_cases h:a<i
    · rw[if_pos h,if_pos (show a<i+1 by omega)]
    · rw[if_neg h,if_neg (show ¬a<i+1 by omega)]
theorem own_rows {wd:World}{bk:Nat→Nat}{sp:Nat→List Value}{Wc:List (List Rat)}{rw_:List Rat}{i r bR:Nat}(hi:i<Wc.length)(hor:∀ a,a<r→a≠i→Own wd (bk a) 73 ((Wc.getD a []).flatMap qc++sp a))(hoi:Own wd bR 73 (rw_.flatMap qc++sp i))(hb:bR=bk i):∀ a,a<r→Own wd (bk a) 73 (((Wc.set i rw_).getD a []).flatMap qc++sp a):=fun a ha=>by
  by_cases e:a=i
  · subst e;rw[getD_setS hi,←hb];exact hoi
  · rw[getD_setL e];exact hor a ha e
theorem map_of' {pl:List Rat}{f:Nat→Rat}{n:Nat}(hl:pl.length=n)(hp:∀ j,j<n→pl.getD j 0=f j):pl=(List.range n).map f:=map_of hp rfl hl
theorem down_of {L:Lay}{xs bar dl:List Rat}{r c:Nat}(hx:xs.length=c)(hr:L.W.length=r)(hl:dl.length=c)(hv:∀ b,b<c→dl.getD b 0=sumF (fun a=>delq L xs bar a*(L.W.getD a []).getD b 0) r):dl=downq L xs bar:=by
  unfold downq;rw[hx,hr];exact map_of' hl hv
theorem acc_row {S L:Lay}{xs bar:List Rat}{Wc:List (List Rat)}{r c:Nat}(m:Mat L.W r c)(hx:xs.length=c)(hl:∀ a,a<r→(Wc.getD a []).length=c)(hv:∀ a,a<r→∀ b,(Wc.getD a []).getD b 0=(S.W.getD a []).getD b 0+(if a<r then (if b<c then delq L xs bar a*xs.getD b 0 else 0) else 0))(j:Nat)(hj:j<r):Wc.getD j []=(accl S L xs bar).W.getD j []:=by
  show _=(List.map _ _).getD j []
  rw[getD_mapR (by rw[m.rows];exact hj),hx]
  exact map_of' (hl j hj) (fun b hb=>by rw[hv j hj b,if_pos hj,if_pos hb])
theorem acc_B {S L:Lay}{xs bar Bc:List Rat}{r c:Nat}(m:Mat L.W r c)(hl:Bc.length=r)(hv:∀ a,Bc.getD a 0=S.B.getD a 0+(if a<r then delq L xs bar a else 0)):Bc=(accl S L xs bar).B:=by
  show _=List.map _ _
  rw[m.rows]
  exact map_of' hl (fun a ha=>by rw[hv a,if_pos ha])
theorem lq_sumF {f:Nat→Rat}{K:Nat}(h:∀ i,LQ K (f i)):∀ n,LQ (n*(K+1)+1) (sumF f n)
  | 0=>lq0 oM
  | n+1=>((lq_sumF h n).add (h n)).mono (by rw[Nat.add_mul];omega)
theorem nBackward (L:Lay)(r c:Nat)(mt:Mat L.W r c)(hr5:r≤5)(hc20:c≤20)(hk:L.k=1∨L.k=2∨L.k=3)(AW:Option Addr)(cW:Nat)(usW:List Value)(AB:Option Addr)(cB nB:Nat)(zk:Int)(AS:Option Addr)(cS:Nat)(usS:List Value)(cSB:Nat)(bk:Nat→Nat)(sp:Nat→List Value)(S:Lay)(hSl:usS.length=r)(hSv:∀ j,j<r→∃ cc,c≤cc∧usS.getD j undef=.slice (some ⟨bk j,0,none⟩) c cc)(hcSB:r≤cSB)(hSr:∀ j,j<r→(S.W.getD j []).length=c)(hSb:S.B.length=r)(hSw:S.W.length=r)(hinj:∀ i j,i≤r→j≤r→bk i=bk j→i=j)(I_:Option Addr)(cI:Nat)(xs:List Rat)(hx:xs.length=c)(V:Option Addr)(cV:Nat)(Z:Option Addr)(cZ:Nat)(bar:List Rat)(hbl:bar.length=r)(hbar:∀ j,LQ 10500000 (bar.getD j 0))(hsu:∀ j,LQ 21000 (sumr L xs j))(hxq:∀ j,LQ 42000 (xs.getD j 0))(hwq:∀ i j,LQ 1 ((L.W.getD i []).getD j 0))(hSq:∀ i j,LQ 45000000 ((S.W.getD i []).getD j 0))(hSqB:∀ j,LQ 45000000 (S.B.getD j 0))(bB:Nat)(hbB:bB=bk r)(w:World)(h:Hp)(g:G w h)(hoR:∀ j,j<r→Own w (bk j) 73 ((S.W.getD j []).flatMap qc++sp j))(hoB:Own w (bk r) 73 (S.B.flatMap qc++sp r))(hj:∀ j,j≤r→h[bk j]?=some junk)(hAW:SlO 1 vc undef h AW usW)(hUW:QVs h usW L.W)(hAS:SlO 1 vc undef h AS usS)(hI:SlO 5 qc 0 h I_ xs)(hV:SlO 5 qc 0 h V (sumq L xs))(hZ:SlO 5 qc 0 h Z bar)(tb:Tab h) :
    Calls Tryz.prog 134 #[.agg #[.int .i64 L.k,.slice AW usW.length cW,.slice AB nB cB],.agg #[.int .i64 zk,.slice AS usS.length cS,.slice (some ⟨bB,0,none⟩) r cSB],.slice I_ xs.length cI,.slice V ((sumq L xs).length) cV,.slice Z bar.length cZ] w (RetMs ((List.range (r+1)).map bk) w h fun v w' h1=>∃ A c,v=.slice A (downq L xs bar).length c∧(downq L xs bar).length≤c∧SlO 5 qc 0 h1 A (downq L xs bar)∧(∀ j,j<r→Own w' (bk j) 73 (((accl S L xs bar).W.getD j []).flatMap qc++sp j))∧Own w' (bk r) 73 ((accl S L xs bar).B.flatMap qc++sp r)):=by
 obtain ⟨Mb,hMb⟩:∃ M,M=(List.range (r+1)).map bk:=⟨_,rfl⟩
 rw[←hMb]
 have hmem:∀ j,j≤r→bk j∈Mb:=fun j hj=>by rw[hMb];exact List.mem_map.2 ⟨j,List.mem_range.2 oM,rfl⟩
 have hMj:∀ c∈Mb,h[c]?=some junk:=fun c hc=>by
   rw[hMb] at hc
   obtain ⟨j,hj1,e⟩:=List.mem_map.1 hc
   rw[←e];exact hj j (by have:=List.mem_range.1 hj1;omega)
 have hmB:bB∈Mb:=by rw[hbB];exact hmem r (Nat.le_refl _)
 replace hoB:Own w bB 73 (S.B.flatMap qc++sp r):=by rw[hbB];exact hoB
 obtain ⟨wd,hdf,hoR,hoB,hs⟩:∃ wd,Dif Mb w wd∧(∀ j,j<r→Own wd (bk j) 73 ((S.W.getD j []).flatMap qc++sp j))∧Own wd bB 73 (S.B.flatMap qc++sp r)∧SS wd h w h [] [] []:=⟨w,Dif.refl _ _,hoR,hoB,SS.start g⟩
 replace hs:=(((((((hs.a_SlO hAW).add (K:=fun h_=>QVs h_ usW L.W) hUW).a_SlO hAS).a_SlO hI).a_SlO hV).a_SlO hZ).add (K:=fun h_=>Tab h_) tb)
 have hlW:=(hs.f.2.2.2.2.2.1).len
 have hrows:=mt.rows
 have hlV:(sumq L xs).length=r:=by rw[sumq_len];exact mt.rows
 refine go Tryz.func134 [(0,.agg #[.int .i64 L.k,.slice AW usW.length cW,.slice AB nB cB]),(1,.agg #[.int .i64 zk,.slice AS usS.length cS,.slice (some ⟨bB,0,none⟩) r cSB]),(2,.slice I_ xs.length cI),(3,.slice V ((sumq L xs).length) cV),(4,.slice Z bar.length cZ)] rfl ?_
 refine cSL (lA 5 77 ([.int .i64 L.k,.slice AW usW.length cW,.slice AB nB cB]) hs (fun b1 w2 h3 hs=>?_))
 refine lA 6 77 ([.int .i64 zk,.slice AS usS.length cS,.slice (some ⟨bB,0,none⟩) r cSB]) hs (fun b4 w5 h6 hs=>?_)
 refine lL hs [.v 10 (.slice none 0 0)] (lNS (lL hs [.m 16 2,.v 17 (.int .i64 (xs.length:Nat))] (lK 18 73 xs.length 5 56 (.agg #[.bool false,.int .u64 0,.string ⟨#[]⟩,.int .u64 0,.string ⟨#[]⟩]) qc 0 hs (fun b7 w8 h9 hs=>?_))))
 have hl10:(List.replicate xs.length 0).length=xs.length:=by simp
 refine lL hs [.m 11 18] (lN (CG.seq (cSL (lL hs [.v 19 (.pointer (some ⟨b1,1,none⟩)),.o 20 (.slice AW usW.length cW) 2 1 1,.v 21 (.int .i64 (usW.length:Nat)),.v 22 (.int .i64 0)] (lN (CG.block (cTo [(2,.slice I_ xs.length cI),(3,.slice V ((sumq L xs).length) cV),(4,.slice Z bar.length cZ),(5,.pointer (some ⟨b1,0,none⟩)),(6,.pointer (some ⟨b4,0,none⟩)),(10,.slice none 0 0),(11,.slice (some ⟨b7,0,none⟩) xs.length xs.length),(20,.slice AW usW.length cW),(21,.int .i64 (usW.length:Nat)),(22,.int .i64 0)] ?_)))))))
 refine CG.loop (fun μ_ Γ w_=>∃ (i:Nat) (Wc:List (List Rat)) (Bc:List Rat) (dl:List Rat) (wd:World) (h_:Hp),μ_=usW.length-i∧Γ=[(2,.slice I_ xs.length cI),(3,.slice V ((sumq L xs).length) cV),(4,.slice Z bar.length cZ),(5,.pointer (some ⟨b1,0,none⟩)),(6,.pointer (some ⟨b4,0,none⟩)),(10,.slice none 0 0),(11,.slice (some ⟨b7,0,none⟩) xs.length xs.length),(20,.slice AW usW.length cW),(21,.int .i64 (usW.length:Nat)),(22,.int .i64 (i:Nat))]∧SS wd h w_ h_ [⟨b7,73,(dl).flatMap qc⟩,⟨b4,77,[.int .i64 zk,.slice AS usS.length cS,.slice (some ⟨bB,0,none⟩) r cSB]⟩,⟨b1,77,[.int .i64 L.k,.slice AW usW.length cW,.slice AB nB cB]⟩] [] [fun h_=>Tab h_,fun h_=>SlO 5 qc 0 h_ Z bar,fun h_=>SlO 5 qc 0 h_ V (sumq L xs),fun h_=>SlO 5 qc 0 h_ I_ xs,fun h_=>SlO 1 vc undef h_ AS usS,fun h_=>QVs h_ usW L.W,fun h_=>SlO 1 vc undef h_ AW usW]∧(i≤usW.length)∧(dl.length=xs.length)∧(∀ a,a<r→(Wc.getD a []).length=c)∧(Wc.length=S.W.length)∧(∀ a,a<r→∀ b,(Wc.getD a []).getD b 0=(S.W.getD a []).getD b 0+(if a<i then (if b<c then delq L xs bar a*xs.getD b 0 else 0) else 0))∧(Bc.length=r)∧(∀ a,Bc.getD a 0=S.B.getD a 0+(if a<i then delq L xs bar a else 0))∧(∀ b,b<c→dl.getD b 0=sumF (fun a=>delq L xs bar a*(L.W.getD a []).getD b 0) i)∧(Dif Mb w wd)∧(∀ a,a<r→Own wd (bk a) 73 ((Wc.getD a []).flatMap qc++sp a))∧(Own wd bB 73 (Bc.flatMap qc++sp r))) _ ⟨0,S.W,S.B,List.replicate xs.length 0,wd,h9,rfl,rfl,hs.to _ _,Nat.zero_le _,(by simp),hSr,rfl,(fun a _ b=>by rw[if_neg (Nat.not_lt_zero a),Rat.add_zero]),hSb,(fun a=>by rw[if_neg (Nat.not_lt_zero a),Rat.add_zero]),(fun b _=>rep_zero b),hdf,hoR,hoB⟩ ?_
 rintro _ _ w11 ⟨i,Wc,Bc,dl,wd,h12,hm13,rfl,hs,hi,hdl,hWl,hWn,hWv,hBl,hBv,hdv,hdf,hoR,hoB⟩
 refine cSL ?_
 cases hb14:(decide (((i:Nat):Int)<((usW.length:Nat):Int)))
 ·
  have phb14:=oF hb14
  refine lB 23 hb14 ?_
  refine lN (CG.seq (cIF (CG.exit ?_)))
  show CG _ _ _ _ _ _ _ _
  refine cSL (lL hs [.m 93 11,.m 10 93] (lN (CG.ret ?_)))
  have hir:i=r:=by omega
  have hde:dl=downq L xs bar:=down_of hx mt.rows oM (by rw[←hir];exact hdv)
  rw[hir] at hWv hBv
  obtain ⟨h15,hs,sg16,lo17,bc18⟩:=hs.pub 0
  replace hs:=(hs.to [⟨b4,77,[.int .i64 zk,.slice AS usS.length cS,.slice (some ⟨bB,0,none⟩) r cSB]⟩,⟨b1,77,[.int .i64 L.k,.slice AW usW.length cW,.slice AB nB cB]⟩] []).a_SlO (SlO.of_flat (sz:=5) (f:=qc) (d:=0) (b:=b7) (o:=0) (l:=dl) (fun _=>rfl) sg16)
  exact hs.retMs (hs.upF hdf) [] (.slice (some ⟨b7,0,none⟩) xs.length xs.length) ⟨some ⟨b7,0,none⟩,xs.length,by rw[←hde,hdl],by rw[←hde,hdl];exact Nat.le_refl _,by rw[←hde];exact (hs.f.1),fun j hj=>by rw[←acc_row mt hx hWl hWv j hj];exact hs.fown (hoR j hj),by rw[←acc_B mt hBl hBv];exact hbB▸hs.fown hoB⟩
 have phb14:=oT hb14
 refine lB 23 hb14 ?_
 refine lN (CG.seq (cIT (CG.skipN (CG.seq (CG.block (cSL ?_))))))
 have hmi:=mt.row i oM
 obtain ⟨cc,hcc,eR⟩:=hSv i oM
 obtain ⟨bR,hbR⟩:∃ b,b=bk i:=⟨_,rfl⟩
 rw[←hbR] at eR
 have hmR:bR∈Mb:=by rw[hbR];exact hmem i oM
 have hBq:LQ 45000000 (Bc.getD i 0):=by rw[hBv i,if_neg (Nat.lt_irrefl i),Rat.add_zero];exact hSqB i
 have hdD:LQ 10542006 (bar.getD i 0*slp L.k (sumr L xs i)):=(hbar i).mul (LQ.slp L.k (hsu i))
 have hde_:∀ a,LQ 10542006 (delq L xs bar a):=fun a=>(hbar a).mul (LQ.slp L.k (hsu a))
 have hfa:∀ b a,LQ (10542006+1) (delq L xs bar a*(L.W.getD a []).getD b 0):=fun b a=>(hde_ a).mul (hwq a b)
 refine lL hs [.m 24 22] (lX 25 AW usW.length cW 1 (i:Nat) i ((hs.f.2.2.2.2.2.2.1).ok oM) ?_)
 obtain ⟨Aqw,cqw,eqw,hcqw,hRqw⟩:=(hs.f.2.2.2.2.2.1).at_ i oM
 replace hs:=(hs.a_SlO hRqw)
 refine lHe 26 (usW.getD i undef) hs ((hs.f.2.2.2.2.2.2.2.1).el i oM) eqw ?_
 refine lL hs [.m 12 24,.m 13 26] (lN (CG.seq ?_))
 have hsr:=hs
 refine cR 13 [⟨12,14,.cells (List.toArray [.bool false,.int .u64 0,.string ⟨#[]⟩,.int .u64 0,.string ⟨#[]⟩]) 73 (0,0)⟩] mixed hs (al_cons (alOk kR (fun _ _=>by kernel_rfl)) al_nil) ?_
 refine eV 0 27 (.slice Z bar.length cZ) ?_
 refine eV 1 28 (.int .i64 (i:Nat)) ?_
 refine eX 2 29 Z bar.length cZ 5 (i:Nat) i ((hs.f.2.2.1).ok oM) ?_
 refine eH 3 30 (qv (bar.getD i 0)) hs ((hs.f.2.2.1).el i oM) ?_
 refine eV 4 31 (.pointer (some ⟨b1,0,none⟩)) ?_
 refine eO 5 32 [(2,0,1)] (.int .i64 L.k) hs ?_
 refine eV 6 33 (.slice V ((sumq L xs).length) cV) ?_
 refine eV 7 34 (.int .i64 (i:Nat)) ?_
 refine eX 8 35 V ((sumq L xs).length) cV 5 (i:Nat) i ((hs.f.2.2.2.1).ok oM) ?_
 refine eHe 9 36 (qv ((sumq L xs).getD i 0)) hs ((hs.f.2.2.2.1).el i oM) (by rw[sumq_get oM]) ?_
 refine eC 10 37 hs (fun _ _ hs=>nSlope L.k hk (sumr L xs i) ((hsu i).mono oM) _ _ hs.g (hs.f.2.1)) ?_
 rintro _ _ _ w20 h21 hs rfl
 have hq22:=LQ.mul (hbar i) (LQ.slp L.k (hsu i))
 refine eC 11 38 hs (fun _ _ hs=>fMul (bar.getD i 0) (slp L.k (sumr L xs i)) (LQ.mono (hbar i) oM) (LQ.mono (LQ.slp L.k (hsu i)) oM) _ _ hs.g (hs.f.2.1)) ?_
 rintro _ _ _ w23 h24 hs rfl
 refine eD1p [] hsr hs 73 [.bool false,.int .u64 0,.string ⟨#[]⟩,.int .u64 0,.string ⟨#[]⟩] (fun w25 h26 b27 hs=>?_)
 refine tP 13 0 0 (qc ((bar.getD i 0)*(slp L.k (sumr L xs i)))) hs (fun w28 hs=>?_)
 refine tN (CG.seq (cR 10 [] mixed hs al_nil ?_))
 refine eV 0 39 (.pointer (some ⟨b4,2,none⟩)) ?_
 refine eO 1 40 [(2,2,1)] (.slice (some ⟨bB,0,none⟩) r cSB) hs ?_
 refine eV 2 41 (.int .i64 (i:Nat)) ?_
 refine eV 3 42 (.pointer (some ⟨b4,2,none⟩)) ?_
 refine eO 4 43 [(2,2,1)] (.slice (some ⟨bB,0,none⟩) r cSB) hs ?_
 refine eV 5 44 (.int .i64 (i:Nat)) ?_
 refine eX 6 45 (some ⟨bB,0,none⟩) r cSB 5 (i:Nat) i rfl ?_
 refine eFg 7 46 (qv (Bc.getD i 0)) (qc (Bc.getD i 0)) (o:=0+i*5) hs hoB (own_el oM) ?_
 refine eO 8 47 [(0,0,5)] (qv ((bar.getD i 0)*(slp L.k (sumr L xs i)))) hs ?_
 have hq29:=LQ.add hBq hq22
 refine eC 9 48 hs (fun _ _ hs=>fAdd (Bc.getD i 0) ((bar.getD i 0)*(slp L.k (sumr L xs i))) (LQ.mono hBq oM) (LQ.mono hq22 oM) _ _ hs.g (hs.f.2.1)) ?_
 rintro _ _ _ w30 h31 hs rfl
 refine eD0 hs (fun w32 h33 hs=>?_)
 refine tX 10 49 (some ⟨bB,0,none⟩) r cSB 5 (i:Nat) i rfl ?_
 refine tFg 11 (0+i*5) (qc ((Bc.getD i 0)+((bar.getD i 0)*(slp L.k (sumr L xs i))))) hs hdf hMj hmB hoB (own_le oM) (fun w34 wd2 hdf2 hoB2 hoth hs=>?_)
 rw[own_put oM] at hoB2
 have hoR2:∀ a,a<r→Own wd2 (bk a) 73 ((Wc.getD a []).flatMap qc++sp a):=fun a ha=>hoth _ _ _ (fun e=>by rw[hbB] at e;have:=hinj a r oM oM e;omega) (hoR a ha)
 refine tNS ?_
 refine lL hs [.m 50 13,.v 51 (.int .i64 ((L.W.getD i []).length:Nat)),.v 52 (.int .i64 0)] (lN (cTo [(2,.slice I_ xs.length cI),(3,.slice V ((sumq L xs).length) cV),(4,.slice Z bar.length cZ),(5,.pointer (some ⟨b1,0,none⟩)),(6,.pointer (some ⟨b4,0,none⟩)),(10,.slice none 0 0),(11,.slice (some ⟨b7,0,none⟩) xs.length xs.length),(20,.slice AW usW.length cW),(21,.int .i64 (usW.length:Nat)),(22,.int .i64 (i:Nat)),(12,.int .i64 (i:Nat)),(13,.slice Aqw ((L.W.getD i []).length) cqw),(14,.pointer (some ⟨b27,0,none⟩)),(51,.int .i64 ((L.W.getD i []).length:Nat)),(52,.int .i64 0)] ?_))
 refine CG.block (cTo [(2,.slice I_ xs.length cI),(3,.slice V ((sumq L xs).length) cV),(4,.slice Z bar.length cZ),(5,.pointer (some ⟨b1,0,none⟩)),(6,.pointer (some ⟨b4,0,none⟩)),(10,.slice none 0 0),(11,.slice (some ⟨b7,0,none⟩) xs.length xs.length),(20,.slice AW usW.length cW),(21,.int .i64 (usW.length:Nat)),(22,.int .i64 (i:Nat)),(12,.int .i64 (i:Nat)),(13,.slice Aqw ((L.W.getD i []).length) cqw),(14,.pointer (some ⟨b27,0,none⟩)),(51,.int .i64 ((L.W.getD i []).length:Nat)),(52,.int .i64 0)] ?_)
 refine CG.loop (fun μ_ Γ w_=>∃ (j:Nat) (rw_:List Rat) (dl2:List Rat) (wd:World) (h_:Hp),μ_=(L.W.getD i []).length-j∧Γ=[(2,.slice I_ xs.length cI),(3,.slice V ((sumq L xs).length) cV),(4,.slice Z bar.length cZ),(5,.pointer (some ⟨b1,0,none⟩)),(6,.pointer (some ⟨b4,0,none⟩)),(10,.slice none 0 0),(11,.slice (some ⟨b7,0,none⟩) xs.length xs.length),(20,.slice AW usW.length cW),(21,.int .i64 (usW.length:Nat)),(22,.int .i64 (i:Nat)),(12,.int .i64 (i:Nat)),(13,.slice Aqw ((L.W.getD i []).length) cqw),(14,.pointer (some ⟨b27,0,none⟩)),(51,.int .i64 ((L.W.getD i []).length:Nat)),(52,.int .i64 (j:Nat))]∧SS wd h w_ h_ [⟨b27,73,qc ((bar.getD i 0)*(slp L.k (sumr L xs i)))⟩,⟨b7,73,(dl2).flatMap qc⟩,⟨b4,77,[.int .i64 zk,.slice AS usS.length cS,.slice (some ⟨bB,0,none⟩) r cSB]⟩,⟨b1,77,[.int .i64 L.k,.slice AW usW.length cW,.slice AB nB cB]⟩] [] [fun h_=>SlO 5 qc 0 h_ Aqw (L.W.getD i []),fun h_=>Tab h_,fun h_=>SlO 5 qc 0 h_ Z bar,fun h_=>SlO 5 qc 0 h_ V (sumq L xs),fun h_=>SlO 5 qc 0 h_ I_ xs,fun h_=>SlO 1 vc undef h_ AS usS,fun h_=>QVs h_ usW L.W,fun h_=>SlO 1 vc undef h_ AW usW]∧(j≤(L.W.getD i []).length)∧(dl2.length=xs.length)∧(rw_.length=c)∧(∀ b,rw_.getD b 0=(S.W.getD i []).getD b 0+(if b<j then delq L xs bar i*xs.getD b 0 else 0))∧(∀ b,b<c→dl2.getD b 0=sumF (fun a=>delq L xs bar a*(L.W.getD a []).getD b 0) i+(if b<j then delq L xs bar i*(L.W.getD i []).getD b 0 else 0))∧(Dif Mb w wd)∧(∀ a,a<r→a≠i→Own wd (bk a) 73 ((Wc.getD a []).flatMap qc++sp a))∧(Own wd bR 73 (rw_.flatMap qc++sp i))∧(Own wd bB 73 ((Bc.set i (Bc.getD i 0+(bar.getD i 0*slp L.k (sumr L xs i)))).flatMap qc++sp r))) _ ⟨0,Wc.getD i [],dl,wd2,h33,rfl,rfl,hs.to _ _,Nat.zero_le _,hdl,(hWl i oM),(fun b=>by rw[hWv i oM b,if_neg (Nat.lt_irrefl i),if_neg (Nat.not_lt_zero b)]),(fun b hb=>by rw[hdv b hb,if_neg (Nat.not_lt_zero b),Rat.add_zero]),hdf2,(fun a ha _=>hoR2 a ha),(by rw[hbR];exact hoR2 i oM),hoB2⟩ ?_
 rintro _ _ w35 ⟨j,rw_,dl2,wd,h36,hm37,rfl,hs,hj_,hdl2,hrl,hrv,hdv2,hdf,hor,hoi,hoB2⟩
 refine cSL ?_
 cases hb38:(decide (((j:Nat):Int)<(((L.W.getD i []).length:Nat):Int)))
 ·
  have phb38:=oF hb38
  refine lB 53 hb38 ?_
  refine lN (CG.seq (cIF (CG.exit ?_)))
  show CG _ _ _ _ _ _ _ _
  refine CG.listed (lIn 92 ((i:Nat)+1) (i+1) ?_)
  refine lL hs [.m 22 92] (lD ?_)
  intro a_ ka
  have q39:(i+1)≤usW.length:=by omega
  have q40:dl2.length=xs.length:=hdl2
  have q41:∀ a,a<r→((Wc.set i rw_).getD a []).length=c:=(acc_len hWl hrl)
  have q42:(Wc.set i rw_).length=S.W.length:=(by rw[List.length_set];exact hWn)
  have q43:∀ a,a<r→∀ b,((Wc.set i rw_).getD a []).getD b 0=(S.W.getD a []).getD b 0+(if a<(i+1) then (if b<c then delq L xs bar a*xs.getD b 0 else 0) else 0):=(acc_rows oM hWv (by rw[←show j=c by omega];exact hrv))
  have q44:(Bc.set i (Bc.getD i 0+(bar.getD i 0*slp L.k (sumr L xs i)))).length=r:=(by rw[List.length_set];exact hBl)
  have q45:∀ a,(Bc.set i (Bc.getD i 0+(bar.getD i 0*slp L.k (sumr L xs i)))).getD a 0=S.B.getD a 0+(if a<(i+1) then delq L xs bar a else 0):=(acc_step oM hBv)
  have q46:∀ b,b<c→dl2.getD b 0=sumF (fun a=>delq L xs bar a*(L.W.getD a []).getD b 0) (i+1):=(fun b hb=>by rw[hdv2 b hb,if_pos oM];rfl)
  have q47:Dif Mb w wd:=hdf
  have q48:∀ a,a<r→Own wd (bk a) 73 (((Wc.set i rw_).getD a []).flatMap qc++sp a):=(own_rows oM hor hoi hbR)
  have q49:Own wd bB 73 ((Bc.set i (Bc.getD i 0+(bar.getD i 0*slp L.k (sumr L xs i)))).flatMap qc++sp r):=hoB2
  replace hs:=hs.tl
  replace hs:=hs.drop 1 0
  refine ⟨_,_,?_,⟨i+1,Wc.set i rw_,Bc.set i (Bc.getD i 0+(bar.getD i 0*slp L.k (sumr L xs i))),dl2,wd,h36,rfl,rfl,hs.to _ _,q39,q40,q41,q42,q43,q44,q45,q46,q47,q48,q49⟩,ka.to [(2,.slice I_ xs.length cI),(3,.slice V ((sumq L xs).length) cV),(4,.slice Z bar.length cZ),(5,.pointer (some ⟨b1,0,none⟩)),(6,.pointer (some ⟨b4,0,none⟩)),(10,.slice none 0 0),(11,.slice (some ⟨b7,0,none⟩) xs.length xs.length),(20,.slice AW usW.length cW),(21,.int .i64 (usW.length:Nat)),(22,.int .i64 ((i+1):Nat))] kR⟩
  omega
 have phb38:=oT hb38
 refine lB 53 hb38 ?_
 refine lN (CG.seq (cIT (CG.skipN (CG.seq (CG.block (cSL (lL hs [.m 54 52,.m 15 54] (lN (CG.seq (cR 21 [] mixed hs al_nil ?_))))))))))
 have hRq:LQ 45000000 (rw_.getD j 0):=by rw[hrv j,if_neg (Nat.lt_irrefl j),Rat.add_zero];exact hSq i j
 have hDq:LQ (5*(10542006+1+1)+1) (dl2.getD j 0):=by rw[hdv2 j oM,if_neg (Nat.lt_irrefl j),Rat.add_zero];exact (lq_sumF (hfa j) i).mono oM
 refine eV 0 55 (.pointer (some ⟨b4,1,none⟩)) ?_
 refine eO 1 56 [(2,1,1)] (.slice AS usS.length cS) hs ?_
 refine eV 2 57 (.int .i64 (i:Nat)) ?_
 refine eX 3 58 AS usS.length cS 1 (i:Nat) i ((hs.f.2.2.2.2.2.1).ok oM) ?_
 refine eHe 4 59 (usS.getD i undef) hs ((hs.f.2.2.2.2.2.1).el i oM) eR ?_
 refine eV 5 60 (.int .i64 (j:Nat)) ?_
 refine eV 6 61 (.pointer (some ⟨b4,1,none⟩)) ?_
 refine eO 7 62 [(2,1,1)] (.slice AS usS.length cS) hs ?_
 refine eV 8 63 (.int .i64 (i:Nat)) ?_
 refine eX 9 64 AS usS.length cS 1 (i:Nat) i ((hs.f.2.2.2.2.2.1).ok oM) ?_
 refine eHe 10 65 (usS.getD i undef) hs ((hs.f.2.2.2.2.2.1).el i oM) eR ?_
 refine eV 11 66 (.int .i64 (j:Nat)) ?_
 refine eX 12 67 (some ⟨bR,0,none⟩) c cc 5 (j:Nat) j rfl ?_
 refine eFg 13 68 (qv (rw_.getD j 0)) (qc (rw_.getD j 0)) (o:=0+j*5) hs hoi (own_el oM) ?_
 refine eO 14 69 [(0,0,5)] (qv ((bar.getD i 0)*(slp L.k (sumr L xs i)))) hs ?_
 refine eV 15 70 (.slice I_ xs.length cI) ?_
 refine eV 16 71 (.int .i64 (j:Nat)) ?_
 refine eX 17 72 I_ xs.length cI 5 (j:Nat) j ((hs.f.2.2.2.2.1).ok oM) ?_
 refine eH 18 73 (qv (xs.getD j 0)) hs ((hs.f.2.2.2.2.1).el j oM) ?_
 have hq50:=LQ.mul hq22 (hxq j)
 refine eC 19 74 hs (fun _ _ hs=>fMul ((bar.getD i 0)*(slp L.k (sumr L xs i))) (xs.getD j 0) (LQ.mono hq22 oM) (LQ.mono (hxq j) oM) _ _ hs.g (hs.f.2.1)) ?_
 rintro _ _ _ w51 h52 hs rfl
 have hq53:=LQ.add hRq hq50
 refine eC 20 75 hs (fun _ _ hs=>fAdd (rw_.getD j 0) (((bar.getD i 0)*(slp L.k (sumr L xs i)))*(xs.getD j 0)) (LQ.mono hRq oM) (LQ.mono hq50 oM) _ _ hs.g (hs.f.2.1)) ?_
 rintro _ _ _ w54 h55 hs rfl
 refine eD0 hs (fun w56 h57 hs=>?_)
 refine tX 21 76 (some ⟨bR,0,none⟩) c cc 5 (j:Nat) j rfl ?_
 refine tFg 22 (0+j*5) (qc ((rw_.getD j 0)+(((bar.getD i 0)*(slp L.k (sumr L xs i)))*(xs.getD j 0)))) hs hdf hMj hmR hoi (own_le oM) (fun w58 wd3 hdf3 hoi3 hoth hs=>?_)
 rw[own_put oM] at hoi3
 have hor3:∀ a,a<r→a≠i→Own wd3 (bk a) 73 ((Wc.getD a []).flatMap qc++sp a):=fun a ha hne=>hoth _ _ _ (fun e=>by rw[hbR] at e;exact hne (hinj a i oM oM e)) (hor a ha hne)
 have hoB3:Own wd3 bB 73 ((Bc.set i (Bc.getD i 0+(bar.getD i 0*slp L.k (sumr L xs i)))).flatMap qc++sp r):=hoth _ _ _ (fun e=>by rw[hbB,hbR] at e;have:=hinj r i oM oM e;omega) hoB2
 refine tN (cR 13 [] mixed hs al_nil ?_)
 refine eV 0 77 (.slice (some ⟨b7,0,none⟩) xs.length xs.length) ?_
 refine eV 1 78 (.int .i64 (j:Nat)) ?_
 refine eV 2 79 (.slice (some ⟨b7,0,none⟩) xs.length xs.length) ?_
 refine eV 3 80 (.int .i64 (j:Nat)) ?_
 refine eX 4 81 (some ⟨b7,0,none⟩) xs.length xs.length 5 (j:Nat) j rfl ?_
 refine eQ 5 82 1 dl2 qc 5 0 j (qv ((dl2).getD j 0)) hs oM ?_
 refine eO 6 83 [(0,0,5)] (qv ((bar.getD i 0)*(slp L.k (sumr L xs i)))) hs ?_
 refine eV 7 84 (.slice Aqw ((L.W.getD i []).length) cqw) ?_
 refine eV 8 85 (.int .i64 (j:Nat)) ?_
 refine eX 9 86 Aqw ((L.W.getD i []).length) cqw 5 (j:Nat) j ((hs.f.1).ok oM) ?_
 refine eH 10 87 (qv ((L.W.getD i []).getD j 0)) hs ((hs.f.1).el j oM) ?_
 have hq59:=LQ.mul hq22 (hwq i j)
 refine eC 11 88 hs (fun _ _ hs=>fMul ((bar.getD i 0)*(slp L.k (sumr L xs i))) ((L.W.getD i []).getD j 0) (LQ.mono hq22 oM) (LQ.mono (hwq i j) oM) _ _ hs.g (hs.f.2.1)) ?_
 rintro _ _ _ w60 h61 hs rfl
 have hq62:=LQ.add hDq hq59
 refine eC 12 89 hs (fun _ _ hs=>fAdd ((dl2).getD j 0) (((bar.getD i 0)*(slp L.k (sumr L xs i)))*((L.W.getD i []).getD j 0)) (LQ.mono hDq oM) (LQ.mono hq59 oM) _ _ hs.g (hs.f.2.1)) ?_
 rintro _ _ _ w63 h64 hs rfl
 refine eD0 hs (fun w65 h66 hs=>?_)
 refine tX 13 90 (some ⟨b7,0,none⟩) xs.length xs.length 5 (j:Nat) j rfl ?_
 refine tW 14 1 dl2 qc 5 j (((dl2).getD j 0)+(((bar.getD i 0)*(slp L.k (sumr L xs i)))*((L.W.getD i []).getD j 0))) hs oM (fun w67 hs=>?_)
 have hl68:((dl2).set j (((dl2).getD j 0)+(((bar.getD i 0)*(slp L.k (sumr L xs i)))*((L.W.getD i []).getD j 0)))).length=xs.length:=by rw[List.length_set];exact hdl2
 replace hs:=hs.to [⟨b27,73,qc ((bar.getD i 0)*(slp L.k (sumr L xs i)))⟩,⟨b7,73,((dl2).set j (((dl2).getD j 0)+(((bar.getD i 0)*(slp L.k (sumr L xs i)))*((L.W.getD i []).getD j 0)))).flatMap qc⟩,⟨b4,77,[.int .i64 zk,.slice AS usS.length cS,.slice (some ⟨bB,0,none⟩) r cSB]⟩,⟨b1,77,[.int .i64 L.k,.slice AW usW.length cW,.slice AB nB cB]⟩] []
 refine tN (cTo [(2,.slice I_ xs.length cI),(3,.slice V ((sumq L xs).length) cV),(4,.slice Z bar.length cZ),(5,.pointer (some ⟨b1,0,none⟩)),(6,.pointer (some ⟨b4,0,none⟩)),(10,.slice none 0 0),(11,.slice (some ⟨b7,0,none⟩) xs.length xs.length),(20,.slice AW usW.length cW),(21,.int .i64 (usW.length:Nat)),(22,.int .i64 (i:Nat)),(12,.int .i64 (i:Nat)),(13,.slice Aqw ((L.W.getD i []).length) cqw),(14,.pointer (some ⟨b27,0,none⟩)),(51,.int .i64 ((L.W.getD i []).length:Nat)),(52,.int .i64 (j:Nat))] ?_)
 refine CG.listed (lIn 91 ((j:Nat)+1) (j+1) ?_)
 refine lL hs [.m 52 91] (lD ?_)
 intro a_ ka
 have q69:(j+1)≤(L.W.getD i []).length:=by omega
 have q70:((dl2).set j (((dl2).getD j 0)+(((bar.getD i 0)*(slp L.k (sumr L xs i)))*((L.W.getD i []).getD j 0)))).length=xs.length:=hl68
 have q71:(rw_.set j ((rw_.getD j 0)+(((bar.getD i 0)*(slp L.k (sumr L xs i)))*(xs.getD j 0)))).length=c:=(by rw[List.length_set];exact hrl)
 have q72:∀ b,(rw_.set j ((rw_.getD j 0)+(((bar.getD i 0)*(slp L.k (sumr L xs i)))*(xs.getD j 0)))).getD b 0=(S.W.getD i []).getD b 0+(if b<(j+1) then delq L xs bar i*xs.getD b 0 else 0):=(acc_step (δ:=fun b=>delq L xs bar i*xs.getD b 0) oM hrv)
 have q73:∀ b,b<c→((dl2).set j (((dl2).getD j 0)+(((bar.getD i 0)*(slp L.k (sumr L xs i)))*((L.W.getD i []).getD j 0)))).getD b 0=sumF (fun a=>delq L xs bar a*(L.W.getD a []).getD b 0) i+(if b<(j+1) then delq L xs bar i*(L.W.getD i []).getD b 0 else 0):=(acc_stepc (δ:=fun b=>delq L xs bar i*(L.W.getD i []).getD b 0) oM oM hdv2)
 have q74:Dif Mb w wd3:=hdf3
 have q75:∀ a,a<r→a≠i→Own wd3 (bk a) 73 ((Wc.getD a []).flatMap qc++sp a):=hor3
 have q76:Own wd3 bR 73 ((rw_.set j ((rw_.getD j 0)+(((bar.getD i 0)*(slp L.k (sumr L xs i)))*(xs.getD j 0)))).flatMap qc++sp i):=hoi3
 have q77:Own wd3 bB 73 ((Bc.set i (Bc.getD i 0+(bar.getD i 0*slp L.k (sumr L xs i)))).flatMap qc++sp r):=hoB3
 refine ⟨_,_,?_,⟨j+1,rw_.set j ((rw_.getD j 0)+(((bar.getD i 0)*(slp L.k (sumr L xs i)))*(xs.getD j 0))),(dl2).set j (((dl2).getD j 0)+(((bar.getD i 0)*(slp L.k (sumr L xs i)))*((L.W.getD i []).getD j 0))),wd3,h66,rfl,rfl,hs.to _ _,q69,q70,q71,q72,q73,q74,q75,q76,q77⟩,ka.to [(2,.slice I_ xs.length cI),(3,.slice V ((sumq L xs).length) cV),(4,.slice Z bar.length cZ),(5,.pointer (some ⟨b1,0,none⟩)),(6,.pointer (some ⟨b4,0,none⟩)),(10,.slice none 0 0),(11,.slice (some ⟨b7,0,none⟩) xs.length xs.length),(20,.slice AW usW.length cW),(21,.int .i64 (usW.length:Nat)),(22,.int .i64 (i:Nat)),(12,.int .i64 (i:Nat)),(13,.slice Aqw ((L.W.getD i []).length) cqw),(14,.pointer (some ⟨b27,0,none⟩)),(51,.int .i64 ((L.W.getD i []).length:Nat)),(52,.int .i64 ((j+1):Nat))] kR⟩
 omega
section lent
variable {M:Ms} {P:Program} {n:Nat} {N R:Po} {X:Nat→Po} {ops:Array Oper} {k0:Nat} {hr:Hp} {AL:List Al} {L:Array Bool} {Γ:Env} {w:World} {h:Hp} {w0:World} {h0:Hp} {B:List Bx} {Rs:List Rw} {F:List (Hp→Prop)}
theorem SS.lendsH (s:SS w0 h0 w h B Rs F){j:Nat}(hj:j<B.length){f:FuncId}{args:Array Value}{Φ:Hp→Value→Hp→Prop}{Ψ:Value→Hp→Prop}(c:∀ hp,G w hp→AllF F hp→Seg hp (bxAt B j).b 0 (bxAt B j).vs→Calls P f args w (Ret w hp (Φ hp)))
    (tr:∀ hp v h1 h2,Φ hp v h1→h0.size≤hp.size→(∀ c,hp.size≤c→h2[c]?=h1[c]?)→Ψ v h2):Calls P f args w (Ret w h Ψ):=by
  have hm:=bxAt_mem hj
  have hjk:=s.st.jk _ hm
  obtain ⟨hp,g,gw,sg,ho⟩:=lend s.g hjk (s.st.own _ hm)
  have hsz:=s.g.sz g
  refine (c hp g (s.f.gw s.mo gw) sg).mono ?_
  rintro e w' ⟨v,h',he,u,hΦ⟩
  have hlt:=lt_of_some hjk
  have hlt':(bxAt B j).b<h'.size:=Nat.lt_of_lt_of_le oM u.gr.size
  refine ⟨v,h'.setIfInBounds (bxAt B j).b junk,he,⟨u.ext,⟨by simp;rw[←hsz];exact u.gr.size,fun c hc=>?_⟩,⟨by simp;exact u.g.size,fun c=>?_⟩⟩,tr hp v h' _ hΦ (by rw[hsz];exact s.st.up.gr.size) (fun c hc=>Array.getElem?_setIfInBounds_ne oM)⟩
  · by_cases e:(bxAt B j).b=c
    · subst e;rw[Array.getElem?_setIfInBounds_self_of_lt hlt',hjk]
    · rw[Array.getElem?_setIfInBounds_ne e,u.gr.blk c oM,ho c (Ne.symm e)]
  · by_cases e:(bxAt B j).b=c
    · subst e;right;rw[Array.getElem?_setIfInBounds_self_of_lt hlt']
    · rw[Array.getElem?_setIfInBounds_ne e];exact u.g.blk c
theorem eClh (i t j:Nat){f:FuncId}{args:Array Value}{Φ:Hp→Value→Hp→Prop}{Ψ:Value→Hp→Prop}(s:SS w0 h0 w h B Rs F)(c:∀ w hp,G w hp→AllF F hp→Seg hp (bxAt B j).b 0 (bxAt B j).vs→Calls P f args w (Ret w hp (Φ hp)))
    (tr:∀ hp v h1 h2,Φ hp v h1→h0.size≤hp.size→(∀ c,hp.size≤c→h2[c]?=h1[c]?)→Ψ v h2)
    (H:∀ v w' h',SS w0 h0 w' h' B Rs F→Ψ v h'→EG M P n N R X ops k0 hr AL (L.setIfInBounds i true) ((t,v)::Γ) w' h')(hj:decide (j<B.length)=true:=by kernel_rfl)(hc:cEv n ops k0 AL L Γ i t=true:=by kernel_rfl)(hv:∀ w,(execOp (ev Γ) (opAt ops i)).run P w=.ok (.enter f args) w:=by intro _;kernel_rfl):EG M P n N R X ops k0 hr AL L Γ w h :=
  eC i t (Φ:=fun _ _ v h'=>Ψ v h') s (fun w1 h1 s1=>s1.lendsH (oT hj) (c w1) tr) (fun _ _ v w' h'=>H v w' h') hc hv
theorem SS.pubG (s:SS w0 h0 w h B Rs F)(j:Nat)(hj':j<B.length):∃ h',SS w0 h0 w h' (B.eraseIdx j) Rs F∧Gw h h'∧h'[(bxAt B j).b]?=some (.cells (bxAt B j).vs.toArray (bxAt B j).t (0,0)):=by
  obtain ⟨h',s',gw,sg,hc,oth⟩:=s.st.pubX j hj'
  have hm:=bxAt_mem hj'
  refine ⟨h',⟨s.g0,s',fun r hr=>((s.ro r hr).out (List.mem_map.2 ⟨_,hm,rfl⟩) oth).sub _ (fun b hb=>?_),s.ap,s.mo,s.f.gw s.mo gw⟩,gw,hc⟩
  obtain ⟨x,hx,e⟩:=List.mem_map.1 hb
  exact List.mem_map.2 ⟨x,List.mem_of_mem_eraseIdx hx,e⟩
theorem SS.pubY:∀ {Y:List Bx} {h:Hp},SS w0 h0 w h (B++Y) Rs F→(∀ y∈Y,y.t≠0)→∃ h',SS w0 h0 w h' B Rs F∧Gw h h'∧∀ y∈Y,h'[y.b]?=some (.cells y.vs.toArray y.t (0,0))
  | [],h,s,_=>⟨h,by rw[List.append_nil] at s;exact s,Gw.refl h,fun y hy=>by cases hy⟩
  | y :: Y,h,s,ht=>by
    have hj:B.length<(B++y::Y).length:=by simp
    have e2:bxAt (B++y::Y) B.length=y:=by unfold bxAt;simp
    have e3:(B++y::Y).eraseIdx B.length=B++Y:=by simp[List.eraseIdx_append_of_length_le]
    obtain ⟨h2,s2,gw2,hc⟩:=s.pubG B.length hj
    rw[e3] at s2
    rw[e2] at hc
    obtain ⟨h',s',gw',hY⟩:=s2.pubY (fun z hz=>ht z (List.mem_cons_of_mem _ hz))
    refine ⟨h',s',gw2.trans gw',fun z hz=>?_⟩
    rcases List.mem_cons.1 hz with rfl|hz
    · rcases gw'.blk z.b (lt_of_some hc) with e|e
      · rw[e];exact hc
      · rw[e] at hc
        injection hc with hc
        unfold junk at hc
        injection hc with _ hc
        exact absurd hc.symm (ht z (by simp))
    · exact hY z hz
end lent
def FilledP (ls:List Lay)(d:Nat→Nat)(xs:List Rat)(K:Nat)(v:Value)(h1:Hp):Prop:=∃ zs,zs.length=ls.length∧Shp d zs∧(∀ i,i<ls.length→(zs.getD i lay0).k=(ls.getD i lay0).k)∧flatq zs=xs∧∃ bl:List Nat,bl.Pairwise (· < ·)∧bl.length=npos d ls.length∧∃ bL c sp,∃ us:List LV,v=.agg #[.slice (some ⟨bL,0,none⟩) us.length c]∧us.length≤c∧Nw K h1 bL 77 (us.flatMap lvc++sp)∧NNb bl d K h1 us zs
theorem Nw.tr {K K0:Nat}{h1 h2:Hp}{b:Nat}{t:TypeId}{cs:List Value}(n:Nw K h1 b t cs)(hk:K0≤K)(e:∀ c,K≤c→h2[c]?=h1[c]?):Nw K0 h2 b t cs:=⟨Nat.le_trans hk n.1,n.2.1,(e b n.1).trans n.2.2⟩
theorem NNb.tr {bl:List Nat}{d:Nat→Nat}{K K0:Nat}{h1 h2:Hp}{ts:List LV}{ls:List Lay}(x:NNb bl d K h1 ts ls)(hk:K0≤K)(e:∀ c,K≤c→h2[c]?=h1[c]?):NNb bl d K0 h2 ts ls:=⟨x.len,fun i hi=>by
  obtain ⟨a1,⟨us,⟨b,c,sp,e1,e2,n⟩,a3,a4⟩,⟨c2,sp2,e3,e4,n2⟩⟩:=x.at_ i hi
  exact ⟨a1,⟨us,⟨b,c,sp,e1,e2,n.tr hk e⟩,a3,fun j hj=>by
    obtain ⟨c3,sp3,e5,e6,n3⟩:=a4 j hj
    exact ⟨c3,sp3,e5,e6,n3.tr hk e⟩⟩,⟨c2,sp2,e3,e4,n2.tr hk e⟩⟩⟩
theorem FilledP.tr {ls:List Lay}{d:Nat→Nat}{xs:List Rat}{K K0:Nat}{v:Value}{h1 h2:Hp}(p:FilledP ls d xs K v h1)(hk:K0≤K)(e:∀ c,K≤c→h2[c]?=h1[c]?):FilledP ls d xs K0 v h2:=by
  obtain ⟨zs,p1,p2,p3,p4,bl,p5,p6,bL,c,sp,us,p7,p8,p9,p10⟩:=p
  exact ⟨zs,p1,p2,p3,p4,bl,p5,p6,bL,c,sp,us,p7,p8,p9.tr hk e,p10.tr hk e⟩
def Ptrs (h:Hp)(us:List LV)(pt:Nat→List Value):Prop:=∀ k,k<us.length→∃ A c,(us.getD k lvd).2.1=.slice A (pt k).length c∧(pt k).length≤c∧SlO 1 vc undef h A (pt k)
theorem Ptrs.gw {h h':Hp}{us:List LV}{pt:Nat→List Value}(x:Ptrs h us pt)(u:Gw h h'):Ptrs h' us pt:=fun k hk=>by
  obtain ⟨A,c,e1,e2,e3⟩:=x k hk
  exact ⟨A,c,e1,e2,e3.gw u⟩
structure GrN (d:Nat→Nat) (bl:List Nat) (us:List LV) (pt:Nat→List Value) (n:Nat) (zs:List Lay):Prop where
  len:us.length=n
  inc:bl.Pairwise (· < ·)
  bln:bl.length=npos d n
  kd:∀ k,k<n→(us.getD k lvd).1=(zs.getD k lay0).k
  ptl:∀ k,k<n→(pt k).length=d (k+1)
  row:∀ k,k<n→∀ j,j<d (k+1)→∃ cc,d k≤cc∧(pt k).getD j undef=.slice (some ⟨bl.getD (npos d k+j) 0,0,none⟩) (d k) cc
  b:∀ k,k<n→∃ cc,d (k+1)≤cc∧(us.getD k lvd).2.2=.slice (some ⟨bl.getD (npos d k+d (k+1)) 0,0,none⟩) (d (k+1)) cc
def YN (Y:List Bx)(d:Nat→Nat)(bl:List Nat)(sp:Nat→Nat→List Value)(n:Nat)(zs:List Lay):Prop:=∀ k,k<n→(∀ j,j<d (k+1)→(⟨bl.getD (npos d k+j) 0,73,((zs.getD k lay0).W.getD j []).flatMap qc++sp k j⟩:Bx)∈Y)∧(⟨bl.getD (npos d k+d (k+1)) 0,73,(zs.getD k lay0).B.flatMap qc++sp k (d (k+1))⟩:Bx)∈Y
theorem inc_inj {bl:List Nat}(h:bl.Pairwise (· < ·)){p q:Nat}(hp:p<bl.length)(hq:q<bl.length)(e:bl.getD p 0=bl.getD q 0):p=q:=by
  have hh:=List.pairwise_iff_getElem.1 h
  rw[List.getD_eq_getElem?_getD,List.getD_eq_getElem?_getD,List.getElem?_eq_getElem hp,List.getElem?_eq_getElem hq] at e
  simp only[Option.getD_some] at e
  rcases Nat.lt_trichotomy p q with h1|h1|h1
  · have:=hh p q hp hq h1;omega
  · exact h1
  · have:=hh q p hq hp h1;omega
theorem npos_inj {d:Nat→Nat}{k j k' j':Nat}(h1:j≤d (k+1))(h2:j'≤d (k'+1))(e:npos d k+j=npos d k'+j'):k=k'∧j=j':=by
  rcases Nat.lt_trichotomy k k' with h|h|h
  · have:=npos_mono d (show k+1≤k' from h)
    have e2:npos d (k+1)=npos d k+d (k+1)+1:=rfl
    omega
  · subst h;exact ⟨rfl,by omega⟩
  · have:=npos_mono d (show k'+1≤k from h)
    have e2:npos d (k'+1)=npos d k'+d (k'+1)+1:=rfl
    omega
theorem npos_lt {d:Nat→Nat}{k j n:Nat}(hk:k<n)(h1:j≤d (k+1)):npos d k+j<npos d n:=by
  have:=npos_mono d (show k+1≤n from hk)
  have e2:npos d (k+1)=npos d k+d (k+1)+1:=rfl
  omega
theorem GrN.inj {d:Nat→Nat}{bl:List Nat}{us:List LV}{pt:Nat→List Value}{n:Nat}{zs:List Lay}(g:GrN d bl us pt n zs){k j k' j':Nat}(hk:k<n)(hk':k'<n)(h1:j≤d (k+1))(h2:j'≤d (k'+1))(e:bl.getD (npos d k+j) 0=bl.getD (npos d k'+j') 0):k=k'∧j=j' :=
  npos_inj h1 h2 (inc_inj g.inc (by rw[g.bln];exact npos_lt hk h1) (by rw[g.bln];exact npos_lt hk' h2) e)
theorem gnet_of {K:Nat}{h hy:Hp}{Y:List Bx}{d:Nat→Nat}{bl:List Nat}{us:List LV}{zs:List Lay}{n:Nat}(hmem:∀ b t vs,Nw K h b t vs→t∈[73]→(⟨b,t,vs⟩:Bx)∈Y)(hkeep:∀ b t vs,Nw K h b t vs→t ∉ [73]→Nw K hy b t vs)(x:NNb bl d K h us zs)(hs:Shp d zs)(hn:zs.length=n)(hi:bl.Pairwise (· < ·))(hl:bl.length=npos d n) :
    ∃ pt sp,Ptrs hy us pt∧GrN d bl us pt n zs∧YN Y d bl sp n zs:=by
  subst hn
  have c1:∀ k,∃ p:List Value,k<zs.length→SlN K 75 vc h (us.getD k lvd).2.1 p∧p.length=(zs.getD k lay0).W.length∧QNb bl (npos d k) K h p (zs.getD k lay0).W:=fun k=>by
    by_cases hk:k<zs.length
    · obtain ⟨_,⟨p,a,b,c⟩,_⟩:=x.at_ k hk
      exact ⟨p,fun _=>⟨a,b,c⟩⟩
    · exact ⟨[],fun h=>absurd h hk⟩
  obtain ⟨pt,hpt⟩:=Classical.axiomOfChoice c1
  have c2 : ∀ kj:Nat × Nat,∃ s:List Value,kj.1<zs.length→(kj.2<d (kj.1+1)→∃ c,(pt kj.1).getD kj.2 undef=.slice (some ⟨bl.getD (npos d kj.1+kj.2) 0,0,none⟩) ((zs.getD kj.1 lay0).W.getD kj.2 []).length c∧((zs.getD kj.1 lay0).W.getD kj.2 []).length≤c∧Nw K h (bl.getD (npos d kj.1+kj.2) 0) 73 (((zs.getD kj.1 lay0).W.getD kj.2 []).flatMap qc++s)) ∧
      (kj.2=d (kj.1+1)→∃ c,(us.getD kj.1 lvd).2.2=.slice (some ⟨bl.getD (npos d kj.1+kj.2) 0,0,none⟩) (zs.getD kj.1 lay0).B.length c∧(zs.getD kj.1 lay0).B.length≤c∧Nw K h (bl.getD (npos d kj.1+kj.2) 0) 73 ((zs.getD kj.1 lay0).B.flatMap qc++s)):=fun ⟨k,j⟩=>by
    by_cases hk:k<zs.length
    · obtain ⟨m,_⟩:=hs k hk
      have mr:=m.rows
      obtain ⟨_,_,c⟩:=hpt k hk
      by_cases hj:j<d (k+1)
      · obtain ⟨cc,s,e1,e2,nn⟩:=c j oM
        exact ⟨s,fun _=>⟨fun _=>⟨cc,e1,e2,nn⟩,fun e=>by have e':j=d (k+1):=e;omega⟩⟩
      · by_cases hj2:j=d (k+1)
        · obtain ⟨_,_,⟨cc,s,e1,e2,nn⟩⟩:=x.at_ k hk
          rw[mr,←hj2] at e1 nn
          exact ⟨s,fun _=>⟨fun e=>absurd e hj,fun _=>⟨cc,e1,e2,nn⟩⟩⟩
        · exact ⟨[],fun _=>⟨fun e=>absurd e hj,fun e=>absurd e hj2⟩⟩
    · exact ⟨[],fun h=>absurd h hk⟩
  obtain ⟨sp,hsp⟩:=Classical.axiomOfChoice c2
  have hlen:=x.len
  refine ⟨pt,fun k j=>sp (k,j),fun k hk=>?_,⟨hlen,hi,hl,fun k hk=>(x.at_ k hk).1,fun k hk=>?_,fun k hk j hj=>?_,fun k hk=>?_⟩,fun k hk=>⟨fun j hj=>?_,?_⟩⟩
  · obtain ⟨⟨b,c,s,e1,e2,nn⟩,_,_⟩:=hpt k oM
    exact ⟨_,c,e1,e2,SlO.of_flat (fun _=>rfl) (hkeep _ _ _ nn kD).seg⟩
  · obtain ⟨_,e,_⟩:=hpt k hk
    rw[e];exact (hs k hk).1.rows
  · obtain ⟨cc,e1,e2,nn⟩:=(hsp (k,j) hk).1 hj
    have hr:=(hs k hk).1.row j hj
    rw[hr] at e1 e2
    exact ⟨cc,e2,e1⟩
  · obtain ⟨cc,e1,e2,nn⟩:=(hsp (k,d (k+1)) hk).2 rfl
    have hb:=(hs k hk).2
    rw[hb] at e1 e2
    exact ⟨cc,e2,e1⟩
  · obtain ⟨cc,e1,e2,nn⟩:=(hsp (k,j) hk).1 hj
    exact hmem _ _ _ nn (by simp)
  · obtain ⟨cc,e1,e2,nn⟩:=(hsp (k,d (k+1)) hk).2 rfl
    exact hmem _ _ _ nn (by simp)
def blks (d:Nat→Nat)(bl:List Nat)(k:Nat):List Nat:=(List.range (d (k+1)+1)).map fun j=>bl.getD (npos d k+j) 0
theorem blks_mem {d:Nat→Nat}{bl:List Nat}{k c:Nat}(h:c∈blks d bl k):∃ j,j≤d (k+1)∧c=bl.getD (npos d k+j) 0:=by
  obtain ⟨j,hj,e⟩:=List.mem_map.1 h
  exact ⟨j,by have:=List.mem_range.1 hj;omega,e.symm⟩
theorem blks_in {d:Nat→Nat}{bl:List Nat}{k j:Nat}(h:j≤d (k+1)):bl.getD (npos d k+j) 0∈blks d bl k:=List.mem_map.2 ⟨j,List.mem_range.2 oM,rfl⟩
theorem YN.mem {Y:List Bx}{d:Nat→Nat}{bl:List Nat}{sp:Nat→Nat→List Value}{n k:Nat}{zs:List Lay}(y:YN Y d bl sp n zs)(hk:k<n):∀ c∈blks d bl k,∃ y∈Y,y.b=c:=fun c hc=>by
  obtain ⟨j,hj,rfl⟩:=blks_mem hc
  obtain ⟨h1,h2⟩:=y k hk
  by_cases e:j<d (k+1)
  · exact ⟨_,h1 j e,rfl⟩
  · have:j=d (k+1):=by omega
    subst this
    exact ⟨_,h2,rfl⟩
theorem YN.own {Y:List Bx}{d:Nat→Nat}{bl:List Nat}{sp:Nat→Nat→List Value}{n k:Nat}{zs:List Lay}{w':World}{L:Lay}(y:YN Y d bl sp n zs)(hk:k<n)(hR:∀ j,j<d (k+1)→Own w' (bl.getD (npos d k+j) 0) 73 ((L.W.getD j []).flatMap qc++sp k j))(hB:Own w' (bl.getD (npos d k+d (k+1)) 0) 73 (L.B.flatMap qc++sp k (d (k+1)))) :
    ∀ c∈blks d bl k,∃ y∈Y,y.b=c∧∃ vs,Own w' c y.t vs:=fun c hc=>by
  obtain ⟨j,hj,rfl⟩:=blks_mem hc
  obtain ⟨h1,h2⟩:=y k hk
  by_cases e:j<d (k+1)
  · exact ⟨_,h1 j e,rfl,_,hR j e⟩
  · have:j=d (k+1):=by omega
    subst this
    exact ⟨_,h2,rfl,_,hB⟩
theorem YN.put {Y Y':List Bx}{d:Nat→Nat}{bl:List Nat}{sp:Nat→Nat→List Value}{n k:Nat}{zs zs0:List Lay}{us:List LV}{pt:Nat→List Value}{w':World}{L:Lay}(y:YN Y d bl sp n zs)(g:GrN d bl us pt n zs0)(hk:k<n)(hz:zs.length=n)(hR:∀ j,j<d (k+1)→Own w' (bl.getD (npos d k+j) 0) 73 ((L.W.getD j []).flatMap qc++sp k j))(hB:Own w' (bl.getD (npos d k+d (k+1)) 0) 73 (L.B.flatMap qc++sp k (d (k+1))))
    (h1:∀ y∈Y,y.b ∉ blks d bl k→y∈Y')(h2:∀ y∈Y,∀ vs,y.b∈blks d bl k→Own w' y.b y.t vs→(⟨y.b,y.t,vs⟩:Bx)∈Y'):YN Y' d bl sp n (zs.set k L):=fun k' hk'=>by
  obtain ⟨a,b⟩:=y k' hk'
  rw[getD_set_ oM]
  by_cases e:k'=k
  · subst e
    rw[if_pos rfl]
    exact ⟨fun j hj=>h2 _ (a j hj) _ (blks_in oM) (hR j hj),h2 _ b _ (blks_in (Nat.le_refl _)) hB⟩
  · rw[if_neg e]
    refine ⟨fun j hj=>h1 _ (a j hj) (fun hm=>?_),h1 _ b (fun hm=>?_)⟩
    · obtain ⟨i,hi,e2⟩:=blks_mem hm
      exact e (g.inj hk' hk oM hi e2).1
    · obtain ⟨i,hi,e2⟩:=blks_mem hm
      exact e (g.inj hk' hk (Nat.le_refl _) hi e2).1
theorem blk_slv {h':Hp}{b:Nat}{l:List Rat}{sp:List Value}{n cc:Nat}(hc:h'[b]?=some (.cells (l.flatMap qc++sp).toArray 73 (0,0)))(hl:l.length=n)(hcc:n≤cc):SlV 5 qc 0 h' (.slice (some ⟨b,0,none⟩) n cc) l:=by
  subst hl
  have nw:Nw 0 h' b 73 (l.flatMap qc++sp):=⟨Nat.zero_le _,by decide,hc⟩
  exact ⟨_,cc,rfl,hcc,SlO.of_flat (fun _=>rfl) nw.seg⟩
theorem netl_of {h':Hp}{Y:List Bx}{d:Nat→Nat}{bl:List Nat}{sp:Nat→Nat→List Value}{n:Nat}{zs zs0:List Lay}{us:List LV}{pt:Nat→List Value}(y:YN Y d bl sp n zs)(g:GrN d bl us pt n zs0)(p:Ptrs h' us pt)(hY:∀ y∈Y,h'[y.b]?=some (.cells y.vs.toArray y.t (0,0)))(hs:Shp d zs)(hz:zs.length=n)(hk:∀ k,k<n→(zs.getD k lay0).k=(zs0.getD k lay0).k):NetL h' us zs:=⟨by rw[g.len,hz],fun k hk'=>by
  rw[hz] at hk'
  obtain ⟨m,hb⟩:=hs k oM
  obtain ⟨a,b⟩:=y k hk'
  obtain ⟨A,c,e1,e2,so⟩:=p k (by rw[g.len];exact hk')
  obtain ⟨cB,hcB,eB⟩:=g.b k hk'
  refine ⟨by rw[g.kd k hk',hk k hk'],⟨A,c,pt k,e1,e2,so,⟨by rw[g.ptl k hk',m.rows],fun j hj=>?_⟩⟩,?_⟩
  · rw[m.rows] at hj
    obtain ⟨cc,hcc,er⟩:=g.row k hk' j hj
    rw[er]
    exact blk_slv (hY _ (a j hj)) (m.row j hj) hcc
  · rw[eB]
    exact blk_slv (hY _ b) hb hcB⟩
structure GB1 (ls:List Lay) (xs top:List Rat):Prop where
  bar:∀ t,t<ls.length→∀ j,LQ 10500000 ((barq ls xs top ls.length t).getD j 0)
  su:∀ k,k<ls.length→∀ j,LQ 21000 (sumr (ls.getD k lay0) (outq ls xs k) j)
  x:∀ k,k<ls.length→∀ j,LQ 42000 ((outq ls xs k).getD j 0)
theorem lq_map {n:Nat}{f:Nat→Rat}{K:Nat}(hK:1≤K)(h:∀ i,LQ K (f i))(j:Nat):LQ K (((List.range n).map f).getD j 0):=by
  by_cases hj:j<n
  · rw[getD_mapR hj];exact h j
  · rw[getD_outR (by simpa using hj)];exact lq0 hK
structure LayB (K:Nat) (L:Lay):Prop where
  w:∀ i j,LQ K ((L.W.getD i []).getD j 0)
  b:∀ j,LQ K (L.B.getD j 0)
theorem accl_lq {S L:Lay}{x bar:List Rat}{K:Nat}(s:LayB K S)(hb:∀ j,LQ 10500000 (bar.getD j 0))(hs:∀ j,LQ 21000 (sumr L x j))(hx:∀ j,LQ 42000 (x.getD j 0)):LayB (K+10600000) (accl S L x bar):=by
  have hd:∀ r,LQ 10542006 (delq L x bar r):=fun r=>(hb r).mul (LQ.slp L.k (hs r))
  refine ⟨fun i j=>?_,fun j=>lq_map oM (fun r=>((s.b r).add (hd r)).mono oM) j⟩
  show LQ _ (((List.map _ _).getD i []).getD j 0)
  by_cases hi:i<L.W.length
  · rw[getD_mapR hi]
    exact lq_map oM (fun c=>((s.w i c).add ((hd i).mul (hx c))).mono oM) j
  · rw[getD_outR (l:=List.map _ _) (by simpa using hi)];exact lq0 oM
theorem gradN_lq {ls z0:List Lay}{xss yss:List (List Rat)}(h0:∀ k,LayB 1 (z0.getD k lay0))(hg:∀ i,i<xss.length→GB1 ls (xss.getD i []) (topq (outq ls (xss.getD i []) ls.length) (yss.getD i []))):∀ r,r≤xss.length→∀ k,LayB (r*10600000+1) ((gradN ls z0 xss yss r).getD k lay0)
  | 0,_,k=>by rw[Nat.zero_mul,Nat.zero_add];exact h0 k
  | r + 1,h,k=>by
    have ih:=gradN_lq h0 hg r oM k
    have g:=hg r oM
    show LayB _ ((accn _ _ _ _).getD k lay0)
    by_cases hk:k<ls.length
    · rw[accn_at hk]
      have:=accl_lq ih (g.bar (ls.length-1-k) oM) (g.su k hk) (g.x k hk)
      exact ⟨fun i j=>(this.w i j).mono oM,fun j=>(this.b j).mono oM⟩
    · rw[getD_outR (by rw[accn_len];omega)]
      exact ⟨fun i j=>by simp[lay0];exact lq0 oM,fun j=>by simp[lay0];exact lq0 oM⟩
theorem zero_lq {z0:List Lay}{n:Nat}(h:flatq z0=List.replicate n 0):∀ k,LayB 1 (z0.getD k lay0):=fun k=>by
  by_cases hk:k<z0.length
  · have hm:∀ q∈flatL (z0.getD k lay0),LQ 1 q:=fun q hq=>by
      have:q∈flatq z0:=List.mem_flatMap.2 ⟨_,getD_mem hk,hq⟩
      rw[h] at this
      rw[(List.mem_replicate.1 this).2];exact lq0 oM
    refine ⟨fun i j=>?_,fun j=>lq_get (fun q hq=>hm q (List.mem_append_right _ hq)) oM j⟩
    refine lq_get (fun q hq=>?_) oM j
    by_cases hi:i<(z0.getD k lay0).W.length
    · exact hm q (List.mem_append_left _ (List.mem_flatten.2 ⟨_,getD_mem hi,hq⟩))
    · rw[getD_outR oM] at hq;exact absurd hq (by simp)
  · rw[getD_outR oM]
    exact ⟨fun i j=>by simp[lay0];exact lq0 oM,fun j=>by simp[lay0];exact lq0 oM⟩
theorem acc_all {ls Z zst:List Lay}{xs top:List Rat}(hl:zst.length=ls.length)(h:∀ m,m<ls.length→zst.getD m lay0=accl (Z.getD m lay0) (ls.getD m lay0) (outq ls xs m) (barq ls xs top ls.length (ls.length-1-m))):zst=accn ls Z xs top:=by
  refine List.ext_getElem (by rw[hl,accn_len]) (fun m a b=>?_)
  have h1:=h m oM
  rw[←accn_at (zs:=Z) (xs:=xs) (top:=top) (by omega:m<ls.length)] at h1
  rw[List.getD_eq_getElem?_getD,List.getD_eq_getElem?_getD,List.getElem?_eq_getElem a,List.getElem?_eq_getElem b] at h1
  exact h1
theorem acc_put {ls Z zst:List Lay}{xs top:List Rat}{t k:Nat}(hl:zst.length=ls.length)(hk:k=ls.length-1-t)(ht:t<ls.length)(h:∀ m,m<ls.length→zst.getD m lay0=if ls.length-t≤m then accl (Z.getD m lay0) (ls.getD m lay0) (outq ls xs m) (barq ls xs top ls.length (ls.length-1-m)) else Z.getD m lay0) :
    ∀ m,m<ls.length→(zst.set k (accl (zst.getD k lay0) (ls.getD k lay0) (outq ls xs k) (barq ls xs top ls.length t))).getD m lay0=if ls.length-(t+1)≤m then accl (Z.getD m lay0) (ls.getD m lay0) (outq ls xs m) (barq ls xs top ls.length (ls.length-1-m)) else Z.getD m lay0:=fun m hm=>by
  rw[getD_set_ oM]
  split
  · rename_i e;subst e
    rw[if_pos oM,h m hm,if_neg oM,show ls.length-1-m=t by omega]
  · rename_i e
    rw[h m hm]
    by_cases h2:ls.length-t≤m
    · rw[if_pos h2,if_pos oM]
    · rw[if_neg h2,if_neg oM]
theorem gradN_kd {ls z0:List Lay}{xss yss:List (List Rat)}(h0:∀ i,i<ls.length→(z0.getD i lay0).k=(ls.getD i lay0).k):∀ r k,k<ls.length→((gradN ls z0 xss yss r).getD k lay0).k=(ls.getD k lay0).k
  | 0,k,hk=>h0 k hk
  | r+1,k,hk=>by
    show ((accn _ _ _ _).getD k lay0).k=_
    rw[accn_at hk];exact gradN_kd h0 r k hk
theorem net3_of {ls zs:List Lay}{d:Nat→Nat}(o:Net3 ls d)(hs:Shp d zs)(hl:zs.length=ls.length)(hk:∀ k,k<ls.length→(zs.getD k lay0).k=(ls.getD k lay0).k):Net3 zs d:=⟨by rw[hl];exact o.len,o.first,fun i hi=>by
  rw[hl] at hi
  obtain ⟨m,hb⟩:=hs i oM
  have:=o.lay i hi
  exact ⟨m,hb,this.2.2.1,by rw[hk i hi];exact this.2.2.2⟩⟩
theorem insq_len (ls:List Lay)(xs:List Rat)(n:Nat):(insq ls xs n).length=n:=by simp[insq]
theorem sumsq_len (ls:List Lay)(xs:List Rat)(n:Nat):(sumsq ls xs n).length=n:=by simp[sumsq]
theorem insq_get {ls:List Lay}{xs:List Rat}{n k:Nat}(h:k<n):(insq ls xs n).getD k []=outq ls xs k:=getD_mapR h
theorem sumsq_get {ls:List Lay}{xs:List Rat}{n k:Nat}(h:k<n):(sumsq ls xs n).getD k []=sumq (ls.getD k lay0) (outq ls xs k):=getD_mapR h
theorem topq_len {z y:List Rat}:(topq z y).length=z.length:=by simp[topq]
theorem downq_len (L:Lay)(x bar:List Rat):(downq L x bar).length=x.length:=by simp[downq]
theorem yt_new {Y Y2:List Bx}(ht:∀ y∈Y,y.t=73)(hb:Y2.map (·.t)=Y.map (·.t)):∀ y∈Y2,y.t=73:=fun y hy=>by
  have:y.t∈Y2.map (·.t):=List.mem_map.2 ⟨y,hy,rfl⟩
  rw[hb] at this
  obtain ⟨z,hz,e⟩:=List.mem_map.1 this
  rw[←e];exact ht z hz
theorem nGradient (A:Option Addr)(cap:Nat)(ts:List LV)(ls:List Lay)(d:Nat→Nat)(hO:Net3 ls d)(X:Option Addr)(cX:Nat)(ux:List Value)(xss:List (List Rat))(Y_:Option Addr)(cY:Nat)(uy:List Value)(yss:List (List Rat))(hd5:∀ k,k<ls.length→d (k+1)≤5)(hwq:∀ k i j,LQ 1 (((ls.getD k lay0).W.getD i []).getD j 0))(hxd:∀ i,i<xss.length→(xss.getD i []).length=d 0)(hyd:∀ i,i<xss.length→(yss.getD i []).length=d ls.length)(hxy:yss.length=xss.length)(hr4:xss.length≤4)(hNB:∀ i,i<xss.length→NetB ls (xss.getD i []))(hZq:∀ i,i<xss.length→∀ j,LQ 42000 ((outq ls (xss.getD i []) ls.length).getD j 0))(hYq:∀ i j,LQ 1 ((yss.getD i []).getD j 0))(hGB:∀ i,i<xss.length→GB1 ls (xss.getD i []) (topq (outq ls (xss.getD i []) ls.length) (yss.getD i [])))(w:World)(h:Hp)(g:G w h)(hA:SlO 3 lvc lvd h A ts)(hN:NetL h ts ls)(hX:SlO 1 vc undef h X ux)(hU:QVs h ux xss)(hY:SlO 1 vc undef h Y_ uy)(hV:QVs h uy yss)(tb:Tab h) :
    Calls Tryz.prog 83 #[.agg #[.slice A ts.length cap],.slice X ux.length cX,.slice Y_ uy.length cY] w (Ret w h fun v h1=>∃ A c,v=.slice A ((List.range (flatq ls).length).map fun p=>gradP ls xss yss p xss.length).length c∧((List.range (flatq ls).length).map fun p=>gradP ls xss yss p xss.length).length≤c∧SlO 5 qc 0 h1 A ((List.range (flatq ls).length).map fun p=>gradP ls xss yss p xss.length)):=by
 have hs:=SS.start g
 have hGw:=Gw.refl h
 replace hs:=((((((((hs.add (K:=fun h_=>Gw h h_) hGw).a_SlO hA).add (K:=fun h_=>NetL h_ ts ls) hN).a_SlO hX).add (K:=fun h_=>QVs h_ ux xss) hU).a_SlO hY).add (K:=fun h_=>QVs h_ uy yss) hV).add (K:=fun h_=>Tab h_) tb)
 have hl:=(hs.f.2.2.2.2.2.1).len
 obtain ⟨o1,o2⟩:=hO.len
 have o3:=hO.first
 have hux:=(hs.f.2.2.2.1).len
 have huy:=(hs.f.2.1).len
 have hdn_:=(hO.lay (ls.length-1) oM).2.2.1
 rw[show ls.length-1+1=ls.length by omega] at hdn_
 have hfq:=flatq_len hO ls.length (Nat.le_refl _)
 rw[List.take_length] at hfq
 refine go Tryz.func83 [(0,.agg #[.slice A ts.length cap]),(1,.slice X ux.length cX),(2,.slice Y_ uy.length cY)] rfl ?_
 refine cSL ?_
 have hR:=hs
 refine lA 3 28 ([.slice A ts.length cap]) hs (fun b1 w2 h3 hs=>?_)
 refine lL hs [.v 6 (.slice none 0 0)] (lN (CG.seq ?_))
 have hsr:=hs
 refine cR 7 [⟨6,7,.cells (List.toArray [.slice none 0 0]) 28 (0,0)⟩] mixed hs (al_cons (alOk kR (fun _ _=>by kernel_rfl)) al_nil) ?_
 refine eO 0 14 [(0,0,1)] (.agg #[.slice A ts.length cap]) hs ?_
 refine eO 1 15 [(0,0,1)] (.agg #[.slice A ts.length cap]) hs ?_
 refine eC 2 16 hs (fun _ _ hs=>nflat A cap ts ls d hO _ _ hs.g (hs.f.2.2.2.2.2.2.1) (hs.f.2.2.2.2.2.1)) ?_
 rintro _ _ _ w4 h5 hs ⟨Aq,cq,rfl,hcq,hAq⟩
 refine eV 3 17 (.int .i64 ((flatq ls).length:Nat)) ?_
 refine eK 4 18 73 ((flatq ls).length) 5 56 (.agg #[.bool false,.int .u64 0,.string ⟨#[]⟩,.int .u64 0,.string ⟨#[]⟩]) qc 0 hs (fun b6 w7 h8 hs=>?_)
 have hl9:(List.replicate ((flatq ls).length) 0).length=((flatq ls).length):=by simp
 refine eClh 5 19 0 hs (fun _ hp g_ f_ sg_=>by have q_:=nFilledB A cap ts ls d hO (some ⟨b6,0,none⟩) ((flatq ls).length) (List.replicate (flatq ls).length (0:Rat)) (by simp) (by simp) _ _ g_ (f_.2.2.2.2.2.2.1) (f_.2.2.2.2.2.1) (SlO.of_flat (sz:=5) (f:=qc) (d:=0) (b:=b6) (o:=0) (l:=List.replicate (flatq ls).length (0:Rat)) (fun _=>rfl) sg_);rw[List.length_replicate] at q_;exact q_) (Ψ:=FilledP ls d (List.replicate (flatq ls).length (0:Rat)) h.size) (fun hp v h1 h2 p e1 e2=>FilledP.tr p e1 e2) ?_
 rintro _ w10 h11 hs ⟨zs,hzl,hzs,hzk,hzf,bl,hinc,hbl,bL,cL,spL,us,rfl,hcL,hLN,hNN⟩
 replace hs:=((hs.add (K:=fun h_=>Nw h.size h_ bL 77 (us.flatMap lvc++spL)) hLN).add (K:=fun h_=>NNb bl d h.size h_ us zs) hNN)
 refine eD1p [⟨b6,73,(List.replicate ((flatq ls).length) 0).flatMap qc⟩] hsr hs 28 [.slice none 0 0] (fun w12 h13 b14 hs=>?_)
 refine tP 7 0 0 ([.slice (some ⟨bL,0,none⟩) us.length cL]) hs (fun w15 hs=>?_)
 refine tN (CG.seq (cSL ?_))
 have hLN_:=(hs.f.2.1)
 have hNN_:=(hs.f.1)
 obtain ⟨Y,hy,hs,hmem,hnd,hkeep,hty⟩:=hs.retake2 h [73] hR.f hR.mo (hs.f.2.2.2.2.2.2.2.2.2.1) (Nat.le_refl _)
 replace hs:=hs.to ([⟨b14,28,[.slice (some ⟨bL,0,none⟩) us.length cL]⟩,⟨b6,73,(List.replicate ((flatq ls).length) 0).flatMap qc⟩,⟨b1,28,[.slice A ts.length cap]⟩]++Y) []
 obtain ⟨pt,sp,hPt,hG,hYN⟩:=gnet_of (n:=ls.length) hmem hkeep hNN_ hzs hzl hinc hbl
 have hLs:SlO 3 lvc lvd hy (some ⟨bL,0,none⟩) us:=SlO.of_flat (fun _=>rfl) (hkeep _ _ _ hLN_ kD).seg
 have hus:=hG.len
 have hz0:=zero_lq hzf
 have hGq:=gradN_lq hz0 hGB
 have hGs:=fun q h0=>gradN_shp (yss:=yss) hO hxd hzs hzl q h0
 replace hs:=((hs.add (K:=fun h_=>Ptrs h_ us pt) hPt).a_SlO hLs)
 refine lL hs [.m 20 1,.v 21 (.int .i64 (ux.length:Nat)),.v 22 (.int .i64 0)] (lN (CG.block (cTo [(1,.slice X ux.length cX),(2,.slice Y_ uy.length cY),(3,.pointer (some ⟨b1,0,none⟩)),(6,.slice none 0 0),(7,.pointer (some ⟨b14,0,none⟩)),(21,.int .i64 (ux.length:Nat)),(22,.int .i64 0)] ?_)))
 refine CG.loop (fun μ_ Γ w_=>∃ (r:Nat) (Y:List Bx) (h_:Hp),μ_=xss.length-r∧Γ=[(1,.slice X ux.length cX),(2,.slice Y_ uy.length cY),(3,.pointer (some ⟨b1,0,none⟩)),(6,.slice none 0 0),(7,.pointer (some ⟨b14,0,none⟩)),(21,.int .i64 (ux.length:Nat)),(22,.int .i64 (r:Nat))]∧SS w h w_ h_ ([⟨b14,28,[.slice (some ⟨bL,0,none⟩) us.length cL]⟩,⟨b6,73,(List.replicate ((flatq ls).length) 0).flatMap qc⟩,⟨b1,28,[.slice A ts.length cap]⟩]++Y) [] [fun h_=>SlO 3 lvc lvd h_ (some ⟨bL,0,none⟩) us,fun h_=>Ptrs h_ us pt,fun h_=>Tab h_,fun h_=>QVs h_ uy yss,fun h_=>SlO 1 vc undef h_ Y_ uy,fun h_=>QVs h_ ux xss,fun h_=>SlO 1 vc undef h_ X ux,fun h_=>NetL h_ ts ls,fun h_=>SlO 3 lvc lvd h_ A ts,fun h_=>Gw h h_]∧(r≤xss.length)∧(YN Y d bl sp ls.length (gradN ls zs xss yss r))∧(∀ y∈Y,y.t=73)) _ ⟨0,Y,hy,rfl,rfl,hs.to _ _,Nat.zero_le _,hYN,(fun y hy=>List.mem_singleton.1 (hty y hy))⟩ ?_
 rintro _ _ w16 ⟨r,Y,h17,hm18,rfl,hs,hr,hY1,hYt⟩
 have hsh:=hGs r hr
 have hGr:=hGq r hr
 refine cSL ?_
 cases hb19:(decide (((r:Nat):Int)<((ux.length:Nat):Int)))
 ·
  have phb19:=oF hb19
  refine lB 23 hb19 ?_
  refine lN (CG.seq (cIF (CG.exit ?_)))
  show CG _ _ _ _ _ _ _ _
  refine cSL ?_
  have hrx:r=xss.length:=by omega
  obtain ⟨Zn,hZn⟩:∃ Zn,Zn=(gradN ls zs xss yss r):=⟨_,rfl⟩
  obtain ⟨hp_,hs,gw_,hYc⟩:=hs.pubY (fun y hy=>by rw[hYt y hy];decide)
  replace hs:=hs.to [⟨b14,28,[.slice (some ⟨bL,0,none⟩) us.length cL]⟩,⟨b6,73,(List.replicate ((flatq ls).length) 0).flatMap qc⟩,⟨b1,28,[.slice A ts.length cap]⟩] []
  obtain ⟨hzs2,hzl2⟩:=hsh
  rw[←hZn] at hY1 hzs2 hzl2
  have hzkk:∀ k,k<ls.length→(Zn.getD k lay0).k=(ls.getD k lay0).k:=by rw[hZn];exact gradN_kd hzk r
  have hNL_:NetL hp_ us Zn:=netl_of hY1 hG (hs.f.2.1) hYc hzs2 hzl2 (fun k h0=>by rw[hzkk k h0,hzk k h0])
  have hn3:=net3_of hO hzs2 hzl2 hzkk
  have hgf:flatq Zn=((List.range (flatq ls).length).map fun p=>gradP ls xss yss p xss.length):=by rw[hZn,hrx];exact gradN_flat hO hxd hzs hzl (fun p=>by rw[hzf];exact rep_zero p)
  replace hs:=hs.add (K:=fun h_=>NetL h_ us Zn) hNL_
  replace hs:=hs.a_SlO (hs.f.2.1)
  refine lL hs [.o 89 (.agg #[.slice (some ⟨bL,0,none⟩) us.length cL]) 0 0 1] (lC 90 hs (nflat (some ⟨bL,0,none⟩) cL us Zn d hn3 _ _ hs.g (hs.f.1) (hs.f.2.1)) ?_)
  rintro _ w20 h21 hs ⟨Af,cf,rfl,hcf,hAf⟩
  replace hs:=(hs.a_SlO hAf)
  exact lL hs [.m 6 90] (lN (CG.ret (hs.ret [] (.slice Af ((flatq Zn).length) cf) (by rw[←hgf];exact ⟨Af,cf,rfl,hcf,(hs.f.1)⟩))))
 have phb19:=oT hb19
 refine lB 23 hb19 ?_
 refine lN (CG.seq (cIT (CG.skipN (CG.seq (CG.block (cSL (lL hs [.m 24 22,.m 8 24] (lN (CG.seq ?_)))))))))
 have hsr:=hs
 refine cR 7 [⟨6,9,.cells (List.toArray [.slice none 0 0,.slice none 0 0,.slice none 0 0]) 165 (0,0)⟩] mixed hs (al_cons (alOk kR (fun _ _=>by kernel_rfl)) al_nil) ?_
 have hxl:=hxd r oM
 have hyl:=hyd r oM
 have hol:=outq_len hO hxl ls.length (Nat.le_refl _)
 refine eO 0 25 [(2,0,1)] (.agg #[.slice A ts.length cap]) hs ?_
 refine eV 1 26 (.slice X ux.length cX) ?_
 refine eV 2 27 (.int .i64 (r:Nat)) ?_
 refine eX 3 28 X ux.length cX 1 (r:Nat) r ((hs.f.2.2.2.2.2.2.1).ok oM) ?_
 obtain ⟨Aqx,cqx,eqx,hcqx,hRqx⟩:=(hs.f.2.2.2.2.2.1).at_ r oM
 replace hs:=(hs.a_SlO hRqx)
 refine eHe 4 29 (ux.getD r undef) hs ((hs.f.2.2.2.2.2.2.2.1).el r oM) eqx ?_
 refine eC 5 30 hs (fun _ _ hs=>nForward A cap ts ls d hO Aqx cqx (xss.getD r []) hxl hcqx (hNB r oM) _ _ hs.g (hs.f.2.2.2.2.2.2.2.2.2.1) (hs.f.2.2.2.2.2.2.2.2.1) (hs.f.1) (hs.f.2.2.2.1)) ?_
 rintro _ _ _ w22 h23 hs ⟨P1,c1,u1,P2,c2,u2,Az,cz,rfl,hc1,hc2,hcz,hP1,hP2,hQ1,hQ2,hAz⟩
 replace hs:=(((((hs.a_SlO hP1).a_SlO hP2).add (K:=fun h_=>QVs h_ u1 (insq ls (xss.getD r []) ls.length)) hQ1).add (K:=fun h_=>QVs h_ u2 (sumsq ls (xss.getD r []) ls.length)) hQ2).a_SlO hAz)
 have hu1:=(hs.f.2.2.1).len
 have hu2:=(hs.f.2.1).len
 rw[insq_len] at hu1
 rw[sumsq_len] at hu2
 refine eD1p [] hsr hs 165 [.slice none 0 0,.slice none 0 0,.slice none 0 0] (fun w24 h25 b26 hs=>?_)
 refine tP 7 0 0 ([.slice P1 u1.length c1,.slice P2 u2.length c2,.slice Az ((outq ls (xss.getD r []) ls.length).length) cz]) hs (fun w27 hs=>?_)
 refine tNS ?_
 refine lL hs [.v 31 (.pointer (some ⟨b26,2,none⟩)),.o 32 (.slice Az ((outq ls (xss.getD r []) ls.length).length) cz) 0 2 1,.v 33 (.int .i64 ((outq ls (xss.getD r []) ls.length).length:Nat))] (lK 34 73 ((outq ls (xss.getD r []) ls.length).length:Nat) 5 56 (.agg #[.bool false,.int .u64 0,.string ⟨#[]⟩,.int .u64 0,.string ⟨#[]⟩]) qc 0 hs (fun b28 w29 h30 hs=>?_))
 have hl31:(List.replicate ((outq ls (xss.getD r []) ls.length).length:Nat) 0).length=((outq ls (xss.getD r []) ls.length).length:Nat):=by simp
 refine lL hs [.m 10 34] (lN (CG.seq (cSL (lL hs [.v 35 (.pointer (some ⟨b26,2,none⟩)),.o 36 (.slice Az ((outq ls (xss.getD r []) ls.length).length) cz) 1 2 1,.v 37 (.int .i64 ((outq ls (xss.getD r []) ls.length).length:Nat)),.v 38 (.int .i64 0)] (lN (CG.block (cTo [(1,.slice X ux.length cX),(2,.slice Y_ uy.length cY),(3,.pointer (some ⟨b1,0,none⟩)),(6,.slice none 0 0),(7,.pointer (some ⟨b14,0,none⟩)),(21,.int .i64 (ux.length:Nat)),(22,.int .i64 (r:Nat)),(8,.int .i64 (r:Nat)),(9,.pointer (some ⟨b26,0,none⟩)),(10,.slice (some ⟨b28,0,none⟩) ((outq ls (xss.getD r []) ls.length).length:Nat) ((outq ls (xss.getD r []) ls.length).length:Nat)),(36,.slice Az ((outq ls (xss.getD r []) ls.length).length) cz),(37,.int .i64 ((outq ls (xss.getD r []) ls.length).length:Nat)),(38,.int .i64 0)] ?_)))))))
 refine CG.loop (fun μ_ Γ w_=>∃ (j:Nat) (bl_:List Rat) (h_:Hp),μ_=(outq ls (xss.getD r []) ls.length).length-j∧Γ=[(1,.slice X ux.length cX),(2,.slice Y_ uy.length cY),(3,.pointer (some ⟨b1,0,none⟩)),(6,.slice none 0 0),(7,.pointer (some ⟨b14,0,none⟩)),(21,.int .i64 (ux.length:Nat)),(22,.int .i64 (r:Nat)),(8,.int .i64 (r:Nat)),(9,.pointer (some ⟨b26,0,none⟩)),(10,.slice (some ⟨b28,0,none⟩) ((outq ls (xss.getD r []) ls.length).length:Nat) ((outq ls (xss.getD r []) ls.length).length:Nat)),(36,.slice Az ((outq ls (xss.getD r []) ls.length).length) cz),(37,.int .i64 ((outq ls (xss.getD r []) ls.length).length:Nat)),(38,.int .i64 (j:Nat))]∧SS w h w_ h_ ([⟨b28,73,(bl_).flatMap qc⟩,⟨b26,165,[.slice P1 u1.length c1,.slice P2 u2.length c2,.slice Az ((outq ls (xss.getD r []) ls.length).length) cz]⟩,⟨b14,28,[.slice (some ⟨bL,0,none⟩) us.length cL]⟩,⟨b6,73,(List.replicate ((flatq ls).length) 0).flatMap qc⟩,⟨b1,28,[.slice A ts.length cap]⟩]++Y) [] [fun h_=>SlO 5 qc 0 h_ Az (outq ls (xss.getD r []) ls.length),fun h_=>QVs h_ u2 (sumsq ls (xss.getD r []) ls.length),fun h_=>QVs h_ u1 (insq ls (xss.getD r []) ls.length),fun h_=>SlO 1 vc undef h_ P2 u2,fun h_=>SlO 1 vc undef h_ P1 u1,fun h_=>SlO 5 qc 0 h_ Aqx (xss.getD r []),fun h_=>SlO 3 lvc lvd h_ (some ⟨bL,0,none⟩) us,fun h_=>Ptrs h_ us pt,fun h_=>Tab h_,fun h_=>QVs h_ uy yss,fun h_=>SlO 1 vc undef h_ Y_ uy,fun h_=>QVs h_ ux xss,fun h_=>SlO 1 vc undef h_ X ux,fun h_=>NetL h_ ts ls,fun h_=>SlO 3 lvc lvd h_ A ts,fun h_=>Gw h h_]∧(j≤(outq ls (xss.getD r []) ls.length).length)∧(bl_.length=(outq ls (xss.getD r []) ls.length).length)∧(∀ i,i<j→bl_.getD i 0=((outq ls (xss.getD r []) ls.length).getD i 0-(yss.getD r []).getD i 0)*((2:Int):Rat))) _ ⟨0,List.replicate (outq ls (xss.getD r []) ls.length).length (0:Rat),h30,rfl,rfl,hs.to _ _,Nat.zero_le _,(by simp),fun i hi=>absurd hi (Nat.not_lt_zero i)⟩ ?_
 rintro _ _ w32 ⟨j,bl_,h33,hm34,rfl,hs,hj,hbl_,hbv⟩
 refine cSL ?_
 cases hb35:(decide (((j:Nat):Int)<(((outq ls (xss.getD r []) ls.length).length:Nat):Int)))
 ·
  have phb35:=oF hb35
  refine lB 39 hb35 ?_
  refine lN (CG.seq (cIF (CG.exit ?_)))
  show CG _ _ _ _ _ _ _ _
  refine cSL ?_
  have hble:bl_=(topq (outq ls (xss.getD r []) ls.length) (yss.getD r [])):=map_of hbv (show j=(outq ls (xss.getD r []) ls.length).length by omega) (show bl_.length=(outq ls (xss.getD r []) ls.length).length from hbl_)
  obtain ⟨h36,hs,sg37,lo38,bc39⟩:=hs.pub 0
  replace hs:=(hs.to ([⟨b26,165,[.slice P1 u1.length c1,.slice P2 u2.length c2,.slice Az ((outq ls (xss.getD r []) ls.length).length) cz]⟩,⟨b14,28,[.slice (some ⟨bL,0,none⟩) us.length cL]⟩,⟨b6,73,(List.replicate ((flatq ls).length) 0).flatMap qc⟩,⟨b1,28,[.slice A ts.length cap]⟩]++Y) []).a_SlO (SlO.of_flat (sz:=5) (f:=qc) (d:=0) (b:=b28) (o:=0) (l:=bl_) (fun _=>rfl) sg37)
  have htl_:(topq (outq ls (xss.getD r []) ls.length) (yss.getD r [])).length=(outq ls (xss.getD r []) ls.length).length:=topq_len
  replace hs:=hs.a_SlO (show SlO 5 qc 0 h36 (some ⟨b28,0,none⟩) (topq (outq ls (xss.getD r []) ls.length) (yss.getD r [])) by rw[←hble];exact (hs.f.1))
  replace hs:=hs.to ([⟨b26,165,[.slice P1 u1.length c1,.slice P2 u2.length c2,.slice Az ((outq ls (xss.getD r []) ls.length).length) cz]⟩,⟨b14,28,[.slice (some ⟨bL,0,none⟩) us.length cL]⟩,⟨b6,73,(List.replicate ((flatq ls).length) 0).flatMap qc⟩,⟨b1,28,[.slice A ts.length cap]⟩]++Y) []
  refine lL hs [.v 58 (.pointer (some ⟨b1,0,none⟩)),.o 59 (.slice A ts.length cap) 3 0 1,.v 60 (.int .i64 (ts.length:Nat))] (lV 61 (.int .i64 (((ls.length:Nat):Int)-1-(0:Nat))) ?_ (hr:=rint (n:=IntKind.wrap .i64 ((ts.length:Nat)-1)) kR ((wr64 oM oM).trans oM)))
  refine lL hs [.m 13 61] (lN (CG.block (cTo [(1,.slice X ux.length cX),(2,.slice Y_ uy.length cY),(3,.pointer (some ⟨b1,0,none⟩)),(6,.slice none 0 0),(7,.pointer (some ⟨b14,0,none⟩)),(21,.int .i64 (ux.length:Nat)),(22,.int .i64 (r:Nat)),(9,.pointer (some ⟨b26,0,none⟩)),(13,.int .i64 (((ls.length:Nat):Int)-1-(0:Nat))),(10,.slice (some ⟨b28,0,none⟩) ((outq ls (xss.getD r []) ls.length).length:Nat) ((outq ls (xss.getD r []) ls.length).length:Nat))] ?_)))
  replace hs:=hs.add (K:=fun h_=>SlO 5 qc 0 h_ (some ⟨b28,0,none⟩) (barq ls (xss.getD r []) (topq (outq ls (xss.getD r []) ls.length) (yss.getD r [])) ls.length 0)) ((by show SlO 5 qc 0 _ _ (topq _ _);exact (hs.f.1)))
  refine CG.loop (fun μ_ Γ w_=>∃ (t:Nat) (Zb:Option Addr) (nb_:Nat) (cb:Nat) (Y:List Bx) (zst:List Lay) (h_:Hp),μ_=ls.length-t∧Γ=[(1,.slice X ux.length cX),(2,.slice Y_ uy.length cY),(3,.pointer (some ⟨b1,0,none⟩)),(6,.slice none 0 0),(7,.pointer (some ⟨b14,0,none⟩)),(21,.int .i64 (ux.length:Nat)),(22,.int .i64 (r:Nat)),(9,.pointer (some ⟨b26,0,none⟩)),(13,.int .i64 (((ls.length:Nat):Int)-1-(t:Nat))),(10,.slice Zb nb_ cb)]∧SS w h w_ h_ ([⟨b26,165,[.slice P1 u1.length c1,.slice P2 u2.length c2,.slice Az ((outq ls (xss.getD r []) ls.length).length) cz]⟩,⟨b14,28,[.slice (some ⟨bL,0,none⟩) us.length cL]⟩,⟨b6,73,(List.replicate ((flatq ls).length) 0).flatMap qc⟩,⟨b1,28,[.slice A ts.length cap]⟩]++Y) [] [fun h_=>SlO 5 qc 0 h_ Zb (barq ls (xss.getD r []) (topq (outq ls (xss.getD r []) ls.length) (yss.getD r [])) ls.length t),fun h_=>SlO 5 qc 0 h_ (some ⟨b28,0,none⟩) (topq (outq ls (xss.getD r []) ls.length) (yss.getD r [])),fun h_=>SlO 5 qc 0 h_ (some ⟨b28,0,none⟩) (bl_),fun h_=>SlO 5 qc 0 h_ Az (outq ls (xss.getD r []) ls.length),fun h_=>QVs h_ u2 (sumsq ls (xss.getD r []) ls.length),fun h_=>QVs h_ u1 (insq ls (xss.getD r []) ls.length),fun h_=>SlO 1 vc undef h_ P2 u2,fun h_=>SlO 1 vc undef h_ P1 u1,fun h_=>SlO 5 qc 0 h_ Aqx (xss.getD r []),fun h_=>SlO 3 lvc lvd h_ (some ⟨bL,0,none⟩) us,fun h_=>Ptrs h_ us pt,fun h_=>Tab h_,fun h_=>QVs h_ uy yss,fun h_=>SlO 1 vc undef h_ Y_ uy,fun h_=>QVs h_ ux xss,fun h_=>SlO 1 vc undef h_ X ux,fun h_=>NetL h_ ts ls,fun h_=>SlO 3 lvc lvd h_ A ts,fun h_=>Gw h h_]∧(t≤ls.length)∧((barq ls (xss.getD r []) (topq (outq ls (xss.getD r []) ls.length) (yss.getD r [])) ls.length t).length=nb_)∧(zst.length=ls.length)∧(∀ m,m<ls.length→zst.getD m lay0=if ls.length-t≤m then accl ((gradN ls zs xss yss r).getD m lay0) (ls.getD m lay0) (outq ls (xss.getD r []) m) (barq ls (xss.getD r []) (topq (outq ls (xss.getD r []) ls.length) (yss.getD r [])) ls.length (ls.length-1-m)) else (gradN ls zs xss yss r).getD m lay0)∧(YN Y d bl sp ls.length zst)∧(∀ y∈Y,y.t=73)∧((barq ls (xss.getD r []) (topq (outq ls (xss.getD r []) ls.length) (yss.getD r [])) ls.length t).length=d (ls.length-t))) _ ⟨0,some ⟨b28,0,none⟩,((outq ls (xss.getD r []) ls.length).length:Nat),((outq ls (xss.getD r []) ls.length).length:Nat),Y,(gradN ls zs xss yss r),h36,rfl,rfl,hs.to _ _,Nat.zero_le _,(show (topq _ _).length=_ from topq_len),hsh.2,(fun m hm=>by rw[if_neg oM]),hY1,hYt,(by show (topq _ _).length=_;rw[topq_len,hol,Nat.sub_zero])⟩ ?_
  rintro _ _ w42 ⟨t,Zb,nb_,cb,Y,zst,h43,hm44,rfl,hs,ht,hnb,hzt0,hzt,hY2,hYt,hbb⟩
  refine CG.seq (cSL ?_)
  subst hnb
  refine lL hs [.m 62 13] ?_
  cases hb45:(decide ((0:Int)≤(((ls.length:Nat):Int)-1-(t:Nat):Int)))
  ·
   have phb45:=oF hb45
   refine lB 63 hb45 ?_
   refine lN (cIF (CG.exit ?_))
   show CG _ _ _ _ _ _ _ _
   refine CG.listed (lIn 88 ((r:Nat)+1) (r+1) ?_)
   refine lL hs [.m 22 88] (lD ?_)
   intro a_ ka
   have q46:(r+1)≤xss.length:=by omega
   have q47:YN Y d bl sp ls.length (gradN ls zs xss yss (r+1)):=(by have e_:zst=(gradN ls zs xss yss (r+1)):=acc_all hzt0 (fun m hm=>by rw[hzt m hm,if_pos oM]);rw[←e_];exact hY2)
   have q48:∀ y∈Y,y.t=73:=hYt
   replace hs:=hs.tl.tl.tl.tl.tl.tl.tl.tl.tl
   replace hs:=hs.drop 1 0
   refine ⟨_,_,?_,⟨r+1,Y,h43,rfl,rfl,hs.to _ _,q46,q47,q48⟩,ka.to [(1,.slice X ux.length cX),(2,.slice Y_ uy.length cY),(3,.pointer (some ⟨b1,0,none⟩)),(6,.slice none 0 0),(7,.pointer (some ⟨b14,0,none⟩)),(21,.int .i64 (ux.length:Nat)),(22,.int .i64 ((r+1):Nat))] kR⟩
   omega
  have phb45:=oT hb45
  refine lB 63 hb45 ?_
  refine lN (cIT (CG.skipN (CG.seq (CG.block ?_))))
  obtain ⟨k,hk⟩:∃ k,k=ls.length-1-t:=⟨_,rfl⟩
  have hkn:k<ls.length:=by omega
  have hMY:=hY2.mem hkn
  have hlx:=outq_len hO hxl k oM
  refine CG.region ⟨blks d bl k,none⟩ 22 [] mixed kR hs.g al_nil (fun b hb=>lt_of_some (hs.tail_jk hMY b hb)) ?_
  refine eV 0 66 (.pointer (some ⟨b1,0,none⟩)) ?_
  refine eO 1 67 [(3,0,1)] (.slice A ts.length cap) hs ?_ (hM:=(fun p hp=>by obtain rfl:=List.mem_singleton.1 hp;exact hs.tail_ne hMY _))
  refine eV 2 68 (.int .i64 (((ls.length:Nat):Int)-1-(t:Nat))) ?_
  refine eX 3 69 A ts.length cap 3 (((ls.length:Nat):Int)-1-(t:Nat)) k ((hs.f.2.2.2.2.2.2.2.2.2.2.2.2.2.2.2.2.2.1).ok oM) ?_
  obtain ⟨ekx,⟨AWx,cWx,usx,eWx,hcWx,hAWx,hUx⟩,⟨ABx,cBx,eBx,hcBx,hABx⟩⟩:=(hs.f.2.2.2.2.2.2.2.2.2.2.2.2.2.2.2.2.1).at_ k oM
  obtain ⟨mtx,lbx,r12x,kdx⟩:=hO.lay k oM
  have lux:=hUx.len;have mrx:=mtx.rows;have mpx:=mtx.rpos;have mcx:=mtx.cpos;have m0x:=mtx.row 0 oM
  replace hs:=(((hs.a_SlO hAWx).add (K:=fun h_=>QVs h_ usx (ls.getD k lay0).W) hUx).a_SlO hABx)
  refine eHe 4 70 (.agg #[.int .i64 ((ts.getD k lvd).1),(ts.getD k lvd).2.1,(ts.getD k lvd).2.2]) hs ((hs.f.2.2.2.2.2.2.2.2.2.2.2.2.2.2.2.2.2.2.2.2.1).el k oM) (by rw[ekx,eWx,eBx]) ?_ (hM:=(fun b hb=>hs.tail_jk hMY b hb))
  refine eV 5 71 (.pointer (some ⟨b14,0,none⟩)) ?_
  refine eO 6 72 [(1,0,1)] (.slice (some ⟨bL,0,none⟩) us.length cL) hs ?_ (hM:=(fun p hp=>by obtain rfl:=List.mem_singleton.1 hp;exact hs.tail_ne hMY _))
  refine eV 7 73 (.int .i64 (((ls.length:Nat):Int)-1-(t:Nat))) ?_
  refine eX 8 74 (some ⟨bL,0,none⟩) us.length cL 3 (((ls.length:Nat):Int)-1-(t:Nat)) k ((hs.f.2.2.2.2.2.2.2.2.2.2.2.2.1).ok oM) ?_
  obtain ⟨AS,cS,eS1,hcS,hAS⟩:=(hs.f.2.2.2.2.2.2.2.2.2.2.2.2.2.1) k oM
  obtain ⟨cSB,hcSB,eS2⟩:=hG.b k hkn
  have hptl:=hG.ptl k hkn
  replace hs:=(hs.a_SlO hAS)
  refine eHe 9 75 (.agg #[.int .i64 ((us.getD k lvd).1),(us.getD k lvd).2.1,(us.getD k lvd).2.2]) hs ((hs.f.2.2.2.2.2.2.2.2.2.2.2.2.2.1).el k oM) (by rw[eS1,eS2]) ?_ (hM:=(fun b hb=>hs.tail_jk hMY b hb))
  refine eV 10 76 (.pointer (some ⟨b26,0,none⟩)) ?_
  refine eO 11 77 [(0,0,1)] (.slice P1 u1.length c1) hs ?_ (hM:=(fun p hp=>by obtain rfl:=List.mem_singleton.1 hp;exact hs.tail_ne hMY _))
  refine eV 12 78 (.int .i64 (((ls.length:Nat):Int)-1-(t:Nat))) ?_
  refine eX 13 79 P1 u1.length c1 1 (((ls.length:Nat):Int)-1-(t:Nat)) k ((hs.f.2.2.2.2.2.2.2.2.2.2.2.1).ok oM) ?_
  obtain ⟨Ai,ci,ei,hci,hAi⟩:=(hs.f.2.2.2.2.2.2.2.2.2.1).at_ k (by rw[insq_len];omega)
  rw[insq_get hkn] at ei hAi
  replace hs:=(hs.a_SlO hAi)
  refine eHe 14 80 (u1.getD k undef) hs ((hs.f.2.2.2.2.2.2.2.2.2.2.2.2.1).el k oM) ei ?_ (hM:=(fun b hb=>hs.tail_jk hMY b hb))
  refine eV 15 81 (.pointer (some ⟨b26,1,none⟩)) ?_
  refine eO 16 82 [(0,1,1)] (.slice P2 u2.length c2) hs ?_ (hM:=(fun p hp=>by obtain rfl:=List.mem_singleton.1 hp;exact hs.tail_ne hMY _))
  refine eV 17 83 (.int .i64 (((ls.length:Nat):Int)-1-(t:Nat))) ?_
  refine eX 18 84 P2 u2.length c2 1 (((ls.length:Nat):Int)-1-(t:Nat)) k ((hs.f.2.2.2.2.2.2.2.2.2.2.2.1).ok oM) ?_
  obtain ⟨Av,cv,ev_,hcv,hAv⟩:=(hs.f.2.2.2.2.2.2.2.2.2.1).at_ k (by rw[sumsq_len];omega)
  rw[sumsq_get hkn] at ev_ hAv
  replace hs:=(hs.a_SlO hAv)
  refine eHe 19 85 (u2.getD k undef) hs ((hs.f.2.2.2.2.2.2.2.2.2.2.2.2.1).el k oM) ev_ ?_ (hM:=(fun b hb=>hs.tail_jk hMY b hb))
  refine eV 20 86 (.slice Zb ((barq ls (xss.getD r []) (topq (outq ls (xss.getD r []) ls.length) (yss.getD r [])) ls.length t).length) cb) ?_
  have hzk_:zst.getD k lay0=(gradN ls zs xss yss r).getD k lay0:=by rw[hzt k hkn,if_neg oM]
  obtain ⟨msx,hsb⟩:=hsh.1 k oM
  have hm5:=hd5 k hkn
  have hc20:=hO.small k hkn
  obtain ⟨hyR,hyB⟩:=hY2 k hkn
  have hbe:(barq ls (xss.getD r []) (topq (outq ls (xss.getD r []) ls.length) (yss.getD r [])) ls.length (t+1))=downq (ls.getD k lay0) (outq ls (xss.getD r []) k) (barq ls (xss.getD r []) (topq (outq ls (xss.getD r []) ls.length) (yss.getD r [])) ls.length t):=by rw[hk];rfl
  refine eCms 21 87 hs rfl (fun _ _ hs=>by have q_:=nBackward (ls.getD k lay0) (d (k+1)) (d k) mtx hm5 hc20 kdx AWx cWx usx ABx cBx (ls.getD k lay0).B.length (us.getD k lvd).1 AS cS (pt k) cSB (fun j=>bl.getD (npos d k+j) 0) (sp k) (zst.getD k lay0) hptl (hG.row k hkn) hcSB (fun j hj=>by rw[hzk_];exact msx.row j hj) (by rw[hzk_];exact hsb) (by rw[hzk_];exact msx.rows) (fun i j hi hj e=>(hG.inj hkn hkn hi hj e).2) Ai ci (outq ls (xss.getD r []) k) hlx Av cv Zb cb (barq ls (xss.getD r []) (topq (outq ls (xss.getD r []) ls.length) (yss.getD r [])) ls.length t) (by rw[hbb,show ls.length-t=k+1 by omega]) ((hGB r oM).bar t oM) ((hGB r oM).su k hkn) ((hGB r oM).x k hkn) (hwq k) (fun i j=>by rw[hzk_];exact ((hGr k).w i j).mono oM) (fun j=>by rw[hzk_];exact ((hGr k).b j).mono oM) (bl.getD (npos d k+d (k+1)) 0) rfl _ _ hs.g (fun j hj=>hs.ownM (List.mem_append_right _ (hyR j hj))) (hs.ownM (List.mem_append_right _ hyB)) (fun j hj=>hs.tail_jk hMY _ (blks_in hj)) (hs.f.2.2.2.2.2.1) (hs.f.2.2.2.2.1) (hs.f.2.2.1) (hs.f.2.1) (hs.f.1) (hs.f.2.2.2.2.2.2.1) (hs.f.2.2.2.2.2.2.2.2.2.2.2.2.2.2.2.2.2.1);rw[←hbe] at q_;exact q_) ?_
  rintro _ _ _ w49 h50 hs u51 ⟨Zc,cc_,rfl,hcc_,hdn,hoR,hoB⟩
  obtain ⟨Y52,hs,hk1,hk2,hk3⟩:=hs.stepY u51 (hY2.own hkn hoR hoB)
  have hY3:=hY2.put hG hkn hzt0 hoR hoB hk1 hk2
  have hYt3:=yt_new hYt hk3
  replace hs:=(hs.a_SlO hdn)
  refine eD0 hs (fun w53 h54 hs=>?_)
  refine tV 22 10 (.slice Zc ((barq ls (xss.getD r []) (topq (outq ls (xss.getD r []) ls.length) (yss.getD r [])) ls.length (t+1)).length) cc_) ?_
  refine tN (CG.listed (lL hs [.m 64 13] (lV 65 (.int .i64 (((ls.length:Nat):Int)-1-(t+1:Nat))) ?_ (hr:=rint (n:=IntKind.wrap .i64 ((((ls.length:Nat):Int)-1-(t:Nat))-1)) kR ((wr64 oM oM).trans oM)))))
  refine lL hs [.m 13 65] (lD ?_)
  intro a_ ka
  have q55:SlO 5 qc 0 h54 Zc (barq ls (xss.getD r []) (topq (outq ls (xss.getD r []) ls.length) (yss.getD r [])) ls.length (t+1)):=(hs.f.1)
  have q56:(t+1)≤ls.length:=by omega
  have q57:(barq ls (xss.getD r []) (topq (outq ls (xss.getD r []) ls.length) (yss.getD r [])) ls.length (t+1)).length=((barq ls (xss.getD r []) (topq (outq ls (xss.getD r []) ls.length) (yss.getD r [])) ls.length (t+1)).length):=rfl
  have q58:(zst.set k (accl (zst.getD k lay0) (ls.getD k lay0) (outq ls (xss.getD r []) k) (barq ls (xss.getD r []) (topq (outq ls (xss.getD r []) ls.length) (yss.getD r [])) ls.length t))).length=ls.length:=(by rw[List.length_set];exact hzt0)
  have q59:∀ m,m<ls.length→(zst.set k (accl (zst.getD k lay0) (ls.getD k lay0) (outq ls (xss.getD r []) k) (barq ls (xss.getD r []) (topq (outq ls (xss.getD r []) ls.length) (yss.getD r [])) ls.length t))).getD m lay0=if ls.length-(t+1)≤m then accl ((gradN ls zs xss yss r).getD m lay0) (ls.getD m lay0) (outq ls (xss.getD r []) m) (barq ls (xss.getD r []) (topq (outq ls (xss.getD r []) ls.length) (yss.getD r [])) ls.length (ls.length-1-m)) else (gradN ls zs xss yss r).getD m lay0:=(acc_put hzt0 hk oM hzt)
  have q60:YN Y52 d bl sp ls.length (zst.set k (accl (zst.getD k lay0) (ls.getD k lay0) (outq ls (xss.getD r []) k) (barq ls (xss.getD r []) (topq (outq ls (xss.getD r []) ls.length) (yss.getD r [])) ls.length t))):=hY3
  have q61:∀ y∈Y52,y.t=73:=hYt3
  have q62:(barq ls (xss.getD r []) (topq (outq ls (xss.getD r []) ls.length) (yss.getD r [])) ls.length (t+1)).length=d (ls.length-(t+1)):=(by rw[hbe,downq_len,hlx,show ls.length-(t+1)=k by omega])
  replace hs:=(hs.tl.tl.tl.tl.tl.tl.tl.tl.add (K:=fun h_=>SlO 5 qc 0 h_ Zc (barq ls (xss.getD r []) (topq (outq ls (xss.getD r []) ls.length) (yss.getD r [])) ls.length (t+1))) q55)
  refine ⟨_,_,?_,⟨t+1,Zc,(barq ls (xss.getD r []) (topq (outq ls (xss.getD r []) ls.length) (yss.getD r [])) ls.length (t+1)).length,cc_,Y52,zst.set k (accl (zst.getD k lay0) (ls.getD k lay0) (outq ls (xss.getD r []) k) (barq ls (xss.getD r []) (topq (outq ls (xss.getD r []) ls.length) (yss.getD r [])) ls.length t)),h54,rfl,rfl,hs.to _ _,q56,q57,q58,q59,q60,q61,q62⟩,ka.to [(1,.slice X ux.length cX),(2,.slice Y_ uy.length cY),(3,.pointer (some ⟨b1,0,none⟩)),(6,.slice none 0 0),(7,.pointer (some ⟨b14,0,none⟩)),(21,.int .i64 (ux.length:Nat)),(22,.int .i64 (r:Nat)),(9,.pointer (some ⟨b26,0,none⟩)),(13,.int .i64 (((ls.length:Nat):Int)-1-((t+1):Nat))),(10,.slice Zc ((barq ls (xss.getD r []) (topq (outq ls (xss.getD r []) ls.length) (yss.getD r [])) ls.length (t+1)).length) cc_)] kR⟩
  omega
 have phb35:=oT hb35
 refine lB 39 hb35 ?_
 refine lN (CG.seq (cIT (CG.skipN (CG.seq (CG.block (cSL (lL hs [.m 40 38] (lX 41 Az ((outq ls (xss.getD r []) ls.length).length) cz 5 (j:Nat) j ((hs.f.1).ok oM) ?_))))))))
 refine lH 42 (qv ((outq ls (xss.getD r []) ls.length).getD j 0)) hs ((hs.f.1).el j oM) ?_
 refine lA 12 73 ([.bool false,.int .u64 0,.string ⟨#[]⟩,.int .u64 0,.string ⟨#[]⟩]) hs (fun b63 w64 h65 hs=>?_)
 refine lL hs [.m 11 40] (lP 0 0 (qc ((outq ls (xss.getD r []) ls.length).getD j 0)) hs (fun w66 hs=>?_))
 refine lN (cR 13 [] mixed hs al_nil ?_)
 refine eV 0 43 (.slice (some ⟨b28,0,none⟩) ((outq ls (xss.getD r []) ls.length).length:Nat) ((outq ls (xss.getD r []) ls.length).length:Nat)) ?_
 refine eV 1 44 (.int .i64 (j:Nat)) ?_
 refine eO 2 45 [(0,0,5)] (qv ((outq ls (xss.getD r []) ls.length).getD j 0)) hs ?_
 refine eV 3 46 (.slice Y_ uy.length cY) ?_
 refine eV 4 47 (.int .i64 (r:Nat)) ?_
 refine eX 5 48 Y_ uy.length cY 1 (r:Nat) r ((hs.f.2.2.2.2.2.2.2.2.2.2.1).ok oM) ?_
 obtain ⟨Aqy,cqy,eqy,hcqy,hRqy⟩:=(hs.f.2.2.2.2.2.2.2.2.2.1).at_ r oM
 replace hs:=(hs.a_SlO hRqy)
 refine eHe 6 49 (uy.getD r undef) hs ((hs.f.2.2.2.2.2.2.2.2.2.2.2.1).el r oM) eqy ?_
 refine eV 7 50 (.int .i64 (j:Nat)) ?_
 refine eX 8 51 Aqy ((yss.getD r []).length) cqy 5 (j:Nat) j ((hs.f.1).ok oM) ?_
 refine eH 9 52 (qv ((yss.getD r []).getD j 0)) hs ((hs.f.1).el j oM) ?_
 have hq67:=LQ.sub (hZq r oM j) (hYq r j)
 refine eC 10 53 hs (fun _ _ hs=>fSub ((outq ls (xss.getD r []) ls.length).getD j 0) ((yss.getD r []).getD j 0) (LQ.mono (hZq r oM j) oM) (LQ.mono (hYq r j) oM) _ _ hs.g (hs.f.2.2.2.2.2.2.2.2.2.1)) ?_
 rintro _ _ _ w68 h69 hs rfl
 refine eC 11 54 hs (fun _ _ hs=>fOf 2 oM oM _ _ hs.g) ?_
 rintro _ _ _ w70 h71 hs rfl
 have hq72:=LQ.mul hq67 (LQ.lit (z:=2) kD)
 refine eC 12 55 hs (fun _ _ hs=>fMul (((outq ls (xss.getD r []) ls.length).getD j 0)-((yss.getD r []).getD j 0)) ((2:Int):Rat) (LQ.mono hq67 oM) (LQ.mono (LQ.lit (z:=2) kD) oM) _ _ hs.g (hs.f.2.2.2.2.2.2.2.2.2.1)) ?_
 rintro _ _ _ w73 h74 hs rfl
 refine eD0 hs (fun w75 h76 hs=>?_)
 refine tX 13 56 (some ⟨b28,0,none⟩) ((outq ls (xss.getD r []) ls.length).length:Nat) ((outq ls (xss.getD r []) ls.length).length:Nat) 5 (j:Nat) j rfl ?_
 refine tW 14 1 bl_ qc 5 j ((((outq ls (xss.getD r []) ls.length).getD j 0)-((yss.getD r []).getD j 0))*((2:Int):Rat)) hs oM (fun w77 hs=>?_)
 have hl78:((bl_).set j ((((outq ls (xss.getD r []) ls.length).getD j 0)-((yss.getD r []).getD j 0))*((2:Int):Rat))).length=((outq ls (xss.getD r []) ls.length).length:Nat):=by rw[List.length_set];exact hbl_
 replace hs:=hs.to ([⟨b63,73,qc ((outq ls (xss.getD r []) ls.length).getD j 0)⟩,⟨b28,73,((bl_).set j ((((outq ls (xss.getD r []) ls.length).getD j 0)-((yss.getD r []).getD j 0))*((2:Int):Rat))).flatMap qc⟩,⟨b26,165,[.slice P1 u1.length c1,.slice P2 u2.length c2,.slice Az ((outq ls (xss.getD r []) ls.length).length) cz]⟩,⟨b14,28,[.slice (some ⟨bL,0,none⟩) us.length cL]⟩,⟨b6,73,(List.replicate ((flatq ls).length) 0).flatMap qc⟩,⟨b1,28,[.slice A ts.length cap]⟩]++Y) []
 refine tN (CG.listed (lIn 57 ((j:Nat)+1) (j+1) ?_))
 refine lL hs [.m 38 57] (lD ?_)
 intro a_ ka
 have q79:(j+1)≤(outq ls (xss.getD r []) ls.length).length:=by omega
 have q80:((bl_).set j ((((outq ls (xss.getD r []) ls.length).getD j 0)-((yss.getD r []).getD j 0))*((2:Int):Rat))).length=(outq ls (xss.getD r []) ls.length).length:=hl78
 have q81:∀ i,i<(j+1)→((bl_).set j ((((outq ls (xss.getD r []) ls.length).getD j 0)-((yss.getD r []).getD j 0))*((2:Int):Rat))).getD i 0=((outq ls (xss.getD r []) ls.length).getD i 0-(yss.getD r []).getD i 0)*((2:Int):Rat):=(fstep hbv oM rfl)
 replace hs:=hs.tl
 replace hs:=hs.drop 1 0
 refine ⟨_,_,?_,⟨j+1,(bl_).set j ((((outq ls (xss.getD r []) ls.length).getD j 0)-((yss.getD r []).getD j 0))*((2:Int):Rat)),h76,rfl,rfl,hs.to _ _,q79,q80,q81⟩,ka.to [(1,.slice X ux.length cX),(2,.slice Y_ uy.length cY),(3,.pointer (some ⟨b1,0,none⟩)),(6,.slice none 0 0),(7,.pointer (some ⟨b14,0,none⟩)),(21,.int .i64 (ux.length:Nat)),(22,.int .i64 (r:Nat)),(8,.int .i64 (r:Nat)),(9,.pointer (some ⟨b26,0,none⟩)),(10,.slice (some ⟨b28,0,none⟩) ((outq ls (xss.getD r []) ls.length).length:Nat) ((outq ls (xss.getD r []) ls.length).length:Nat)),(36,.slice Az ((outq ls (xss.getD r []) ls.length).length) cz),(37,.int .i64 ((outq ls (xss.getD r []) ls.length).length:Nat)),(38,.int .i64 ((j+1):Nat))] kR⟩
 omega
theorem nGradE (A:Option Addr)(cap:Nat)(ts:List LV)(ls:List Lay)(hn:ls.length≤1000000)(hF:∀ i,i<ls.length→LayLen (ls.getD i lay0))(X:Option Addr)(cX:Nat)(ux:List Value)(xss:List (List Rat))(Y_:Option Addr)(cY:Nat)(uy:List Value)(yss:List (List Rat))(wx wy:Nat)(hxw:∀ i,i<xss.length→(xss.getD i []).length=wx)(hyw:∀ i,i<yss.length→(yss.getD i []).length=wy)(he:netE ls xss.length wx yss.length wy≠0)(w:World)(h:Hp)(g:G w h)(hA:SlO 3 lvc lvd h A ts)(hN:NetL h ts ls)(hX:SlO 1 vc undef h X ux)(hU:QVs h ux xss)(hY:SlO 1 vc undef h Y_ uy)(hV:QVs h uy yss) :
    Calls Tryz.prog 28 #[.agg #[.slice A ts.length cap],.slice X ux.length cX,.slice Y_ uy.length cY] w (Ret w h fun v _=>v=.tuple #[.slice none 0 0,.int .i64 (netE ls xss.length wx yss.length wy)]):=by
 have hs:=SS.start g
 replace hs:=((((((hs.a_SlO hA).add (K:=fun h_=>NetL h_ ts ls) hN).a_SlO hX).add (K:=fun h_=>QVs h_ ux xss) hU).a_SlO hY).add (K:=fun h_=>QVs h_ uy yss) hV)
 refine go Tryz.func28 [(0,.agg #[.slice A ts.length cap]),(1,.slice X ux.length cX),(2,.slice Y_ uy.length cY)] rfl ?_
 refine cSL (lA 3 28 ([.slice A ts.length cap]) hs (fun b1 w2 h3 hs=>?_))
 refine lL hs [.v 6 (.slice none 0 0),.v 7 (.int .i64 0)] (lN (CG.seq (cSL (lL hs [.o 9 (.agg #[.slice A ts.length cap]) 0 0 1,.m 10 1,.m 11 2] (lC 12 hs (nRefused A cap ts ls hn hF X cX ux xss Y_ cY uy yss wx wy hxw hyw _ _ hs.g (hs.f.2.2.2.2.2.1) (hs.f.2.2.2.2.1) (hs.f.2.2.2.1) (hs.f.2.2.1) (hs.f.2.1) (hs.f.1)) ?_)))))
 rintro _ w4 h5 hs rfl
 refine lL hs [.m 8 12] (lNS (lL hs [.m 13 8] ?_))
 have hb6:((netE ls xss.length wx yss.length wy:Int) != (0:Int))=true:=bneT he
 have phb6:=neOfBne hb6
 refine lB 14 hb6 ?_
 exact lN (cIT (cSL (lL hs [.m 15 8,.v 6 (.slice none 0 0),.m 7 15] (lN (CG.ret (hs.ret [] (.tuple #[.slice none 0 0,.int .i64 (netE ls xss.length wx yss.length wy)]) rfl))))))
theorem nGrad0 (A:Option Addr)(cap:Nat)(ts:List LV)(ls:List Lay)(hn:ls.length≤1000000)(hF:∀ i,i<ls.length→LayLen (ls.getD i lay0))(X:Option Addr)(cX:Nat)(ux:List Value)(xss:List (List Rat))(Y_:Option Addr)(cY:Nat)(uy:List Value)(yss:List (List Rat))(wx wy:Nat)(hxw:∀ i,i<xss.length→(xss.getD i []).length=wx)(hyw:∀ i,i<yss.length→(yss.getD i []).length=wy)(hd5:chkq ls=0→∀ k,k<ls.length→dOf ls (k+1)≤5)(hwq:∀ k i j,LQ 1 (((ls.getD k lay0).W.getD i []).getD j 0))(hr4:xss.length≤4)(hNB:chkq ls=0→∀ i,i<xss.length→NetB ls (xss.getD i []))(hZq:chkq ls=0→∀ i,i<xss.length→∀ j,LQ 42000 ((outq ls (xss.getD i []) ls.length).getD j 0))(hYq:∀ i j,LQ 1 ((yss.getD i []).getD j 0))(hGB:chkq ls=0→∀ i,i<xss.length→GB1 ls (xss.getD i []) (topq (outq ls (xss.getD i []) ls.length) (yss.getD i [])))(he:netE ls xss.length wx yss.length wy=0)(w:World)(h:Hp)(g:G w h)(hA:SlO 3 lvc lvd h A ts)(hN:NetL h ts ls)(hX:SlO 1 vc undef h X ux)(hU:QVs h ux xss)(hY:SlO 1 vc undef h Y_ uy)(hV:QVs h uy yss)(tb:Tab h) :
    Calls Tryz.prog 28 #[.agg #[.slice A ts.length cap],.slice X ux.length cX,.slice Y_ uy.length cY] w (Ret w h fun v h1=>∃ A c,v=.tuple #[.slice A ((List.range (flatq ls).length).map fun p=>gradP ls xss yss p xss.length).length c,.int .i64 0]∧((List.range (flatq ls).length).map fun p=>gradP ls xss yss p xss.length).length≤c∧SlO 5 qc 0 h1 A ((List.range (flatq ls).length).map fun p=>gradP ls xss yss p xss.length)):=by
 have hs:=SS.start g
 replace hs:=(((((((hs.a_SlO hA).add (K:=fun h_=>NetL h_ ts ls) hN).a_SlO hX).add (K:=fun h_=>QVs h_ ux xss) hU).a_SlO hY).add (K:=fun h_=>QVs h_ uy yss) hV).add (K:=fun h_=>Tab h_) tb)
 refine go Tryz.func28 [(0,.agg #[.slice A ts.length cap]),(1,.slice X ux.length cX),(2,.slice Y_ uy.length cY)] rfl ?_
 refine cSL (lA 3 28 ([.slice A ts.length cap]) hs (fun b1 w2 h3 hs=>?_))
 refine lL hs [.v 6 (.slice none 0 0),.v 7 (.int .i64 0)] (lN (CG.seq (cSL (lL hs [.o 9 (.agg #[.slice A ts.length cap]) 0 0 1,.m 10 1,.m 11 2] (lC 12 hs (nRefused A cap ts ls hn hF X cX ux xss Y_ cY uy yss wx wy hxw hyw _ _ hs.g (hs.f.2.2.2.2.2.2.1) (hs.f.2.2.2.2.2.1) (hs.f.2.2.2.2.1) (hs.f.2.2.2.1) (hs.f.2.2.1) (hs.f.2.1)) ?_)))))
 rintro _ w4 h5 hs rfl
 refine lL hs [.m 8 12] (lNS (lL hs [.m 13 8] ?_))
 have hb6:((netE ls xss.length wx yss.length wy:Int) != (0:Int))=false:=bneF' he
 have phb6:=eqOfBne hb6
 refine lB 14 hb6 ?_
 refine lN (cIF (CG.skipN (cSL (lL hs [.o 16 (.agg #[.slice A ts.length cap]) 0 0 1,.m 17 1,.m 18 2] (lC 19 hs (nGradient A cap ts ls (dOf ls) (chk_net3 (netE0 he).1) X cX ux xss Y_ cY uy yss (hd5 (netE0 he).1) hwq (fun i hi=>by rw[hxw i hi];exact (netE0 he).2.2.2.1) (fun i hi=>by rw[hyw i (by have:=(netE0 he).2.2.1;omega)];exact (netE0 he).2.2.2.2) (netE0 he).2.2.1 hr4 (hNB (netE0 he).1) (hZq (netE0 he).1) hYq (hGB (netE0 he).1) _ _ hs.g (hs.f.2.2.2.2.2.2.1) (hs.f.2.2.2.2.2.1) (hs.f.2.2.2.2.1) (hs.f.2.2.2.1) (hs.f.2.2.1) (hs.f.2.1) (hs.f.1)) ?_)))))
 rintro _ w7 h8 hs ⟨Af,cf,rfl,hcf,hAf⟩
 replace hs:=(hs.a_SlO hAf)
 exact lL hs [.m 6 19,.v 7 (.int .i64 0)] (lN (CG.ret (hs.ret [] (.tuple #[.slice Af (((List.range (flatq ls).length).map fun p=>gradP ls xss yss p xss.length).length) cf,.int .i64 0]) (⟨Af,cf,rfl,hcf,(hs.f.1)⟩))))
theorem d4 {ls:List Lay}{d:Nat→Nat}(o:Net3 ls d)(hL:∀ k,LaySz (ls.getD k lay0)):∀ k,k≤ls.length→d k≤4
  | 0,_=>by
    have h0:=(o.lay 0 (by have:=o.len;omega)).1
    have:=h0.row 0 h0.rpos
    have:=(hL 0).w4
    omega
  | k+1,hk=>by
    have:=(o.lay k oM).2.1
    have:=(hL k).b4
    omega
def g4:Nat→Nat
  | 0=>1
  | k+1=>8*g4 k+24
theorem sum4 {L:Lay}{x:List Rat}{m:Nat}(h:LaySz L)(hx:∀ j,LQ m (x.getD j 0))(hl:x.length≤4)(j:Nat):LQ (4*m+11) (sumr L x j):=by
  have h1:=LQ.dot (n:=x.length) (fun i _=>h.w j i) (fun i _=>hx i) x.length (Nat.le_refl _)
  refine (h1.add (h.b j)).mono ?_
  have:x.length*(1+m+1)≤4*(1+m+1):=Nat.mul_le_mul_right _ hl
  omega
theorem out4 {ls:List Lay}{d:Nat→Nat}(o:Net3 ls d)(hL:∀ k,LaySz (ls.getD k lay0)){xs:List Rat}(hx:xs.length=d 0)(hq:∀ j,LQ 1 (xs.getD j 0)):∀ k,k≤ls.length→∀ j,LQ (g4 k) ((outq ls xs k).getD j 0)
  | 0,_,j=>hq j
  | k+1,hk,j=>by
    show LQ (8*g4 k+24) ((layq (ls.getD k lay0) (outq ls xs k)).getD j 0)
    have h1:=sum4 (hL k) (out4 o hL hx hq k oM) (by rw[outq_len o hx k oM];exact d4 o hL k oM)
    exact lq_map oM (fun i=>(LQ.act _ (h1 i) oM).mono oM) j
theorem k4 {k:Nat}(h:k≤4):k=0∨k=1∨k=2∨k=3∨k=4:=by omega
theorem g4_le (k:Nat)(h:k≤4):g4 k≤18136:=by
  rcases k4 h with rfl|rfl|rfl|rfl|rfl<;>decide
theorem g4_le3 (k:Nat)(h:k<4):g4 k≤2264:=by
  have:k=0∨k=1∨k=2∨k=3:=by omega
  rcases this with rfl|rfl|rfl|rfl<;>decide
def b4:Nat→Nat
  | 0=>18139
  | t+1=>4*b4 t+72569
theorem b4_le (t:Nat)(h:t<4):b4 t≤10500000:=by
  have:t=0∨t=1∨t=2∨t=3:=by omega
  rcases this with rfl|rfl|rfl|rfl<;>decide +kernel
theorem bnd4 {X B:Nat}(h:X≤4*(B+18140+1+1)):X+1≤4*B+72569:=by omega
theorem bar4 {ls:List Lay}{d:Nat→Nat}(o:Net3 ls d)(hL:∀ k,LaySz (ls.getD k lay0)){xs:List Rat}(hx:xs.length=d 0)(hq:∀ j,LQ 1 (xs.getD j 0)){ys:List Rat}(hy:∀ j,LQ 1 (ys.getD j 0)):∀ t,t<ls.length→∀ j,LQ (b4 t) ((barq ls xs (topq (outq ls xs ls.length) ys) ls.length t).getD j 0)
  | 0,_,j=>by
    show LQ 18139 ((topq _ _).getD j 0)
    refine lq_map oM (fun i=>?_) j
    have h1:=out4 o hL hx hq ls.length (Nat.le_refl _) i
    have h2:=g4_le ls.length o.len.2
    exact ((h1.sub (hy i)).mul (LQ.lit (z:=2) kD)).mono oM
  | t+1,ht,j=>by
    obtain ⟨k,hk⟩:∃ k,k=ls.length-1-t:=⟨_,rfl⟩
    have hkl:k<ls.length:=by omega
    have hl4:=o.len.2
    have ih:=bar4 o hL hx hq hy t oM
    have hl:(outq ls xs k).length≤4:=by rw[outq_len o hx k oM];exact d4 o hL k oM
    have hs:=sum4 (hL k) (out4 o hL hx hq k oM) hl
    have hg:=g4_le3 k oM
    have hrow:(ls.getD k lay0).W.length≤4:=by rw[(o.lay k hkl).1.rows];exact d4 o hL (k+1) hkl
    show LQ (4*b4 t+72569) ((downq (ls.getD (ls.length-1-t) lay0) (outq ls xs (ls.length-1-t)) (barq ls xs _ ls.length t)).getD j 0)
    rw[←hk]
    refine lq_map oM (fun c=>?_) j
    have hdel:∀ r,LQ (b4 t+18140) (delq (ls.getD k lay0) (outq ls xs k) (barq ls xs (topq (outq ls xs ls.length) ys) ls.length t) r):=fun r=>((ih r).mul (LQ.slp _ (hs r))).mono oM
    have h1:=lq_sumF (fun r=>(hdel r).mul ((hL k).w r c)) (ls.getD k lay0).W.length
    have h2:(ls.getD k lay0).W.length*(b4 t+18140+1+1)≤4*(b4 t+18140+1+1):=Nat.mul_le_mul_right _ hrow
    exact h1.mono (bnd4 h2)
theorem gZq {ls:List Lay}{d:Nat→Nat}(o:Net3 ls d)(hL:∀ k,LaySz (ls.getD k lay0)){xs:List Rat}(hx:xs.length=d 0)(hq:∀ j,LQ 1 (xs.getD j 0)):∀ j,LQ 42000 ((outq ls xs ls.length).getD j 0):=fun j =>
  (out4 o hL hx hq ls.length (Nat.le_refl _) j).mono (by have:=g4_le ls.length o.len.2;omega)
theorem gGB {ls:List Lay}{d:Nat→Nat}(o:Net3 ls d)(hL:∀ k,LaySz (ls.getD k lay0)){xs:List Rat}(hx:xs.length=d 0)(hq:∀ j,LQ 1 (xs.getD j 0)){ys:List Rat}(hy:∀ j,LQ 1 (ys.getD j 0)):GB1 ls xs (topq (outq ls xs ls.length) ys) :=
  ⟨fun t ht j=>(bar4 o hL hx hq hy t ht j).mono (b4_le t (by have:=o.len.2;omega)),
   fun k hk j=>(sum4 (hL k) (out4 o hL hx hq k oM) (by rw[outq_len o hx k oM];exact d4 o hL k oM) j).mono (by have:=g4_le3 k (by have:=o.len.2;omega);omega),
   fun k hk j=>(out4 o hL hx hq k oM j).mono (by have:=g4_le k (by have:=o.len.2;omega);omega)⟩
structure Drw (xss:List (List Rat)) (w:Nat):Prop where
  len:xss.length≤4
  wd:∀ i,i<xss.length→(xss.getD i []).length=w
  w1:1≤w
  w4:w≤4
  lq:∀ i j,LQ 1 ((xss.getD i []).getD j 0)
noncomputable def lossv (ls:List Lay)(xss yss:List (List Rat))(wx wy:Nat):Rat:=if netE ls xss.length wx yss.length wy=0 then lossq ls xss yss xss.length else 0
noncomputable def gradv (ls:List Lay)(xss yss:List (List Rat))(wx wy:Nat):List Rat:=if netE ls xss.length wx yss.length wy=0 then (List.range (flatq ls).length).map fun p=>gradP ls xss yss p xss.length else []
theorem netH {ls:List Lay}(hZ:∀ i,LaySz (ls.getD i lay0)){xss yss:List (List Rat)}{wx wy:Nat}(hDx:Drw xss wx)(he:netE ls xss.length wx yss.length wy=0):∀ i,i<xss.length→(xss.getD i []).length=dOf ls 0:=fun i hi=>by rw[hDx.wd i hi];exact (netE0 he).2.2.2.1
theorem gNB {ls:List Lay}(hZ:∀ i,LaySz (ls.getD i lay0)){xss:List (List Rat)}{wx:Nat}(hDx:Drw xss wx)(h1:chkq ls=0){i:Nat}(hx:(xss.getD i []).length=dOf ls 0):NetB ls (xss.getD i []):=netB (chk_net3 h1) hZ hx (hDx.lq i)
theorem nLoss (A:Option Addr)(cap:Nat)(ts:List LV)(ls:List Lay)(hn:ls.length≤1000000)(hZ:∀ i,LaySz (ls.getD i lay0))(X:Option Addr)(cX:Nat)(ux:List Value)(xss:List (List Rat))(Y:Option Addr)(cY:Nat)(uy:List Value)(yss:List (List Rat))(wx wy:Nat)(hDx:Drw xss wx)(hDy:Drw yss wy)(w:World)(h:Hp)(g:G w h)(hA:SlO 3 lvc lvd h A ts)(hN:NetL h ts ls)(hX:SlO 1 vc undef h X ux)(hU:QVs h ux xss)(hY:SlO 1 vc undef h Y uy)(hV:QVs h uy yss)(tb:Tab h):Calls Tryz.prog 27 #[.agg #[.slice A ts.length cap],.slice X ux.length cX,.slice Y uy.length cY] w (Ret w h fun v _=>v=.tuple #[qv (lossv ls xss yss wx wy),.int .i64 (netE ls xss.length wx yss.length wy)]):=by
  by_cases he:netE ls xss.length wx yss.length wy=0
  · unfold lossv;rw[if_pos he,he]
    have hx:=netH hZ hDx he
    exact nLoss0 A cap ts ls hn (fun i _=>(hZ i).len) X cX ux xss Y cY uy yss wx wy hDx.wd hDy.wd hDx.len (fun h1 i hi=>gNB hZ hDx h1 (hx i hi)) (fun h1 i hi=>gZq (chk_net3 h1) hZ (hx i hi) (hDx.lq i)) hDy.lq he w h g hA hN hX hU hY hV tb
  · unfold lossv;rw[if_neg he]
    exact nLossE A cap ts ls hn (fun i _=>(hZ i).len) X cX ux xss Y cY uy yss wx wy hDx.wd hDy.wd he w h g hA hN hX hU hY hV
theorem nGrad (A:Option Addr)(cap:Nat)(ts:List LV)(ls:List Lay)(hn:ls.length≤1000000)(hZ:∀ i,LaySz (ls.getD i lay0))(X:Option Addr)(cX:Nat)(ux:List Value)(xss:List (List Rat))(Y:Option Addr)(cY:Nat)(uy:List Value)(yss:List (List Rat))(wx wy:Nat)(hDx:Drw xss wx)(hDy:Drw yss wy)(w:World)(h:Hp)(g:G w h)(hA:SlO 3 lvc lvd h A ts)(hN:NetL h ts ls)(hX:SlO 1 vc undef h X ux)(hU:QVs h ux xss)(hY:SlO 1 vc undef h Y uy)(hV:QVs h uy yss)(tb:Tab h):Calls Tryz.prog 28 #[.agg #[.slice A ts.length cap],.slice X ux.length cX,.slice Y uy.length cY] w (Ret w h fun v h1=>∃ A c,v=.tuple #[.slice A (gradv ls xss yss wx wy).length c,.int .i64 (netE ls xss.length wx yss.length wy)]∧(gradv ls xss yss wx wy).length≤c∧SlO 5 qc 0 h1 A (gradv ls xss yss wx wy)):=by
  by_cases he:netE ls xss.length wx yss.length wy=0
  · unfold gradv;rw[if_pos he,he]
    have hx:=netH hZ hDx he
    have h1:=(netE0 he).1
    exact nGrad0 A cap ts ls hn (fun i _=>(hZ i).len) X cX ux xss Y cY uy yss wx wy hDx.wd hDy.wd (fun h1 k hk=>by have:=d4 (chk_net3 h1) hZ (k+1) hk;omega) (fun k i j=>(hZ k).w i j) hDx.len (fun h1 i hi=>gNB hZ hDx h1 (hx i hi)) (fun h1 i hi=>gZq (chk_net3 h1) hZ (hx i hi) (hDx.lq i)) hDy.lq (fun h1 i hi=>gGB (chk_net3 h1) hZ (hx i hi) (hDx.lq i) (hDy.lq i)) he w h g hA hN hX hU hY hV tb
  · unfold gradv;rw[if_neg he]
    refine (nGradE A cap ts ls hn (fun i _=>(hZ i).len) X cX ux xss Y cY uy yss wx wy hDx.wd hDy.wd he w h g hA hN hX hU hY hV).mono ?_
    rintro _ w' ⟨_,h',rfl,u,rfl⟩
    exact ⟨_,h',rfl,u,none,0,rfl,Nat.le_refl _,SlO.nil⟩
def dmix (z:Nat):Nat :=
  let a:=(z ^^^ (z >>> 30))*13787848793156543929%18446744073709551616
  let b:=(a ^^^ (a >>> 27))*10723151780598845931%18446744073709551616
  b ^^^ (b >>> 31)
def dnx (s:Nat):Nat:=(s+11400714819323198485)%18446744073709551616
def dlast (n:Nat):Nat:=18446744073709551615-18446744073709551616%n
def drawF (n:Nat):Nat→Nat→Nat × Nat
  | 0,s=>(0,s)
  | k+1,s=>if dmix (dnx s)≤dlast n then (dmix (dnx s)%n,dnx s) else drawF n k (dnx s)
def dk (s:Nat):Nat:=(18446744073709551616-s)*17428512612931826493
def belowq (n s:Nat):Nat × Nat:=drawF n (dk s) s
def Hit (k s:Nat):Prop:=(s+k*11400714819323198485)%18446744073709551616=0∧0<k
theorem dmix_zero:dmix 0=0:=rfl
theorem dnx_lt (s:Nat):dnx s<18446744073709551616:=Nat.mod_lt _ kD
theorem hit_first {s:Nat}(hs:s<18446744073709551616):Hit (dk s) s:=by
  obtain ⟨u,hu⟩:∃ u,u=18446744073709551616-s:=⟨_,rfl⟩
  have h1:0<u:=by omega
  have e:s=18446744073709551616-u:=by omega
  have hul:u≤18446744073709551616:=by omega
  refine ⟨?_,?_⟩
  · unfold dk
    rw[←hu,Nat.mul_assoc,show 17428512612931826493*11400714819323198485=1+18446744073709551616*10771413168148108919 from by decide,Nat.mul_add,Nat.mul_one]
    have e2:u*(18446744073709551616*10771413168148108919)=18446744073709551616*(u*10771413168148108919):=by rw[←Nat.mul_assoc,Nat.mul_comm u,Nat.mul_assoc]
    rw[e2,←Nat.add_assoc,show s+u=18446744073709551616*1 by omega,←Nat.mul_add,Nat.mul_mod_right]
  · unfold dk;rw[←hu];exact Nat.mul_pos h1 kD
theorem hit_next {k s:Nat}(h:Hit (k+1) s){n:Nat}(hn:¬dmix (dnx s)≤dlast n):Hit k (dnx s):=by
  obtain ⟨h1,_⟩:=h
  have e:(dnx s+k*11400714819323198485)%18446744073709551616=0:=by
    unfold dnx;rw[Nat.mod_add_mod,Nat.add_assoc,Nat.add_comm 11400714819323198485,←Nat.succ_mul];exact h1
  refine ⟨e,?_⟩
  rcases Nat.eq_zero_or_pos k with h0|h0
  · subst h0
    rw[Nat.zero_mul,Nat.add_zero,Nat.mod_eq_of_lt (dnx_lt s)] at e
    rw[e,dmix_zero] at hn;exact absurd (Nat.zero_le _) hn
  · exact h0
theorem dlast_p (n:Nat):18446744073709551615-(18446744073709551615%n+1)%n=dlast n:=by unfold dlast;rw[Nat.mod_add_mod]
theorem draw_yes {n k s:Nat}(h:dmix (dnx s)≤dlast n):drawF n (k+1) s=(dmix (dnx s)%n,dnx s):=if_pos h
theorem draw_no {n k s:Nat}(h:¬dmix (dnx s)≤dlast n):drawF n (k+1) s=drawF n k (dnx s):=if_neg h
theorem dmix_lt_ {x:Nat}(k:Nat)(h:x<18446744073709551616):x ^^^ (x/2^k)<18446744073709551616:=Nat.xor_lt_two_pow (n:=64) h (Nat.lt_of_le_of_lt (Nat.div_le_self _ _) h)
theorem dmix_eq (z:Nat):dmix z=((z ^^^ z/1073741824)*13787848793156543929%18446744073709551616 ^^^ (z ^^^ z/1073741824)*13787848793156543929%18446744073709551616/134217728)*10723151780598845931%18446744073709551616 ^^^
    ((z ^^^ z/1073741824)*13787848793156543929%18446744073709551616 ^^^ (z ^^^ z/1073741824)*13787848793156543929%18446744073709551616/134217728)*10723151780598845931%18446744073709551616/2147483648:=by
  unfold dmix
  simp only[Nat.shiftRight_eq_div_pow]
theorem dmix_lt (z:Nat):dmix z<18446744073709551616:=by
  unfold dmix
  simp only[Nat.shiftRight_eq_div_pow]
  exact dmix_lt_ 31 (Nat.mod_lt _ kD)
theorem drawF_lt {n:Nat}(hn:0<n):∀ k s,s<18446744073709551616→(drawF n k s).1<n∧(drawF n k s).2<18446744073709551616
  | 0,s,h=>⟨hn,h⟩
  | k+1,s,h=>by
    by_cases c:dmix (dnx s)≤dlast n
    · rw[draw_yes c];exact ⟨Nat.mod_lt _ hn,dnx_lt s⟩
    · rw[draw_no c];exact drawF_lt hn k _ (dnx_lt s)
theorem belowq_lt {n s:Nat}(hn:0<n)(h:s<18446744073709551616):(belowq n s).1<n∧(belowq n s).2<18446744073709551616:=drawF_lt hn _ _ h
section ops
variable {P:Program} {Γ:Env} {o:Oper}
theorem opXorN {t u:TypeId}{x y:Operand}{a b:Nat}(ho:o.op=.binOp .xor t x y u)(hx:ev Γ x=.int .u64 (a:Int))(hy:ev Γ y=.int .u64 (b:Int))(ha:a<18446744073709551616)(hb:b<18446744073709551616)(w:World) :
    (execOp (ev Γ) o).run P w=.ok (.value (.int .u64 ((a ^^^ b:Nat):Int))) w:=by
  unfold execOp;simp only[ho];rw[hx,hy]
  have e:bits .xor .u64 (a:Int) (b:Int)=((a ^^^ b:Nat):Int):=by
    unfold bits
    have h1:(BitVec.ofInt 64 (a:Int) ^^^ BitVec.ofInt 64 (b:Int)).toNat=a ^^^ b:=by
      rw[BitVec.toNat_xor]
      congr 1<;>(simp[BitVec.toNat_ofInt];omega)
    show IntKind.wrap .u64 (((BitVec.ofInt 64 (a:Int) ^^^ BitVec.ofInt 64 (b:Int)).toNat:Nat):Int)=_
    rw[h1]
    have:=Nat.xor_lt_two_pow (n:=64) ha hb
    exact fitU64 oM oM
  simp[binOp,eqGuard,Result.andThen,intBits_xor,e]
end ops
theorem dNext (rbk s:Nat)(hs_:s<18446744073709551616)(w:World)(h:Hp)(g:G w h)(ho:Own w rbk 118 [.int .u64 (s:Nat)])(hj:h[rbk]?=some junk) :
    Calls Tryz.prog 107 #[.pointer (some ⟨rbk,0,none⟩)] w (RetM rbk w h fun v w' _=>v=.int .u64 (dmix (dnx s):Nat)∧Own w' rbk 118 [.int .u64 (dnx s:Nat)]):=by
 have hmo:UpM [rbk] w h w h:=UpM.refl g
 obtain ⟨wz,hz0_,hs⟩:=SS.at_ g ho hj
 refine go Tryz.func107 [(0,.pointer (some ⟨rbk,0,none⟩))] rfl ?_
 refine cSL (lL hs [.v 2 (.int .u64 0)] (lN (CG.seq (cSL (lL hs [.m 4 0,.v 5 (.bool false)] (lN (cIF (CG.skipN (cSL (lL hs [.m 6 0,.v 7 (.pointer (some ⟨rbk,0,none⟩)),.v 8 (.pointer (some ⟨rbk,0,none⟩)),.o 9 (.int .u64 (s:Nat)) 0 0 1] (lV 10 (.int .u64 ((s+11400714819323198485)%18446744073709551616:Nat)) ?_ (hr:=rint (n:=IntKind.wrap .u64 (((s:Nat):Int)+(11400714819323198485:Int))) kR (wAU64 s 11400714819323198485)))))))))))))
 refine lL hs [.v 11 (.pointer (some ⟨rbk,0,none⟩)),.v 12 (.pointer (some ⟨rbk,0,none⟩))] (lPu 0 0 ([.int .u64 ((s+11400714819323198485)%18446744073709551616:Nat)]) hs (fun w1 pu hs=>?_))
 replace hmo:=hmo.put pu (List.mem_singleton.2 rfl) hs.g
 refine lNS (lL hs [.m 13 0,.v 14 (.pointer (some ⟨rbk,0,none⟩)),.v 15 (.pointer (some ⟨rbk,0,none⟩)),.o 16 (.int .u64 ((s+11400714819323198485)%18446744073709551616:Nat)) 0 0 1,.m 3 16] (lNS (lL hs [.m 17 3,.m 18 3] (lV 19 (.int .u64 (((s+11400714819323198485)%18446744073709551616)/1073741824:Nat)) ?_ (hr:=rint (n:=Int.fdiv (((s+11400714819323198485)%18446744073709551616:Nat):Int) 1073741824) kR (fdivNat _ 1073741824))))))
 refine lV 20 (.int .u64 (((s+11400714819323198485)%18446744073709551616) ^^^ (((s+11400714819323198485)%18446744073709551616)/1073741824:Nat):Nat)) ?_ (hr:=opXorN (t:=23) (u:=23) (x:=.tmp 17) (y:=.tmp 19) (a:=((s+11400714819323198485)%18446744073709551616)) (b:=(((s+11400714819323198485)%18446744073709551616)/1073741824:Nat)) kR kR kR (by first|exact Nat.mod_lt _ kD|exact Nat.lt_of_le_of_lt (Nat.div_le_self _ _) (Nat.mod_lt _ kD)) (by first|exact Nat.mod_lt _ kD|exact Nat.lt_of_le_of_lt (Nat.div_le_self _ _) (Nat.mod_lt _ kD)) _)
 refine lV 21 (.int .u64 (((((s+11400714819323198485)%18446744073709551616) ^^^ (((s+11400714819323198485)%18446744073709551616)/1073741824:Nat):Nat)*13787848793156543929)%18446744073709551616:Nat)) ?_ (hr:=rint (n:=IntKind.wrap .u64 (((((s+11400714819323198485)%18446744073709551616) ^^^ (((s+11400714819323198485)%18446744073709551616)/1073741824:Nat):Nat):Int)*(13787848793156543929:Int))) kR (wMU64 (((s+11400714819323198485)%18446744073709551616) ^^^ (((s+11400714819323198485)%18446744073709551616)/1073741824:Nat):Nat) 13787848793156543929))
 refine lL hs [.m 3 21] (lNS (lL hs [.m 22 3,.m 23 3] (lV 24 (.int .u64 ((((((s+11400714819323198485)%18446744073709551616) ^^^ (((s+11400714819323198485)%18446744073709551616)/1073741824:Nat):Nat)*13787848793156543929)%18446744073709551616:Nat)/134217728:Nat)) ?_ (hr:=rint (n:=Int.fdiv ((((((s+11400714819323198485)%18446744073709551616) ^^^ (((s+11400714819323198485)%18446744073709551616)/1073741824:Nat):Nat)*13787848793156543929)%18446744073709551616:Nat):Int) 134217728) kR (fdivNat _ 134217728)))))
 refine lV 25 (.int .u64 ((((((s+11400714819323198485)%18446744073709551616) ^^^ (((s+11400714819323198485)%18446744073709551616)/1073741824:Nat):Nat)*13787848793156543929)%18446744073709551616:Nat) ^^^ ((((((s+11400714819323198485)%18446744073709551616) ^^^ (((s+11400714819323198485)%18446744073709551616)/1073741824:Nat):Nat)*13787848793156543929)%18446744073709551616:Nat)/134217728:Nat):Nat)) ?_ (hr:=opXorN (t:=23) (u:=23) (x:=.tmp 22) (y:=.tmp 24) (a:=(((((s+11400714819323198485)%18446744073709551616) ^^^ (((s+11400714819323198485)%18446744073709551616)/1073741824:Nat):Nat)*13787848793156543929)%18446744073709551616:Nat)) (b:=((((((s+11400714819323198485)%18446744073709551616) ^^^ (((s+11400714819323198485)%18446744073709551616)/1073741824:Nat):Nat)*13787848793156543929)%18446744073709551616:Nat)/134217728:Nat)) kR kR kR (by first|exact Nat.mod_lt _ kD|exact Nat.lt_of_le_of_lt (Nat.div_le_self _ _) (Nat.mod_lt _ kD)) (by first|exact Nat.mod_lt _ kD|exact Nat.lt_of_le_of_lt (Nat.div_le_self _ _) (Nat.mod_lt _ kD)) _)
 refine lV 26 (.int .u64 ((((((((s+11400714819323198485)%18446744073709551616) ^^^ (((s+11400714819323198485)%18446744073709551616)/1073741824:Nat):Nat)*13787848793156543929)%18446744073709551616:Nat) ^^^ ((((((s+11400714819323198485)%18446744073709551616) ^^^ (((s+11400714819323198485)%18446744073709551616)/1073741824:Nat):Nat)*13787848793156543929)%18446744073709551616:Nat)/134217728:Nat):Nat)*10723151780598845931)%18446744073709551616:Nat)) ?_ (hr:=rint (n:=IntKind.wrap .u64 ((((((((s+11400714819323198485)%18446744073709551616) ^^^ (((s+11400714819323198485)%18446744073709551616)/1073741824:Nat):Nat)*13787848793156543929)%18446744073709551616:Nat) ^^^ ((((((s+11400714819323198485)%18446744073709551616) ^^^ (((s+11400714819323198485)%18446744073709551616)/1073741824:Nat):Nat)*13787848793156543929)%18446744073709551616:Nat)/134217728:Nat):Nat):Int)*(10723151780598845931:Int))) kR (wMU64 ((((((s+11400714819323198485)%18446744073709551616) ^^^ (((s+11400714819323198485)%18446744073709551616)/1073741824:Nat):Nat)*13787848793156543929)%18446744073709551616:Nat) ^^^ ((((((s+11400714819323198485)%18446744073709551616) ^^^ (((s+11400714819323198485)%18446744073709551616)/1073741824:Nat):Nat)*13787848793156543929)%18446744073709551616:Nat)/134217728:Nat):Nat) 10723151780598845931))
 refine lL hs [.m 3 26] (lNS (lL hs [.m 27 3,.m 28 3] (lV 29 (.int .u64 (((((((((s+11400714819323198485)%18446744073709551616) ^^^ (((s+11400714819323198485)%18446744073709551616)/1073741824:Nat):Nat)*13787848793156543929)%18446744073709551616:Nat) ^^^ ((((((s+11400714819323198485)%18446744073709551616) ^^^ (((s+11400714819323198485)%18446744073709551616)/1073741824:Nat):Nat)*13787848793156543929)%18446744073709551616:Nat)/134217728:Nat):Nat)*10723151780598845931)%18446744073709551616:Nat)/2147483648:Nat)) ?_ (hr:=rint (n:=Int.fdiv (((((((((s+11400714819323198485)%18446744073709551616) ^^^ (((s+11400714819323198485)%18446744073709551616)/1073741824:Nat):Nat)*13787848793156543929)%18446744073709551616:Nat) ^^^ ((((((s+11400714819323198485)%18446744073709551616) ^^^ (((s+11400714819323198485)%18446744073709551616)/1073741824:Nat):Nat)*13787848793156543929)%18446744073709551616:Nat)/134217728:Nat):Nat)*10723151780598845931)%18446744073709551616:Nat):Int) 2147483648) kR (fdivNat _ 2147483648)))))
 refine lV 30 (.int .u64 (((((((((s+11400714819323198485)%18446744073709551616) ^^^ (((s+11400714819323198485)%18446744073709551616)/1073741824:Nat):Nat)*13787848793156543929)%18446744073709551616:Nat) ^^^ ((((((s+11400714819323198485)%18446744073709551616) ^^^ (((s+11400714819323198485)%18446744073709551616)/1073741824:Nat):Nat)*13787848793156543929)%18446744073709551616:Nat)/134217728:Nat):Nat)*10723151780598845931)%18446744073709551616:Nat) ^^^ (((((((((s+11400714819323198485)%18446744073709551616) ^^^ (((s+11400714819323198485)%18446744073709551616)/1073741824:Nat):Nat)*13787848793156543929)%18446744073709551616:Nat) ^^^ ((((((s+11400714819323198485)%18446744073709551616) ^^^ (((s+11400714819323198485)%18446744073709551616)/1073741824:Nat):Nat)*13787848793156543929)%18446744073709551616:Nat)/134217728:Nat):Nat)*10723151780598845931)%18446744073709551616:Nat)/2147483648:Nat):Nat)) ?_ (hr:=opXorN (t:=23) (u:=23) (x:=.tmp 27) (y:=.tmp 29) (a:=((((((((s+11400714819323198485)%18446744073709551616) ^^^ (((s+11400714819323198485)%18446744073709551616)/1073741824:Nat):Nat)*13787848793156543929)%18446744073709551616:Nat) ^^^ ((((((s+11400714819323198485)%18446744073709551616) ^^^ (((s+11400714819323198485)%18446744073709551616)/1073741824:Nat):Nat)*13787848793156543929)%18446744073709551616:Nat)/134217728:Nat):Nat)*10723151780598845931)%18446744073709551616:Nat)) (b:=(((((((((s+11400714819323198485)%18446744073709551616) ^^^ (((s+11400714819323198485)%18446744073709551616)/1073741824:Nat):Nat)*13787848793156543929)%18446744073709551616:Nat) ^^^ ((((((s+11400714819323198485)%18446744073709551616) ^^^ (((s+11400714819323198485)%18446744073709551616)/1073741824:Nat):Nat)*13787848793156543929)%18446744073709551616:Nat)/134217728:Nat):Nat)*10723151780598845931)%18446744073709551616:Nat)/2147483648:Nat)) kR kR kR (by first|exact Nat.mod_lt _ kD|exact Nat.lt_of_le_of_lt (Nat.div_le_self _ _) (Nat.mod_lt _ kD)) (by first|exact Nat.mod_lt _ kD|exact Nat.lt_of_le_of_lt (Nat.div_le_self _ _) (Nat.mod_lt _ kD)) _)
 exact lL hs [.m 2 30] (lN (CG.ret (hs.retM hmo [] (.int .u64 (((((((((s+11400714819323198485)%18446744073709551616) ^^^ (((s+11400714819323198485)%18446744073709551616)/1073741824:Nat):Nat)*13787848793156543929)%18446744073709551616:Nat) ^^^ ((((((s+11400714819323198485)%18446744073709551616) ^^^ (((s+11400714819323198485)%18446744073709551616)/1073741824:Nat):Nat)*13787848793156543929)%18446744073709551616:Nat)/134217728:Nat):Nat)*10723151780598845931)%18446744073709551616:Nat) ^^^ (((((((((s+11400714819323198485)%18446744073709551616) ^^^ (((s+11400714819323198485)%18446744073709551616)/1073741824:Nat):Nat)*13787848793156543929)%18446744073709551616:Nat) ^^^ ((((((s+11400714819323198485)%18446744073709551616) ^^^ (((s+11400714819323198485)%18446744073709551616)/1073741824:Nat):Nat)*13787848793156543929)%18446744073709551616:Nat)/134217728:Nat):Nat)*10723151780598845931)%18446744073709551616:Nat)/2147483648:Nat):Nat)) ⟨congrArg (fun n:Nat=>Value.int .u64 (n:Int)) (dmix_eq (dnx s)).symm,hs.own 0⟩)))
theorem dBelow (rbk s n:Nat)(hs_:s<18446744073709551616)(hn0:0<n)(hn:n<9223372036854775808)(w:World)(h:Hp)(g:G w h)(ho:Own w rbk 118 [.int .u64 (s:Nat)])(hj:h[rbk]?=some junk) :
    Calls Tryz.prog 49 #[.pointer (some ⟨rbk,0,none⟩),.int .i64 (n:Nat)] w (RetM rbk w h fun v w' _=>v=.int .i64 ((belowq n s).1:Nat)∧Own w' rbk 118 [.int .u64 ((belowq n s).2:Nat)]):=by
 have hmo:UpM [rbk] w h w h:=UpM.refl g
 obtain ⟨wz,hz0_,hs⟩:=SS.at_ g ho hj
 have hr1:=Nat.mod_lt 18446744073709551615 hn0
 have hr2:=Nat.mod_lt (18446744073709551615%n+1) hn0
 have hr3:=Nat.mod_lt 18446744073709551616 hn0
 refine go Tryz.func49 [(0,.pointer (some ⟨rbk,0,none⟩)),(1,.int .i64 (n:Nat))] rfl ?_
 refine cSL (lL hs [.v 4 (.int .i64 0)] (lN (CG.seq (cSL (lL hs [.m 8 1] ?_)))))
 have ⟨hb1,phb1⟩:=dF (p:=((n:Nat):Int)<(1:Int)) oM
 refine lB 9 hb1 ?_
 refine lN (cIF (CG.skipN (cSL (lL hs [.m 10 1] (lV 11 (.int .u64 (n:Nat)) ?_ (hr:=rint (n:=IntKind.wrap .u64 ((n:Nat):Int)) kR (fitU64 oM oM)))))))
 refine lL hs [.m 5 11] (lNS (lL hs [.m 12 5] (lV 13 (.int .u64 (18446744073709551615%n:Nat)) ?_ (hr:=rint (opRem (t:=23) (u:=23) (x:=.const (.int .u64 18446744073709551615)) (y:=.tmp 12) (k:=.u64) (a:=(18446744073709551615:Int)) (b:=((n:Nat):Int)) kR kR kR oM _) (tmodNat 18446744073709551615 n)))))
 refine lV 14 (.int .u64 ((18446744073709551615%n)+1:Nat)) ?_ (hr:=rint (n:=IntKind.wrap .u64 (((18446744073709551615%n:Nat):Int)+(1:Int))) kR (fAU64 (18446744073709551615%n) 1 oM))
 refine lL hs [.m 15 5] (lV 16 (.int .u64 (((18446744073709551615%n)+1)%n:Nat)) ?_ (hr:=rint (opRem (t:=23) (u:=23) (x:=.tmp 14) (y:=.tmp 15) (k:=.u64) (a:=(((18446744073709551615%n)+1:Nat):Int)) (b:=((n:Nat):Int)) kR kR kR oM _) (tmodNat ((18446744073709551615%n)+1) n)))
 refine lV 17 (.int .u64 (dlast n:Nat)) ?_ (hr:=rint (rint (n:=IntKind.wrap .u64 ((18446744073709551615:Int)-((((18446744073709551615%n)+1)%n:Nat):Int))) kR (fSU64 18446744073709551615 (((18446744073709551615%n)+1)%n:Nat) oM oM)) (by rw[dlast_p]))
 refine lL hs [.m 6 17] (lN (CG.block (cTo [(0,.pointer (some ⟨rbk,0,none⟩)),(5,.int .u64 (n:Nat)),(6,.int .u64 (dlast n:Nat))] ?_)))
 refine CG.loop (fun μ_ Γ w_=>∃ (k:Nat) (s2:Nat) (h_:Hp),μ_=k∧Γ=[(0,.pointer (some ⟨rbk,0,none⟩)),(5,.int .u64 (n:Nat)),(6,.int .u64 (dlast n:Nat))]∧SS wz hz0_ w_ h_ [⟨rbk,118,[.int .u64 (s2:Nat)]⟩] [] []∧(Hit k s2)∧(drawF n k s2=belowq n s)∧(s2<18446744073709551616)∧(UpM [rbk] w h w_ h_)) _ ⟨dk s,s,h,rfl,rfl,hs.to _ _,(hit_first hs_),rfl,hs_,hmo⟩ ?_
 rintro _ _ w2 ⟨k,s2,h3,hm4,rfl,hs,hH,hD,hs2,hmo⟩
 obtain ⟨m,rfl⟩:∃ m,k=m+1:=⟨k-1,by have:=hH.2;omega⟩
 have hml:=Nat.mod_lt (dmix (dnx s2)) hn0
 have hdl:=dmix_lt (dnx s2)
 refine CG.block (cSL (lL hs [.m 18 0] (lCm 19 (dNext rbk s2 hs2 _ _ hs.g (hs.own 0) (hs.jk 0)) ?_)))
 rintro _ w5 h6 u7 ⟨rfl,hO⟩
 replace hs:=(hs.stepM 0 u7 hO).to [⟨rbk,118,[.int .u64 (dnx s2:Nat)]⟩] []
 replace hmo:=hmo.trans u7
 refine lL hs [.m 7 19] (lNS (lL hs [.m 20 7,.m 21 6] ?_))
 cases hb8:(decide (((dmix (dnx s2):Nat):Int)≤((dlast n:Nat):Int)))
 ·
  have phb8:=oF hb8
  refine lB 22 hb8 ?_
  refine lN (cIF (CG.skip ?_))
  intro a_ ka
  have q9:Hit m (dnx s2):=(hit_next (n:=n) hH oM)
  have q10:drawF n m (dnx s2)=belowq n s:=(by rw[←draw_no (n:=n) (k:=m) (s:=s2) oM];exact hD)
  have q11:(dnx s2)<18446744073709551616:=(dnx_lt _)
  have q12:UpM [rbk] w h w5 h6:=hmo
  refine ⟨_,_,?_,⟨m,dnx s2,h6,rfl,rfl,hs.to _ _,q9,q10,q11,q12⟩,ka.to [(0,.pointer (some ⟨rbk,0,none⟩)),(5,.int .u64 (n:Nat)),(6,.int .u64 (dlast n:Nat))] kR⟩
  omega
 have phb8:=oT hb8
 refine lB 22 hb8 ?_
 refine lN (cIT (cSL (lL hs [.m 23 7,.m 24 5] (lV 25 (.int .u64 ((dmix (dnx s2))%n:Nat)) ?_ (hr:=rint (opRem (t:=23) (u:=23) (x:=.tmp 23) (y:=.tmp 24) (k:=.u64) (a:=((dmix (dnx s2):Nat):Int)) (b:=((n:Nat):Int)) kR kR kR oM _) (tmodNat (dmix (dnx s2)) n))))))
 refine lV 26 (.int .i64 ((dmix (dnx s2))%n:Nat)) ?_ (hr:=rint (n:=IntKind.wrap .i64 (((dmix (dnx s2))%n:Nat):Int)) kR (fitI64 oM oM))
 refine lL hs [.m 4 26] (lN (CG.ret ?_))
 have hb_:=hD.symm.trans (draw_yes oM)
 exact hs.retM hmo [] (.int .i64 ((dmix (dnx s2))%n:Nat)) ⟨by rw[hb_],by rw[hb_];exact hs.own 0⟩
noncomputable def drawRow (dr:Nat→Nat × Nat)(half s:Nat):Nat→List Rat × Nat
  | 0=>([],s)
  | c+1=>((drawRow dr half s c).1++[mkR (((dr (drawRow dr half s c).2).1:Int)-(half:Int)) (half:Int)],(dr (drawRow dr half s c).2).2)
noncomputable def drawMat (dr:Nat→Nat × Nat)(half c s:Nat):Nat→List (List Rat) × Nat
  | 0=>([],s)
  | r+1=>((drawMat dr half c s r).1++[(drawRow dr half (drawMat dr half c s r).2 c).1],(drawRow dr half (drawMat dr half c s r).2 c).2)
noncomputable def drawLays (dr:Nat→Nat × Nat)(S:List Nat)(kind:Int)(half s:Nat):Nat→List Lay × Nat
  | 0=>([],s)
  | k+1=>((drawLays dr S kind half s k).1++[⟨if k+2=S.length then 1 else kind,(drawMat dr half (S.getD k 0) (drawLays dr S kind half s k).2 (S.getD (k+1) 0)).1,List.replicate (S.getD (k+1) 0) 0⟩],(drawMat dr half (S.getD k 0) (drawLays dr S kind half s k).2 (S.getD (k+1) 0)).2)
section dr
variable {dr:Nat→Nat × Nat} {half c s M:Nat} {S:List Nat} {kind:Int}
theorem drawMat_len (r:Nat):(drawMat dr half c s r).1.length=r:=by
  induction r with
  | zero=>rfl
  | succ r ih=>simp[drawMat,ih]
theorem drawLays_len (k:Nat):(drawLays dr S kind half s k).1.length=k:=by
  induction k with
  | zero=>rfl
  | succ k ih=>simp[drawLays,ih]
end dr
structure SzOk (S:List Nat):Prop where
  l2:2≤S.length
  l5:S.length≤5
  f:1≤S.getD 0 0∧S.getD 0 0≤20
  r:∀ i,0<i→i<S.length→1≤S.getD i 0∧S.getD i 0≤12
structure MakeP (S:List Nat) (kd bt E:Int):Prop where
  e5:¬SzOk S→E=5
  e10:SzOk S→¬(1≤kd∧kd≤3)→E=10
  e1:SzOk S→1≤kd∧kd≤3→¬(0≤bt∧bt≤16)→E=1
  e0:SzOk S→1≤kd∧kd≤3→0≤bt∧bt≤16→E=0
theorem mkp5 {S:List Nat}{kd bt:Int}(h:¬SzOk S):MakeP S kd bt 5:=⟨fun _=>rfl,fun x=>absurd x h,fun x=>absurd x h,fun x=>absurd x h⟩
theorem mkp10 {S:List Nat}{kd bt:Int}(h:SzOk S)(k:¬(1≤kd∧kd≤3)):MakeP S kd bt 10:=⟨fun x=>absurd h x,fun _ _=>rfl,fun _ x=>absurd x k,fun _ x=>absurd x k⟩
theorem mkp1 {S:List Nat}{kd bt:Int}(h:SzOk S)(k:1≤kd∧kd≤3)(b:¬(0≤bt∧bt≤16)):MakeP S kd bt 1:=⟨fun x=>absurd h x,fun _ x=>absurd k x,fun _ _ _=>rfl,fun _ _ x=>absurd x b⟩
theorem mkp0 {S:List Nat}{kd bt:Int}(h:SzOk S)(k:1≤kd∧kd≤3)(b:0≤bt∧bt≤16):MakeP S kd bt 0:=⟨fun x=>absurd h x,fun _ x=>absurd k x,fun _ _ x=>absurd b x,fun _ _ _=>rfl⟩
theorem getD_drop1 {α:Type}{l:List α}{d:α}(i:Nat):(l.drop 1).getD i d=l.getD (i+1) d:=by simp[List.getD_eq_getElem?_getD,Nat.add_comm]
theorem take_set_succ {l:List Rat}{c:Nat}(h:c<l.length)(x:Rat):(l.set c x).take (c+1)=l.take c++[x]:=by
  rw[take_snoc' 0 (by rw[List.length_set];exact h),List.getD_eq_getElem?_getD,List.getElem?_set_self h,List.take_set_of_le (Nat.le_refl _)];rfl
def QVk (h:Hp)(us:List Value)(W:List (List Rat)):Prop:=∀ j,j<W.length→∃ A c,us.getD j undef=.slice A (W.getD j []).length c∧(W.getD j []).length≤c∧SlO 5 qc 0 h A (W.getD j [])
theorem QVk.gw {h h':Hp}{us:List Value}{W:List (List Rat)}(x:QVk h us W)(u:Gw h h'):QVk h' us W:=fun j hj=>by
  obtain ⟨A,c,e,hc,so⟩:=x j hj
  exact ⟨A,c,e,hc,so.gw u⟩
theorem QVk.nil {h:Hp}{us:List Value}:QVk h us []:=fun j hj=>by simp at hj
theorem QVk.snoc {h:Hp}{us:List Value}{W:List (List Rat)}{v:Value}{l:List Rat}{i:Nat}(x:QVk h us W)(hi:W.length=i)(hl:i<us.length)(hv:∃ A c,v=.slice A l.length c∧l.length≤c∧SlO 5 qc 0 h A l):QVk h (us.set i v) (W++[l]):=by
  subst hi
  intro j hj
  rw[List.length_append,List.length_singleton] at hj
  rw[getD_snoc]
  by_cases e:j=W.length
  · subst e
    rw[if_neg oM,if_pos rfl,List.getD_eq_getElem?_getD,List.getElem?_set_self hl]
    exact hv
  · rw[if_pos oM,List.getD_eq_getElem?_getD,List.getElem?_set_ne (Ne.symm e),←List.getD_eq_getElem?_getD]
    exact x j oM
theorem QVk.qvs {h:Hp}{us:List Value}{W:List (List Rat)}(x:QVk h us W)(hl:us.length=W.length):QVs h us W:=⟨hl,x⟩
theorem getD_set_v {l:List Value}{i:Nat}{x:Value}(h:i<l.length):(l.set i x).getD i undef=x:=by
  rw[List.getD_eq_getElem?_getD,List.getElem?_set_self h];rfl
section laws
variable {M:Ms} {P:Program} {ops:Array Oper} {Q:Exit→Act→World→Prop} {k0:Nat}
theorem E.event2 {h0:Hp}{AL:List Al}{L:Array Bool}{a:Act}{w:World}{h:Hp}{i:Nat}{o:Oper}{i2:Nat}{o2:Oper}
    (hi:ops[i]?=some o)(hi2:ops[i2]?=some o2)(hk:i<k0)(hk2:i2<k0)(hsel:Region.noSelect ops=true)(hun:L.getD i true=false)
    (only:∀ j oj,ops[j]?=some oj→L.getD j true=false→j≠i→j≠i2→(∀ x∈AL,x.i≠j)→∃ e∈oj.after,Region.binds .any e=true∧L.getD e.on false=false∧∀ x∈AL,x.i≠e.on)
    (hdep:∀ e∈o.after,Region.binds .any e=true→L.getD e.on false=true)
    (hal:∀ x∈AL,x.i≠i∧x.t ∉ o.looksAt ops∧o.dst≠some x.t)(hal2:∀ x∈AL,x.i≠i2∧x.t ∉ o2.looksAt ops∧o2.dst≠some x.t)(oks:∀ x∈AL,AlOk P ops k0 x)(hM:∀ b∈M.l,b<h0.size)(g:G w h)(hsz:h0.size≤h.size)
    (H:∀ w' h',Up w h w' h'→OpR P ops o a w' (fun v w''=>∃ h'',UpM M.l w' h' w'' h''∧E M P ops Q k0 h0 AL (L.setIfInBounds i true) (a.put o.dst v) w'' h''))
    (H2:∀ w' h',Up w h w' h'→OpR P ops o2 a w' (fun v w''=>∃ h'',UpM M.l w' h' w'' h''∧E M P ops Q k0 h0 AL (L.setIfInBounds i2 true) (a.put o2.dst v) w'' h'')):E M P ops Q k0 h0 AL L a w h:=by
  have key:∀ (m:Nat) (T:List Al),T.length=m→∀ w' h',Up w h w' h'→∀ (S:List SA),(S.map (·.1)++T).Perm AL→(∀ s∈S,Blk h0 w' h' s)→(S.map (·.2)).Nodup →
      A M P ops Q k0 (addL L S) (addA a S) w':=by
    intro m
    induction m using Nat.strongRecOn with
    | _ m ih =>
      intro T hT w' h' u S hp hb hn
      have hS':∀ s∈S,s.1.i≠i∧s.1.t ∉ o.looksAt ops∧o.dst≠some s.1.t:=fun s hs=>hal _ (mem_perm hp hs)
      have hS2:∀ s∈S,s.1.i≠i2∧s.1.t ∉ o2.looksAt ops∧o2.dst≠some s.1.t:=fun s hs=>hal2 _ (mem_perm hp hs)
      refine A.intro (fun h0'=>?_) (fun j hj=>?_)
      · exfalso
        have:i∈Region.ready .any ops (addL L S):=mem_ready.2 ⟨by rw[addL_ne true (fun s hs=>(hS' s hs).1)];exact hun,o,hi,fun e he hbd=>addL_true (hdep e he hbd)⟩
        rw[h0'] at this
        cases this
      · by_cases hji:j=i
        · subst hji
          refine OpR.wpOp hi ((H w' h' u).addA (Region.noSelect_spec hsel j o · · hi) S (fun s hs=>(hS' s hs).2.1)) ?_
          rintro v w'' ⟨h'',u2,H3⟩
          refine ⟨Rl.mo hk u2.mo,?_⟩
          rw[←addL_set L S j (fun s hs=>(hS' s hs).1),←addA_put a S o.dst v (fun s hs=>(hS' s hs).2.2)]
          exact H3 w'' h'' (Up.refl u2.g) S T hp (fun s hs=>(hb s hs).up u2 hM) hn
        · by_cases hj2:j=i2
          · subst hj2
            refine OpR.wpOp hi2 ((H2 w' h' u).addA (Region.noSelect_spec hsel j o2 · · hi2) S (fun s hs=>(hS2 s hs).2.1)) ?_
            rintro v w'' ⟨h'',u2,H3⟩
            refine ⟨Rl.mo hk2 u2.mo,?_⟩
            rw[←addL_set L S j (fun s hs=>(hS2 s hs).1),←addA_put a S o2.dst v (fun s hs=>(hS2 s hs).2.2)]
            exact H3 w'' h'' (Up.refl u2.g) S T hp (fun s hs=>(hb s hs).up u2 hM) hn
          · obtain ⟨hjun,oj,hoj,hall⟩:=mem_ready.1 hj
            have hx:∃ x∈AL,x.i=j:=by
              refine Classical.byContradiction fun hno=>?_
              obtain ⟨e,he,hbd,hf,hne⟩:=only j oj hoj (addL_getD hjun) hji hj2 (fun x hx he=>hno ⟨x,hx,he⟩)
              have:=hall e he hbd
              rw[addL_ne false (fun s hs=>hne _ (mem_perm hp hs)),hf] at this
              cases this
            obtain ⟨x,hxA,rfl⟩:=hx
            have hxT:=al_of_ready hp hxA hj
            exact E_alloc oks hM u.g (Nat.le_trans hsz u.gr.size) hp hb hn hxT (fun w1 h1 S1 T1 u1 hp1 hb1 hn1 hlt=>ih T1.length oM T1 rfl w1 h1 (u.trans u1) S1 hp1 hb1 hn1)
  exact fun w' h' u S T hp hb hn=>key _ T rfl w' h' u S hp hb hn
end laws
section steps
variable {M:Ms} {P:Program} {n:Nat} {N R:Po} {X:Nat→Po} {ops:Array Oper} {k0:Nat} {hr:Hp} {AL:List Al} {L:Array Bool} {Γ:Env} {w:World} {h:Hp}
def chkEv2 (n:Nat)(ops:Array Oper)(k0:Nat)(AL:List Al)(L:Array Bool)(Γ:Env)(i t i2 t2:Nat):Bool :=
  decide (i<ops.size) && decide (i2<ops.size) && decide (i<k0) && decide (i2<k0) && Region.noSelect ops && (L.getD i true == false) &&
  ((List.range ops.size).all fun j=>L.getD j true || j == i || j == i2 || AL.any (·.i == j) || (opAt ops j).after.any fun e=>Region.binds .any e && (L.getD e.on false == false) && AL.all (·.i != e.on)) &&
  ((opAt ops i).after.all fun e=>!Region.binds .any e || L.getD e.on false) &&
  chkAL ops AL i (opAt ops i) && chkAL ops AL i2 (opAt ops i2) && ((opAt ops i).dst == some t) && decide (t<n) && ((opAt ops i2).dst == some t2) && decide (t2<n) && knownOp Γ (opAt ops i) && knownOp Γ (opAt ops i2) && (wantE ops Γ (opAt ops i) == some true) && (wantE ops Γ (opAt ops i2) == some true)
theorem Rg.two (i t i2 t2:Nat)(hc:chkEv2 n ops k0 AL L Γ i t i2 t2=true)
    (H:∀ w' h',Up w h w' h'→∃ v w'' h'',(execOp (ev Γ) (opAt ops i)).run P w'=.ok (.value v) w''∧UpM M.l w' h' w'' h''∧EG M P n N R X ops k0 hr AL (L.setIfInBounds i true) ((t,v)::Γ) w'' h'')
    (H2:∀ w' h',Up w h w' h'→∃ v w'' h'',(execOp (ev Γ) (opAt ops i2)).run P w'=.ok (.value v) w''∧UpM M.l w' h' w'' h''∧EG M P n N R X ops k0 hr AL (L.setIfInBounds i2 true) ((t2,v)::Γ) w'' h'') :
    EG M P n N R X ops k0 hr AL L Γ w h:=by
  unfold chkEv2 at hc
  simp only[Bool.and_eq_true,decide_eq_true_eq,beq_iff_eq] at hc
  obtain ⟨⟨⟨⟨⟨⟨⟨⟨⟨⟨⟨⟨⟨⟨⟨⟨⟨h1,h2⟩,h3⟩,h4⟩,h5⟩,h6⟩,h7⟩,h8⟩,h9⟩,h10⟩,h11⟩,h12⟩,h13⟩,h14⟩,h15⟩,h16⟩,h17⟩,h18⟩:=hc
  have hget:=opAt_get (ops:=ops) h1
  have hget2:=opAt_get (ops:=ops) h2
  intro oks hM g hsz a ka
  have e1:=ka.exec (Region.noSelect_spec h5 i _ · · hget) h15
  have e2:=ka.exec (Region.noSelect_spec h5 i2 _ · · hget2) h16
  refine E.event2 hget hget2 h3 h4 h5 h6 ?_ ?_ (chkAL_spec h9) (chkAL_spec h10) oks hM g hsz ?_ ?_
  · intro j oj hj hun hji hji2 hal
    have hlt:=(Array.getElem?_eq_some_iff.1 hj).1
    have e:oj=opAt ops j:=by have:=opAt_get (ops:=ops) hlt;rw[hj] at this;injection this
    have:=(List.all_eq_true.1 h7) j (List.mem_range.2 hlt)
    simp only[Bool.or_eq_true,hun,Bool.false_eq_true,false_or,beq_iff_eq,hji,hji2,List.any_eq_true,Array.any_eq_true,Bool.and_eq_true] at this
    rcases this with ⟨x,hx,hxe⟩|⟨x,hx,⟨hb,hL⟩,hno⟩
    · exact absurd hxe (hal x hx)
    · rw[e]
      refine ⟨_,Array.getElem_mem hx,hb,hL,fun y hy=>?_⟩
      have:=(List.all_eq_true.1 hno) y hy
      simpa using this
  · intro e he hb
    have:=(Array.all_eq_true_iff_forall_mem.1 h8) e he
    simpa [hb] using this
  · intro w' h' u
    obtain ⟨v,w'',h'',hrun,u2,k⟩:=H w' h' u
    refine ⟨ka.want h17,?_⟩
    rw[e1]
    refine .inl ⟨v,w'',hrun,h'',u2,?_⟩
    rw[h11]
    exact k oks hM u2.g (Nat.le_trans hsz (Nat.le_trans u.gr.size u2.gr.size)) _ (ka.put h12 v)
  · intro w' h' u
    obtain ⟨v,w'',h'',hrun,u2,k⟩:=H2 w' h' u
    refine ⟨ka.want h18,?_⟩
    rw[e2]
    refine .inl ⟨v,w'',hrun,h'',u2,?_⟩
    rw[h13]
    exact k oks hM u2.g (Nat.le_trans hsz (Nat.le_trans u.gr.size u2.gr.size)) _ (ka.put h14 v)
theorem EG.swap {t u:Nat}{x y:Value}(hne:(t == u)=false)(k:EG M P n N R X ops k0 hr AL L ((t,x)::(u,y)::Γ) w h):EG M P n N R X ops k0 hr AL L ((u,y)::(t,x)::Γ) w h :=
  fun oks hM g hsz a ka=>k oks hM g hsz a (ka.mono (fun s v hs=>by
    rw[List.lookup_cons,List.lookup_cons] at hs ⊢
    by_cases e:s=t
    · subst e
      rw[hne];simp at hs ⊢;exact hs
    · have e':(s == t)=false:=by simp[e]
      rw[e'] at hs ⊢
      exact hs))
variable {w0:World} {h0:Hp} {B:List Bx} {Rs:List Rw} {F:List (Hp→Prop)}
theorem eK2 {α β:Type}(i t ty m sz bt:Nat)(z:Value)(f:α→List Value)(x0:α)(i2 t2 ty2 m2 sz2 bt2:Nat)(z2:Value)(f2:β→List Value)(y0:β)(s:SS w0 h0 w h B Rs F)
    (H:∀ b c w' h',SS w0 h0 w' h' (⟨c,ty2,(List.replicate m2 y0).flatMap f2⟩::⟨b,ty,(List.replicate m x0).flatMap f⟩::B) Rs F→EG M P n N R X ops k0 hr AL ((L.setIfInBounds i true).setIfInBounds i2 true) ((t2,.slice (some ⟨c,0,none⟩) m2 m2)::(t,.slice (some ⟨b,0,none⟩) m m)::Γ) w' h')
    (hc:chkEv2 n ops k0 AL L Γ i t i2 t2=true:=by kernel_rfl)(hne:(i == i2)=false:=by kernel_rfl)(hnt:(t2 == t)=false:=by kernel_rfl)
    (hd:∀ b,cEv n ops k0 AL (L.setIfInBounds i true) ((t,.slice (some ⟨b,0,none⟩) m m)::Γ) i2 t2=true:=by intro _;kernel_rfl)(hd2:∀ c,cEv n ops k0 AL (L.setIfInBounds i2 true) ((t2,.slice (some ⟨c,0,none⟩) m2 m2)::Γ) i t=true:=by intro _;kernel_rfl)
    (he:mkE P (ev Γ) (opAt ops i)=some (.int .i64 (m:Int),.int .i64 (m:Int),ty,z,sz,bt):=by kernel_rfl)(he':∀ c,mkE P (ev ((t2,.slice (some ⟨c,0,none⟩) m2 m2)::Γ)) (opAt ops i)=some (.int .i64 (m:Int),.int .i64 (m:Int),ty,z,sz,bt):=by intro _;kernel_rfl)
    (he2:mkE P (ev Γ) (opAt ops i2)=some (.int .i64 (m2:Int),.int .i64 (m2:Int),ty2,z2,sz2,bt2):=by kernel_rfl)(he2':∀ b,mkE P (ev ((t,.slice (some ⟨b,0,none⟩) m m)::Γ)) (opAt ops i2)=some (.int .i64 (m2:Int),.int .i64 (m2:Int),ty2,z2,sz2,bt2):=by intro _;kernel_rfl)
    (hzc:z.cells.toList=f x0:=by kernel_rfl)(hzs:z.cells.size=sz:=by kernel_rfl)(hpos:0<sz:=by decide)(hm:bt*m≤140737488355328:=by omega)(hm2:m<9223372036854775808:=by omega)
    (hzc2:z2.cells.toList=f2 y0:=by kernel_rfl)(hzs2:z2.cells.size=sz2:=by kernel_rfl)(hpos2:0<sz2:=by decide)(hn:bt2*m2≤140737488355328:=by omega)(hn2:m2<9223372036854775808:=by omega):EG M P n N R X ops k0 hr AL L Γ w h:=by
  have hne':i≠i2:=by simpa using hne
  have new:∀ {w1:World} {h1:Hp} {ty:TypeId} {vs:List Value},SS w0 h0 w1 h1 B Rs F→Up w1 h1 (w1.alloc (.cells vs.toArray ty (0,0))) (h1.push junk)∧SS w0 h0 (w1.alloc (.cells vs.toArray ty (0,0))) (h1.push junk) (⟨w1.heap.size,ty,vs⟩::B) Rs F:=by
    intro w1 h1 ty vs s1
    have u2:Up w1 h1 (w1.alloc (.cells vs.toArray ty (0,0))) (h1.push junk):=Up.allocAny s1.g _ _ (.inr rfl)
    refine ⟨u2,s1.new u2 (by rw[s1.g.size];exact Nat.le_refl _) (St.new1 (x:=⟨0,0,.cells vs.toArray ty (0,0)⟩) s1.st (s1.st.step u2) ⟨?_,?_,?_⟩ ty _ rfl)⟩
    · rw[heap_alloc];exact Array.getElem?_push_size
    · rw[s1.g.size];exact Array.getElem?_push_size
    · show h1.size≤w1.heap.size;rw[s1.g.size];exact Nat.le_refl _
  refine Rg.two i t i2 t2 hc (fun w1 h1 u=>?_) (fun w1 h1 u=>?_)
  · obtain ⟨u2,s2⟩:=new (ty:=ty) (vs:=(List.replicate m x0).flatMap f) (s.step u)
    exact ⟨_,_,_,mkE_run he hzc hzs hpos hm hm2 w1,u2.m M.l,eK i2 t2 ty2 m2 sz2 bt2 z2 f2 y0 s2 (fun c w' h' hs=>H _ c w' h' hs) (hd _) (he2' _) hzc2 hzs2 hpos2 hn hn2⟩
  · obtain ⟨u2,s2⟩:=new (ty:=ty2) (vs:=(List.replicate m2 y0).flatMap f2) (s.step u)
    refine ⟨_,_,_,mkE_run he2 hzc2 hzs2 hpos2 hn hn2 w1,u2.m M.l,eK i t ty m sz bt z f x0 s2 (fun b w' h' hs=>?_) (hd2 _) (he' _) hzc hzs hpos hm hm2⟩
    rw[Array.setIfInBounds_comm _ _ (Ne.symm hne')]
    exact EG.swap hnt (H b _ w' h' (hs.perm (List.Perm.swap _ _ _)))
end steps
theorem drawLays_s (dr:Nat→Nat × Nat)(S:List Nat)(kind:Int)(half s k:Nat):(drawLays dr S kind half s (k+1)).1=(drawLays dr S kind half s k).1++[⟨if k+2=S.length then 1 else kind,(drawMat dr half (S.getD k 0) (drawLays dr S kind half s k).2 (S.getD (k+1) 0)).1,List.replicate (S.getD (k+1) 0) 0⟩]:=rfl
theorem drawMat_s (dr:Nat→Nat × Nat)(half c s r:Nat):(drawMat dr half c s (r+1)).1=(drawMat dr half c s r).1++[(drawRow dr half (drawMat dr half c s r).2 c).1]:=rfl
theorem dDraw (dr:Nat→Nat × Nat){n:Nat}(hdr:dr=belowq n)(rbk s:Nat)(hs_:s<18446744073709551616)(hn0:0<n)(hn:n<9223372036854775808)(w:World)(h:Hp)(g:G w h)(ho:Own w rbk 118 [.int .u64 (s:Nat)])(hj:h[rbk]?=some junk) :
    Calls Tryz.prog 49 #[.pointer (some ⟨rbk,0,none⟩),.int .i64 (n:Nat)] w (RetM rbk w h fun v w' _=>v=.int .i64 ((dr s).1:Nat)∧Own w' rbk 118 [.int .u64 ((dr s).2:Nat)]):=by
  subst hdr;exact dBelow rbk s n hs_ hn0 hn w h g ho hj
theorem dNew (s:Nat)(w:World)(h:Hp)(g:G w h) :
    Calls Tryz.prog 10 #[.int .u64 (s:Nat)] w (Ret w h fun v h1=>∃ b,v=.pointer (some ⟨b,0,none⟩)∧h.size≤b∧h1[b]?=some (.cells [.int .u64 (s:Nat)].toArray 118 (0,0))):=by
 have hs:=SS.start g
 refine go Tryz.func10 [(0,.int .u64 (s:Nat))] rfl ?_
 refine cSL (lL hs [.v 2 (.pointer none)] (lNS (lL hs [.m 3 0,.v 4 (.agg #[.int .u64 (s:Nat)])] (lA 5 118 ([.int .u64 (s:Nat)]) hs (fun b1 w2 h3 hs=>?_)))))
 refine lL hs [.m 2 5] (lN (CG.ret ?_))
 obtain ⟨hq,hs,sg_,lo_,bc_⟩:=hs.pub 0
 exact hs.ret [] (.pointer (some ⟨b1,0,none⟩)) ⟨_,rfl,lo_,bc_⟩
theorem nMake (A:Option Addr)(cap:Nat)(S:List Nat)(hcap:S.length≤cap)(kd bt:Int)(rbk s:Nat)(hs_:s<18446744073709551616)(half:Nat)(hhf:half=2^bt.toNat)(dr:Nat→Nat × Nat)(hdr:dr=belowq (2*half+1))(w:World)(h:Hp)(g:G w h)(ho:Own w rbk 118 [.int .u64 (s:Nat)])(hj:h[rbk]?=some junk)(hA:SlO 1 natc 0 h A S)(tb:Tab h) :
    Calls Tryz.prog 9 #[.slice A S.length cap,.int .i64 kd,.int .i64 bt,.pointer (some ⟨rbk,0,none⟩)] w (RetM rbk w h fun v w' h1=>∃ A c,∃ us:List LV,∃ ls:List Lay,∃ E:Int,v=.tuple #[.agg #[.slice A us.length c],.int .i64 E]∧us.length≤c∧SlO 3 lvc lvd h1 A us∧NetL h1 us ls∧MakeP S kd bt E∧(E=0→ls=(drawLays dr S kd half s (S.length-1)).1)∧(E≠0→ls=[])∧∃ s2:Nat,Own w' rbk 118 [.int .u64 (s2:Nat)]):=by
 obtain ⟨wd,hdf,hO,hs⟩:∃ wd,Dif [rbk] w wd∧Own wd rbk 118 [.int .u64 (s:Nat)]∧SS wd h w h [] [] []:=⟨w,Dif.refl _ _,ho,SS.start g⟩
 replace hs:=((hs.a_SlO hA).add (K:=fun h_=>Tab h_) tb)
 have hd1:(S.drop 1).length=S.length-1:=by simp
 have hdl:∀ s,s<18446744073709551616→(dr s).1<2*half+1∧(dr s).2<18446744073709551616:=fun s h=>hdr▸belowq_lt oM h
 refine go Tryz.func9 [(0,.slice A S.length cap),(1,.int .i64 kd),(2,.int .i64 bt),(3,.pointer (some ⟨rbk,0,none⟩))] rfl ?_
 refine cSL (lA 8 28 ([.slice none 0 0]) hs (fun b1 w2 h3 hs=>?_))
 refine lL hs [.v 9 (.int .i64 0)] (lN (CG.seq (cSL (lL hs [.m 19 0,.v 20 (.int .i64 (S.length:Nat))] ?_))))
 cases hb4:(decide (((S.length:Nat):Int)<(2:Int)))
 ·
  have phb4:=oF hb4
  refine lB 21 hb4 ?_
  refine lL hs [.m 22 21,.m 23 0,.v 24 (.int .i64 (S.length:Nat))] ?_
  cases hb5:(decide ((5:Int)<((S.length:Nat):Int)))
  ·
   have phb5:=oF hb5
   refine lB 25 hb5 ?_
   refine lL hs [.v 26 (.bool false),.m 27 26,.m 28 0] (lX 29 A S.length cap 1 0 0 ((hs.f.2.1).ok oM) ?_)
   refine lH 30 (.int .i64 (S.getD 0 0:Nat)) hs ((hs.f.2.1).el 0 oM) ?_
   cases hb6:(decide (((S.getD 0 0:Nat):Int)<(1:Int)))
   ·
    have phb6:=oF hb6
    refine lB 31 hb6 ?_
    refine lL hs [.v 32 (.bool false),.m 33 32,.m 34 0] (lX 35 A S.length cap 1 0 0 ((hs.f.2.1).ok oM) ?_)
    refine lH 36 (.int .i64 (S.getD 0 0:Nat)) hs ((hs.f.2.1).el 0 oM) ?_
    cases hb7:(decide ((20:Int)<((S.getD 0 0:Nat):Int)))
    ·
     have phb7:=oF hb7
     refine lB 37 hb7 ?_
     refine lL hs [.v 38 (.bool false)] (lN (cIF (CG.skipN (CG.seq (cSL (lL hs [.m 40 0] (lF 41 A S.length cap 1 1 1 ?_)))))))
     replace hs:=hs.a_SlO ((hs.f.2.1).drop 1 cap hcap)
     refine lL hs [.v 42 (.int .i64 (S.length-1:Nat)),.v 43 (.int .i64 0)] (lN (CG.block (cTo [(0,.slice A S.length cap),(1,.int .i64 kd),(2,.int .i64 bt),(3,.pointer (some ⟨rbk,0,none⟩)),(8,.pointer (some ⟨b1,0,none⟩)),(41,.slice (if cap=1 then A else A.map (·.add (1*1))) (S.length-1) (cap-1)),(42,.int .i64 (S.length-1:Nat)),(43,.int .i64 0)] ?_)))
     refine CG.loop (fun μ_ Γ w_=>∃ (k:Nat) (h_:Hp),μ_=S.length-1-k∧Γ=[(0,.slice A S.length cap),(1,.int .i64 kd),(2,.int .i64 bt),(3,.pointer (some ⟨rbk,0,none⟩)),(8,.pointer (some ⟨b1,0,none⟩)),(41,.slice (if cap=1 then A else A.map (·.add (1*1))) (S.length-1) (cap-1)),(42,.int .i64 (S.length-1:Nat)),(43,.int .i64 (k:Nat))]∧SS wd h w_ h_ [⟨b1,28,[.slice none 0 0]⟩] [] [fun h_=>SlO 1 natc 0 h_ (if cap=1 then A else A.map (·.add (1*1))) (S.drop 1),fun h_=>Tab h_,fun h_=>SlO 1 natc 0 h_ A S]∧(k≤S.length-1)∧(∀ i,0<i→i≤k→1≤S.getD i 0∧S.getD i 0≤12)) _ ⟨0,h3,rfl,rfl,hs.to _ _,Nat.zero_le _,fun i a b=>by omega⟩ ?_
     rintro _ _ w9 ⟨k,h10,hm11,rfl,hs,hk,hzz⟩
     refine cSL ?_
     cases hb12:(decide (((k:Nat):Int)<((S.length-1:Nat):Int)))
     ·
      have phb12:=oF hb12
      refine lB 44 hb12 ?_
      refine lN (CG.seq (cIF (CG.exit ?_)))
      show CG _ _ _ _ _ _ _ _
      refine CG.seq (cSL ?_)
      have hz:SzOk S:=⟨by omega,by omega,by omega,fun i h0 h1=>hzz i h0 oM⟩
      refine lL hs [.m 55 1] (lC 56 hs (nKnownG kd _ _ hs.g) ?_)
      rintro _ w13 h14 hs rfl
      cases hb15:(decide (1≤kd∧kd≤3))
      ·
       have phb15:=oF hb15
       refine lL hs [.v 57 (.bool true)] (lN (cIT (cSL (lL hs [.v 58 (.agg #[.slice none 0 0])] (lP 0 0 ([.slice none 0 0]) hs (fun w16 hs=>?_))))))
       exact lL hs [.v 9 (.int .i64 10)] (lN (CG.ret (hs.retM (hs.upF hdf) [(0,0,1)] (.tuple #[.agg #[.slice none 0 0],.int .i64 10]) ⟨none,0,[],[],10,rfl,Nat.le_refl _,SlO.nil,NetL.nil,mkp10 hz oM,fun e=>absurd e kD,fun _=>rfl,_,hs.fown hO⟩)))
      have phb15:=oT hb15
      refine lL hs [.v 57 (.bool false)] (lN (cIF (CG.skipN (CG.seq (cSL (lL hs [.m 59 2] ?_))))))
      cases hb17:(decide ((bt:Int)<(0:Int)))
      ·
       have phb17:=oF hb17
       refine lB 60 hb17 ?_
       refine lL hs [.m 61 60,.m 62 2] ?_
       cases hb18:(decide ((16:Int)<(bt:Int)))
       ·
        have phb18:=oF hb18
        refine lB 63 hb18 ?_
        refine lL hs [.v 64 (.bool false),.m 65 64,.m 66 3,.v 67 (.bool false),.v 68 (.bool false)] (lN (cIF (CG.skipN (cSL ?_))))
        have hb1:0≤bt∧bt≤16:=by omega
        have hh1:half≤65536:=by rw[hhf];exact Nat.pow_le_pow_right (n:=2) kD (show bt.toNat≤16 by omega)
        have hh0:0<half:=by rw[hhf];exact Nat.two_pow_pos _
        refine lL hs [.m 70 2] (lV 71 (.int .i64 (half:Nat)) ?_ (hr:=opShlI bt.toNat (t:=3) (u:=3) (x:=.const (.int .i64 1)) (y:=.tmp 70) (ky:=.i64) (b:=bt) kR kR kR oM oM hhf _))
        refine lL hs [.m 12 71] (lNS (lA 13 28 ([.slice none 0 0]) hs (fun b19 w20 h21 hs=>?_)))
        refine lN (CG.seq (cSL (lL hs [.m 72 0] (lF 73 A S.length cap 1 1 1 ?_))))
        replace hs:=hs.a_SlO ((hs.f.2.2.1).drop 1 cap hcap)
        refine lL hs [.v 74 (.int .i64 (S.length-1:Nat)),.v 75 (.int .i64 0)] (lN (CG.block ?_))
        replace hs:=hs.nil 77 3
        refine cTo [(0,.slice A S.length cap),(1,.int .i64 kd),(3,.pointer (some ⟨rbk,0,none⟩)),(8,.pointer (some ⟨b1,0,none⟩)),(12,.int .i64 (half:Nat)),(13,.pointer (some ⟨b19,0,none⟩)),(73,.slice (if cap=1 then A else A.map (·.add (1*1))) (S.length-1) (cap-1)),(74,.int .i64 (S.length-1:Nat)),(75,.int .i64 0)] ?_
        replace hs:=hs.add (K:=fun h_=>NetL h_ ([]) (drawLays dr S kd half s 0).1) (NetL.nil)
        refine CG.loop (fun μ_ Γ w_=>∃ (k:Nat) (snA:Option Addr) (snc:Nat) (us:List LV) (s1:Nat) (wd:World) (h_:Hp),μ_=S.length-1-k∧Γ=[(0,.slice A S.length cap),(1,.int .i64 kd),(3,.pointer (some ⟨rbk,0,none⟩)),(8,.pointer (some ⟨b1,0,none⟩)),(12,.int .i64 (half:Nat)),(13,.pointer (some ⟨b19,0,none⟩)),(73,.slice (if cap=1 then A else A.map (·.add (1*1))) (S.length-1) (cap-1)),(74,.int .i64 (S.length-1:Nat)),(75,.int .i64 (k:Nat))]∧SS wd h w_ h_ [⟨b19,28,[.slice snA ((us).length) snc]⟩,⟨b1,28,[.slice none 0 0]⟩] [⟨77,3,snA,snc,(us).length,(us).flatMap lvc⟩] [fun h_=>NetL h_ us (drawLays dr S kd half s k).1,fun h_=>SlO 1 natc 0 h_ (if cap=1 then A else A.map (·.add (1*1))) (S.drop 1),fun h_=>SlO 1 natc 0 h_ (if cap=1 then A else A.map (·.add (1*1))) (S.drop 1),fun h_=>Tab h_,fun h_=>SlO 1 natc 0 h_ A S]∧(k≤S.length-1)∧(s1=(drawLays dr S kd half s k).2)∧(Dif [rbk] w wd)∧(Own wd rbk 118 [.int .u64 (s1:Nat)])∧(s1<18446744073709551616)) _ ⟨0,none,0,[],s,wd,h21,rfl,rfl,hs.to _ _,Nat.zero_le _,rfl,hdf,hO,hs_⟩ ?_
        rintro _ _ w23 ⟨k,snA,snc,us,s1,wd,h24,hm25,rfl,hs,hk,hs1,hdf,hO,hs1l⟩
        have hlu:=(hs.f.1).len
        rw[drawLays_len] at hlu
        refine cSL ?_
        cases hb26:(decide (((k:Nat):Int)<((S.length-1:Nat):Int)))
        ·
         have phb26:=oF hb26
         refine lB 76 hb26 ?_
         refine lN (CG.seq (cIF (CG.exit ?_)))
         show CG _ _ _ _ _ _ _ _
         refine cSL ?_
         obtain ⟨h27,hs,hc28⟩:=hs.pubr 0 (A:=snA) (c:=snc) (l:=us) (f:=lvc) (ty:=77) (sz:=3) lvd (fun _=>rfl)
         refine lL hs [.o 144 (.agg #[.slice snA ((us).length) snc]) 0 0 1] (lP 1 0 ([.slice snA ((us).length) snc]) hs (fun w30 hs=>?_))
         exact lL hs [.v 9 (.int .i64 0)] (lN (CG.ret (hs.retM (hs.upF hdf) [(1,0,1)] (.tuple #[.agg #[.slice snA ((us).length) snc],.int .i64 0]) ⟨_,_,us,_,0,rfl,hc28,(hs.f.1),(hs.f.2.1),mkp0 hz oM hb1,fun _=>by rw[show S.length-1=k by omega],fun e=>absurd rfl e,_,hs.fown hO⟩)))
        have phb26:=oT hb26
        refine lB 76 hb26 ?_
        refine lN (CG.seq (cIT (CG.skipN (CG.seq (CG.block (cSL (lL hs [.m 77 75] (lX 78 (if cap=1 then A else A.map (·.add (1*1))) (S.length-1) (cap-1) 1 (k:Nat) k ((hs.f.2.1).ok oM) ?_))))))))
        refine lHe 79 (.int .i64 ((S.drop 1).getD k 0:Nat)) hs ((hs.f.2.1).el k oM) (by rw[getD_drop1]) ?_
        refine lL hs [.m 14 77,.m 15 79] (lN (CG.seq ?_))
        have hsr:=hs
        refine cR 7 [⟨6,16,.cells (List.toArray [.int .i64 0,.slice none 0 0,.slice none 0 0]) 77 (0,0)⟩] mixed hs (al_cons (alOk kR (fun _ _=>by kernel_rfl)) al_nil) ?_
        have hz1:=hz.r (k+1) oM oM
        have hz0:1≤S.getD k 0∧S.getD k 0≤20:=by
          by_cases e:k=0
          · subst e;exact hz.f
          · have:=hz.r k oM oM;omega
        refine eV 0 80 (.int .i64 kd) ?_
        refine eV 1 81 (.int .i64 (S.getD (k+1) 0:Nat)) ?_
        refine eV 3 83 (.int .i64 (S.getD (k+1) 0:Nat)) ?_
        refine eK2 2 82 73 (S.getD (k+1) 0) 5 56 (.agg #[.bool false,.int .u64 0,.string ⟨#[]⟩,.int .u64 0,.string ⟨#[]⟩]) qc 0 4 84 75 (S.getD (k+1) 0) 1 24 (.slice none 0 0) vc (.slice none 0 0:Value) hs (fun b31 b32 w33 h34 hs=>?_)
        have hl35:(List.replicate (S.getD (k+1) 0) (0:Rat)).length=(S.getD (k+1) 0):=by simp
        have hl36:(List.replicate (S.getD (k+1) 0) ((.slice none 0 0:Value):Value)).length=(S.getD (k+1) 0):=by simp
        refine eV 5 85 (.agg #[.int .i64 kd,.slice (some ⟨b32,0,none⟩) (S.getD (k+1) 0) (S.getD (k+1) 0),.slice (some ⟨b31,0,none⟩) (S.getD (k+1) 0) (S.getD (k+1) 0)]) ?_
        refine eD1p [⟨b32,75,(List.replicate (S.getD (k+1) 0) ((.slice none 0 0:Value):Value)).flatMap vc⟩,⟨b31,73,(List.replicate (S.getD (k+1) 0) (0:Rat)).flatMap qc⟩] hsr hs 77 [.int .i64 0,.slice none 0 0,.slice none 0 0] (fun w37 h38 b39 hs=>?_)
        refine tP 7 0 0 ([.int .i64 kd,.slice (some ⟨b32,0,none⟩) (S.getD (k+1) 0) (S.getD (k+1) 0),.slice (some ⟨b31,0,none⟩) (S.getD (k+1) 0) (S.getD (k+1) 0)]) hs (fun w40 hs=>?_)
        refine tN (CG.join (fun Γ w_=>∃ (kx:Int) (h_:Hp),Γ=[(0,.slice A S.length cap),(1,.int .i64 kd),(3,.pointer (some ⟨rbk,0,none⟩)),(8,.pointer (some ⟨b1,0,none⟩)),(12,.int .i64 (half:Nat)),(13,.pointer (some ⟨b19,0,none⟩)),(73,.slice (if cap=1 then A else A.map (·.add (1*1))) (S.length-1) (cap-1)),(74,.int .i64 (S.length-1:Nat)),(75,.int .i64 (k:Nat)),(14,.int .i64 (k:Nat)),(16,.pointer (some ⟨b39,0,none⟩))]∧SS wd h w_ h_ [⟨b39,77,[.int .i64 kx,.slice (some ⟨b32,0,none⟩) (S.getD (k+1) 0) (S.getD (k+1) 0),.slice (some ⟨b31,0,none⟩) (S.getD (k+1) 0) (S.getD (k+1) 0)]⟩,⟨b32,75,(List.replicate (S.getD (k+1) 0) ((.slice none 0 0:Value):Value)).flatMap vc⟩,⟨b31,73,(List.replicate (S.getD (k+1) 0) (0:Rat)).flatMap qc⟩,⟨b19,28,[.slice snA ((us).length) snc]⟩,⟨b1,28,[.slice none 0 0]⟩] [⟨77,3,snA,snc,(us).length,(us).flatMap lvc⟩] [fun h_=>NetL h_ us (drawLays dr S kd half s k).1,fun h_=>SlO 1 natc 0 h_ (if cap=1 then A else A.map (·.add (1*1))) (S.drop 1),fun h_=>SlO 1 natc 0 h_ (if cap=1 then A else A.map (·.add (1*1))) (S.drop 1),fun h_=>Tab h_,fun h_=>SlO 1 natc 0 h_ A S]∧(kx=(if k+2=S.length then 1 else kd))) ?_ ?_)
        ·
         refine cSL (lL hs [.m 86 14,.m 87 0,.v 88 (.int .i64 (S.length:Nat))] (lIn 89 ((S.length:Nat)-2) (S.length-2) ?_))
         cases hb41:(((k:Nat):Int) == ((S.length-2:Nat):Int))
         ·
          have phb41:=neOfBeq hb41
          refine lB 90 hb41 ?_
          refine lN (cIF (CG.skip ?_))
          intro a_ ka
          have q42:kd=(if k+2=S.length then 1 else kd):=by first|(rw[if_pos oM];done)|(rw[if_neg oM];done)
          exact ⟨_,⟨kd,h38,rfl,hs.to _ _,q42⟩,ka.to [(0,.slice A S.length cap),(1,.int .i64 kd),(3,.pointer (some ⟨rbk,0,none⟩)),(8,.pointer (some ⟨b1,0,none⟩)),(12,.int .i64 (half:Nat)),(13,.pointer (some ⟨b19,0,none⟩)),(73,.slice (if cap=1 then A else A.map (·.add (1*1))) (S.length-1) (cap-1)),(74,.int .i64 (S.length-1:Nat)),(75,.int .i64 (k:Nat)),(14,.int .i64 (k:Nat)),(16,.pointer (some ⟨b39,0,none⟩))] kR⟩
         have phb41:=eq_of_beq hb41
         refine lB 90 hb41 ?_
         refine lN (cIT (CG.listed (lL hs [.v 91 (.pointer (some ⟨b39,0,none⟩))] (lP 0 0 ([.int .i64 1]) hs (fun w43 hs=>?_)))))
         refine lD ?_
         intro a_ ka
         have q44:1=(if k+2=S.length then 1 else kd):=by first|(rw[if_pos oM];done)|(rw[if_neg oM];done)
         exact ⟨_,⟨1,h38,rfl,hs.to _ _,q44⟩,ka.to [(0,.slice A S.length cap),(1,.int .i64 kd),(3,.pointer (some ⟨rbk,0,none⟩)),(8,.pointer (some ⟨b1,0,none⟩)),(12,.int .i64 (half:Nat)),(13,.pointer (some ⟨b19,0,none⟩)),(73,.slice (if cap=1 then A else A.map (·.add (1*1))) (S.length-1) (cap-1)),(74,.int .i64 (S.length-1:Nat)),(75,.int .i64 (k:Nat)),(14,.int .i64 (k:Nat)),(16,.pointer (some ⟨b39,0,none⟩))] kR⟩
        rintro _ w45 ⟨kx,h46,rfl,hs,hkx⟩
        refine CG.seq (cSL (lL hs [.v 92 (.pointer (some ⟨b39,1,none⟩)),.o 93 (.slice (some ⟨b32,0,none⟩) (S.getD (k+1) 0) (S.getD (k+1) 0)) 0 1 1,.v 94 (.int .i64 ((S.getD (k+1) 0):Nat)),.v 95 (.int .i64 0)] (lN (CG.block (cTo [(0,.slice A S.length cap),(1,.int .i64 kd),(3,.pointer (some ⟨rbk,0,none⟩)),(8,.pointer (some ⟨b1,0,none⟩)),(12,.int .i64 (half:Nat)),(13,.pointer (some ⟨b19,0,none⟩)),(73,.slice (if cap=1 then A else A.map (·.add (1*1))) (S.length-1) (cap-1)),(74,.int .i64 (S.length-1:Nat)),(75,.int .i64 (k:Nat)),(14,.int .i64 (k:Nat)),(16,.pointer (some ⟨b39,0,none⟩)),(94,.int .i64 ((S.getD (k+1) 0):Nat)),(95,.int .i64 0)] ?_)))))
        replace hs:=hs.add (K:=fun h_=>QVk h_ (List.replicate (S.getD (k+1) 0) ((.slice none 0 0:Value):Value)) (drawMat dr half (S.getD k 0) s1 0).1) (QVk.nil)
        refine CG.loop (fun μ_ Γ w_=>∃ (r:Nat) (Wv:List Value) (s2:Nat) (wd:World) (h_:Hp),μ_=S.getD (k+1) 0-r∧Γ=[(0,.slice A S.length cap),(1,.int .i64 kd),(3,.pointer (some ⟨rbk,0,none⟩)),(8,.pointer (some ⟨b1,0,none⟩)),(12,.int .i64 (half:Nat)),(13,.pointer (some ⟨b19,0,none⟩)),(73,.slice (if cap=1 then A else A.map (·.add (1*1))) (S.length-1) (cap-1)),(74,.int .i64 (S.length-1:Nat)),(75,.int .i64 (k:Nat)),(14,.int .i64 (k:Nat)),(16,.pointer (some ⟨b39,0,none⟩)),(94,.int .i64 ((S.getD (k+1) 0):Nat)),(95,.int .i64 (r:Nat))]∧SS wd h w_ h_ [⟨b39,77,[.int .i64 kx,.slice (some ⟨b32,0,none⟩) (S.getD (k+1) 0) (S.getD (k+1) 0),.slice (some ⟨b31,0,none⟩) (S.getD (k+1) 0) (S.getD (k+1) 0)]⟩,⟨b32,75,(Wv).flatMap vc⟩,⟨b31,73,(List.replicate (S.getD (k+1) 0) (0:Rat)).flatMap qc⟩,⟨b19,28,[.slice snA ((us).length) snc]⟩,⟨b1,28,[.slice none 0 0]⟩] [⟨77,3,snA,snc,(us).length,(us).flatMap lvc⟩] [fun h_=>QVk h_ Wv (drawMat dr half (S.getD k 0) s1 r).1,fun h_=>NetL h_ us (drawLays dr S kd half s k).1,fun h_=>SlO 1 natc 0 h_ (if cap=1 then A else A.map (·.add (1*1))) (S.drop 1),fun h_=>SlO 1 natc 0 h_ (if cap=1 then A else A.map (·.add (1*1))) (S.drop 1),fun h_=>Tab h_,fun h_=>SlO 1 natc 0 h_ A S]∧(r≤S.getD (k+1) 0)∧(Wv.length=S.getD (k+1) 0)∧(s2=(drawMat dr half (S.getD k 0) s1 r).2)∧(Dif [rbk] w wd)∧(Own wd rbk 118 [.int .u64 (s2:Nat)])∧(s2<18446744073709551616)) _ ⟨0,List.replicate (S.getD (k+1) 0) ((.slice none 0 0:Value):Value),s1,wd,h46,rfl,rfl,hs.to _ _,Nat.zero_le _,hl36,rfl,hdf,hO,hs1l⟩ ?_
        rintro _ _ w47 ⟨r,Wv,s2,wd,h48,hm49,rfl,hs,hr,hWv,hs2,hdf,hO,hs2l⟩
        refine cSL ?_
        cases hb50:(decide (((r:Nat):Int)<(((S.getD (k+1) 0):Nat):Int)))
        ·
         have phb50:=oF hb50
         refine lB 96 hb50 ?_
         refine lN (CG.seq (cIF (CG.exit ?_)))
         show CG _ _ _ _ _ _ _ _
         refine CG.listed ?_
         have hre:r=S.getD (k+1) 0:=by omega
         obtain ⟨h51,hs,sg52,lo53,bc54⟩:=hs.pub 1
         replace hs:=(hs.to [⟨b39,77,[.int .i64 kx,.slice (some ⟨b32,0,none⟩) (S.getD (k+1) 0) (S.getD (k+1) 0),.slice (some ⟨b31,0,none⟩) (S.getD (k+1) 0) (S.getD (k+1) 0)]⟩,⟨b31,73,(List.replicate (S.getD (k+1) 0) (0:Rat)).flatMap qc⟩,⟨b19,28,[.slice snA ((us).length) snc]⟩,⟨b1,28,[.slice none 0 0]⟩] [⟨77,3,snA,snc,(us).length,(us).flatMap lvc⟩]).a_SlO (SlO.of_flat (sz:=1) (f:=vc) (d:=undef) (b:=b32) (o:=0) (l:=Wv) (fun _=>rfl) sg52)
         obtain ⟨h56,hs,sg57,lo58,bc59⟩:=hs.pub 1
         replace hs:=(hs.to [⟨b39,77,[.int .i64 kx,.slice (some ⟨b32,0,none⟩) (S.getD (k+1) 0) (S.getD (k+1) 0),.slice (some ⟨b31,0,none⟩) (S.getD (k+1) 0) (S.getD (k+1) 0)]⟩,⟨b19,28,[.slice snA ((us).length) snc]⟩,⟨b1,28,[.slice none 0 0]⟩] [⟨77,3,snA,snc,(us).length,(us).flatMap lvc⟩]).a_SlO (SlO.of_flat (sz:=5) (f:=qc) (d:=0) (b:=b31) (o:=0) (l:=List.replicate (S.getD (k+1) 0) (0:Rat)) (fun _=>rfl) sg57)
         replace hs:=hs.add (K:=fun h_=>QVs h_ Wv (drawMat dr half (S.getD k 0) s1 (S.getD (k+1) 0)).1) ((hre▸(hs.f.2.2.1):QVk _ _ _).qvs (by rw[drawMat_len];exact hWv))
         refine lL hs [.v 137 (.pointer (some ⟨b19,0,none⟩)),.o 138 (.slice snA ((us).length) snc) 1 0 1,.o 139 (.agg #[.int .i64 kx,.slice (some ⟨b32,0,none⟩) (S.getD (k+1) 0) (S.getD (k+1) 0),.slice (some ⟨b31,0,none⟩) (S.getD (k+1) 0) (S.getD (k+1) 0)]) 0 0 3] (lR 140 77 1 ([.int .i64 kx,.slice (some ⟨b32,0,none⟩) (S.getD (k+1) 0) (S.getD (k+1) 0),.slice (some ⟨b31,0,none⟩) (S.getD (k+1) 0) (S.getD (k+1) 0)]) hs (fun b61 w62 h63 hs=>?_))
         refine lY 141 0 77 3 snc snA us lvc ((kx,.slice (some ⟨b32,0,none⟩) (S.getD (k+1) 0) (S.getD (k+1) 0),.slice (some ⟨b31,0,none⟩) (S.getD (k+1) 0) (S.getD (k+1) 0)):LV) 56 b61 (.agg #[.int .i64 0,.slice none 0 0,.slice none 0 0]) hs (hs.f.1) (fun A65 c66 w67 h68 hs=>?_)
         refine lL hs [.v 142 (.pointer (some ⟨b19,0,none⟩))] (lP 1 0 ([.slice A65 ((us++[((kx,.slice (some ⟨b32,0,none⟩) (S.getD (k+1) 0) (S.getD (k+1) 0),.slice (some ⟨b31,0,none⟩) (S.getD (k+1) 0) (S.getD (k+1) 0)):LV)]).length) c66]) hs (fun w70 hs=>?_))
         refine lN (CG.listed (lIn 143 ((k:Nat)+1) (k+1) ?_))
         refine lL hs [.m 75 143] (lD ?_)
         intro a_ ka
         have q71:NetL h68 (us++[((kx,.slice (some ⟨b32,0,none⟩) (S.getD (k+1) 0) (S.getD (k+1) 0),.slice (some ⟨b31,0,none⟩) (S.getD (k+1) 0) (S.getD (k+1) 0)):LV)]) (drawLays dr S kd half s (k+1)).1:=(by rw[drawLays_s,←hs1,←hkx];exact (hs.f.2.2.2.2.2.1).snoc ⟨rfl,⟨some ⟨b32,0,none⟩,S.getD (k+1) 0,Wv,by rw[hWv],by omega,(hs.f.2.2.2.1),(hs.f.2.1)⟩,⟨some ⟨b31,0,none⟩,S.getD (k+1) 0,by rw[List.length_replicate],by rw[List.length_replicate];exact Nat.le_refl _,(hs.f.2.2.1)⟩⟩)
         have q72:(k+1)≤S.length-1:=by omega
         have q73:s2=(drawLays dr S kd half s (k+1)).2:=(by rw[hs2,show r=S.getD (k+1) 0 by omega,hs1];rfl)
         have q74:Dif [rbk] w wd:=hdf
         have q75:Own wd rbk 118 [.int .u64 (s2:Nat)]:=hO
         have q76:s2<18446744073709551616:=hs2l
         replace hs:=(hs.tl.tl.tl.tl.tl.tl.add (K:=fun h_=>NetL h_ (us++[((kx,.slice (some ⟨b32,0,none⟩) (S.getD (k+1) 0) (S.getD (k+1) 0),.slice (some ⟨b31,0,none⟩) (S.getD (k+1) 0) (S.getD (k+1) 0)):LV)]) (drawLays dr S kd half s (k+1)).1) q71)
         replace hs:=hs.drop 1 0
         refine ⟨_,_,?_,⟨k+1,A65,c66,us++[((kx,.slice (some ⟨b32,0,none⟩) (S.getD (k+1) 0) (S.getD (k+1) 0),.slice (some ⟨b31,0,none⟩) (S.getD (k+1) 0) (S.getD (k+1) 0)):LV)],s2,wd,h68,rfl,rfl,hs.to _ _,q72,q73,q74,q75,q76⟩,ka.to [(0,.slice A S.length cap),(1,.int .i64 kd),(3,.pointer (some ⟨rbk,0,none⟩)),(8,.pointer (some ⟨b1,0,none⟩)),(12,.int .i64 (half:Nat)),(13,.pointer (some ⟨b19,0,none⟩)),(73,.slice (if cap=1 then A else A.map (·.add (1*1))) (S.length-1) (cap-1)),(74,.int .i64 (S.length-1:Nat)),(75,.int .i64 ((k+1):Nat))] kR⟩
         omega
        have phb50:=oT hb50
        refine lB 96 hb50 ?_
        refine lN (CG.seq (cIT (CG.skipN (CG.seq (CG.block (cSL (lL hs [.m 97 95,.m 17 97] (lN (CG.seq (cR 8 [] mixed hs al_nil ?_))))))))))
        refine eV 0 98 (.pointer (some ⟨b39,1,none⟩)) ?_
        refine eO 1 99 [(0,1,1)] (.slice (some ⟨b32,0,none⟩) (S.getD (k+1) 0) (S.getD (k+1) 0)) hs ?_
        refine eV 2 100 (.int .i64 (r:Nat)) ?_
        refine eV 3 101 (.slice A S.length cap) ?_
        refine eV 4 102 (.int .i64 (k:Nat)) ?_
        refine eX 5 103 A S.length cap 1 (k:Nat) k ((hs.f.2.2.2.2.2.1).ok oM) ?_
        refine eH 6 104 (.int .i64 (S.getD k 0:Nat)) hs ((hs.f.2.2.2.2.2.1).el k oM) ?_
        refine eK 7 105 73 (S.getD k 0) 5 56 (.agg #[.bool false,.int .u64 0,.string ⟨#[]⟩,.int .u64 0,.string ⟨#[]⟩]) qc 0 hs (fun b77 w78 h79 hs=>?_)
        have hl80:(List.replicate (S.getD k 0) 0).length=(S.getD k 0):=by simp
        refine eD0 hs (fun w81 h82 hs=>?_)
        refine tX 8 106 (some ⟨b32,0,none⟩) (S.getD (k+1) 0) (S.getD (k+1) 0) 1 (r:Nat) r rfl ?_
        refine tW 9 2 Wv vc 1 r (.slice (some ⟨b77,0,none⟩) (S.getD k 0) (S.getD k 0):Value) hs oM (fun w83 hs=>?_)
        have hl84:((Wv).set r (.slice (some ⟨b77,0,none⟩) (S.getD k 0) (S.getD k 0):Value)).length=(S.getD (k+1) 0):=by rw[List.length_set];exact hWv
        replace hs:=hs.to [⟨b77,73,(List.replicate (S.getD k 0) 0).flatMap qc⟩,⟨b39,77,[.int .i64 kx,.slice (some ⟨b32,0,none⟩) (S.getD (k+1) 0) (S.getD (k+1) 0),.slice (some ⟨b31,0,none⟩) (S.getD (k+1) 0) (S.getD (k+1) 0)]⟩,⟨b32,75,((Wv).set r (.slice (some ⟨b77,0,none⟩) (S.getD k 0) (S.getD k 0):Value)).flatMap vc⟩,⟨b31,73,(List.replicate (S.getD (k+1) 0) (0:Rat)).flatMap qc⟩,⟨b19,28,[.slice snA ((us).length) snc]⟩,⟨b1,28,[.slice none 0 0]⟩] [⟨77,3,snA,snc,(us).length,(us).flatMap lvc⟩]
        refine tNS ?_
        refine lL hs [.v 107 (.pointer (some ⟨b39,1,none⟩)),.o 108 (.slice (some ⟨b32,0,none⟩) (S.getD (k+1) 0) (S.getD (k+1) 0)) 1 1 1,.m 109 17] (lX 110 (some ⟨b32,0,none⟩) (S.getD (k+1) 0) (S.getD (k+1) 0) 1 (r:Nat) r rfl ?_)
        refine lQe 111 2 ((Wv).set r (.slice (some ⟨b77,0,none⟩) (S.getD k 0) (S.getD k 0):Value)) vc 1 undef r (((Wv).set r (.slice (some ⟨b77,0,none⟩) (S.getD k 0) (S.getD k 0):Value)).getD r undef) (.slice (some ⟨b77,0,none⟩) (S.getD k 0) (S.getD k 0)) hs oM (getD_set_v oM) ?_
        refine lL hs [.v 112 (.int .i64 ((S.getD k 0):Nat)),.v 113 (.int .i64 0)] (lN (CG.block (cTo [(0,.slice A S.length cap),(1,.int .i64 kd),(3,.pointer (some ⟨rbk,0,none⟩)),(8,.pointer (some ⟨b1,0,none⟩)),(12,.int .i64 (half:Nat)),(13,.pointer (some ⟨b19,0,none⟩)),(73,.slice (if cap=1 then A else A.map (·.add (1*1))) (S.length-1) (cap-1)),(74,.int .i64 (S.length-1:Nat)),(75,.int .i64 (k:Nat)),(14,.int .i64 (k:Nat)),(16,.pointer (some ⟨b39,0,none⟩)),(94,.int .i64 ((S.getD (k+1) 0):Nat)),(95,.int .i64 (r:Nat)),(17,.int .i64 (r:Nat)),(112,.int .i64 ((S.getD k 0):Nat)),(113,.int .i64 0)] ?_)))
        refine CG.loop (fun μ_ Γ w_=>∃ (c:Nat) (rl:List Rat) (s3:Nat) (wd:World) (h_:Hp),μ_=S.getD k 0-c∧Γ=[(0,.slice A S.length cap),(1,.int .i64 kd),(3,.pointer (some ⟨rbk,0,none⟩)),(8,.pointer (some ⟨b1,0,none⟩)),(12,.int .i64 (half:Nat)),(13,.pointer (some ⟨b19,0,none⟩)),(73,.slice (if cap=1 then A else A.map (·.add (1*1))) (S.length-1) (cap-1)),(74,.int .i64 (S.length-1:Nat)),(75,.int .i64 (k:Nat)),(14,.int .i64 (k:Nat)),(16,.pointer (some ⟨b39,0,none⟩)),(94,.int .i64 ((S.getD (k+1) 0):Nat)),(95,.int .i64 (r:Nat)),(17,.int .i64 (r:Nat)),(112,.int .i64 ((S.getD k 0):Nat)),(113,.int .i64 (c:Nat))]∧SS wd h w_ h_ [⟨b77,73,(rl).flatMap qc⟩,⟨b39,77,[.int .i64 kx,.slice (some ⟨b32,0,none⟩) (S.getD (k+1) 0) (S.getD (k+1) 0),.slice (some ⟨b31,0,none⟩) (S.getD (k+1) 0) (S.getD (k+1) 0)]⟩,⟨b32,75,((Wv).set r (.slice (some ⟨b77,0,none⟩) (S.getD k 0) (S.getD k 0):Value)).flatMap vc⟩,⟨b31,73,(List.replicate (S.getD (k+1) 0) (0:Rat)).flatMap qc⟩,⟨b19,28,[.slice snA ((us).length) snc]⟩,⟨b1,28,[.slice none 0 0]⟩] [⟨77,3,snA,snc,(us).length,(us).flatMap lvc⟩] [fun h_=>QVk h_ Wv (drawMat dr half (S.getD k 0) s1 r).1,fun h_=>NetL h_ us (drawLays dr S kd half s k).1,fun h_=>SlO 1 natc 0 h_ (if cap=1 then A else A.map (·.add (1*1))) (S.drop 1),fun h_=>SlO 1 natc 0 h_ (if cap=1 then A else A.map (·.add (1*1))) (S.drop 1),fun h_=>Tab h_,fun h_=>SlO 1 natc 0 h_ A S]∧(c≤S.getD k 0)∧(rl.length=S.getD k 0)∧(s3=(drawRow dr half s2 c).2)∧(rl.take c=(drawRow dr half s2 c).1)∧(Dif [rbk] w wd)∧(Own wd rbk 118 [.int .u64 (s3:Nat)])∧(s3<18446744073709551616)) _ ⟨0,List.replicate (S.getD k 0) 0,s2,wd,h82,rfl,rfl,hs.to _ _,Nat.zero_le _,(by simp),rfl,(by rw[List.take_zero];rfl),hdf,hO,hs2l⟩ ?_
        rintro _ _ w85 ⟨c,rl,s3,wd,h86,hm87,rfl,hs,hc,hrl,hs3,hrt,hdf,hO,hs3l⟩
        refine cSL ?_
        cases hb88:(decide (((c:Nat):Int)<(((S.getD k 0):Nat):Int)))
        ·
         have phb88:=oF hb88
         refine lB 114 hb88 ?_
         refine lN (CG.seq (cIF (CG.exit ?_)))
         show CG _ _ _ _ _ _ _ _
         refine CG.listed ?_
         have hrow:rl=(drawRow dr half s2 (S.getD k 0)).1:=by rw[show S.getD k 0=c by omega,←hrt,List.take_of_length_le oM]
         obtain ⟨h89,hs,sg90,lo91,bc92⟩:=hs.pub 0
         replace hs:=(hs.to [⟨b39,77,[.int .i64 kx,.slice (some ⟨b32,0,none⟩) (S.getD (k+1) 0) (S.getD (k+1) 0),.slice (some ⟨b31,0,none⟩) (S.getD (k+1) 0) (S.getD (k+1) 0)]⟩,⟨b32,75,((Wv).set r (.slice (some ⟨b77,0,none⟩) (S.getD k 0) (S.getD k 0):Value)).flatMap vc⟩,⟨b31,73,(List.replicate (S.getD (k+1) 0) (0:Rat)).flatMap qc⟩,⟨b19,28,[.slice snA ((us).length) snc]⟩,⟨b1,28,[.slice none 0 0]⟩] [⟨77,3,snA,snc,(us).length,(us).flatMap lvc⟩]).a_SlO (SlO.of_flat (sz:=5) (f:=qc) (d:=0) (b:=b77) (o:=0) (l:=rl) (fun _=>rfl) sg90)
         refine lIn 136 ((r:Nat)+1) (r+1) ?_
         refine lL hs [.m 95 136] (lD ?_)
         intro a_ ka
         have q94:QVk h89 ((Wv).set r (.slice (some ⟨b77,0,none⟩) (S.getD k 0) (S.getD k 0):Value)) (drawMat dr half (S.getD k 0) s1 (r+1)).1:=(by rw[drawMat_s,←hs2];exact (hs.f.2.1).snoc (drawMat_len _) oM ⟨some ⟨b77,0,none⟩,S.getD k 0,by rw[←hrow,hrl],by rw[←hrow,hrl];exact Nat.le_refl _,by rw[←hrow];exact (hs.f.1)⟩)
         have q95:(r+1)≤S.getD (k+1) 0:=by omega
         have q96:((Wv).set r (.slice (some ⟨b77,0,none⟩) (S.getD k 0) (S.getD k 0):Value)).length=S.getD (k+1) 0:=hl84
         have q97:s3=(drawMat dr half (S.getD k 0) s1 (r+1)).2:=(by rw[hs3,hs2,show c=S.getD k 0 by omega];rfl)
         have q98:Dif [rbk] w wd:=hdf
         have q99:Own wd rbk 118 [.int .u64 (s3:Nat)]:=hO
         have q100:s3<18446744073709551616:=hs3l
         replace hs:=(hs.tl.tl.add (K:=fun h_=>QVk h_ ((Wv).set r (.slice (some ⟨b77,0,none⟩) (S.getD k 0) (S.getD k 0):Value)) (drawMat dr half (S.getD k 0) s1 (r+1)).1) q94)
         refine ⟨_,_,?_,⟨r+1,(Wv).set r (.slice (some ⟨b77,0,none⟩) (S.getD k 0) (S.getD k 0):Value),s3,wd,h89,rfl,rfl,hs.to _ _,q95,q96,q97,q98,q99,q100⟩,ka.to [(0,.slice A S.length cap),(1,.int .i64 kd),(3,.pointer (some ⟨rbk,0,none⟩)),(8,.pointer (some ⟨b1,0,none⟩)),(12,.int .i64 (half:Nat)),(13,.pointer (some ⟨b19,0,none⟩)),(73,.slice (if cap=1 then A else A.map (·.add (1*1))) (S.length-1) (cap-1)),(74,.int .i64 (S.length-1:Nat)),(75,.int .i64 (k:Nat)),(14,.int .i64 (k:Nat)),(16,.pointer (some ⟨b39,0,none⟩)),(94,.int .i64 ((S.getD (k+1) 0):Nat)),(95,.int .i64 ((r+1):Nat))] kR⟩
         omega
        have phb88:=oT hb88
        refine lB 114 hb88 ?_
        refine lN (CG.seq (cIT (CG.skipN (CG.seq (CG.block (cSL (lL hs [.m 115 113,.m 18 115] (lN (CG.region ⟨[rbk],none⟩ 18 [] mixed kR hs.g al_nil (fun _ hb=>by rw[List.mem_singleton.1 hb];exact lt_of_some (hs.fjk hj)) ?_)))))))))
        refine eV 0 117 (.pointer (some ⟨b39,1,none⟩)) ?_
        refine eO 1 118 [(1,1,1)] (.slice (some ⟨b32,0,none⟩) (S.getD (k+1) 0) (S.getD (k+1) 0)) hs ?_ (hM:=(fun p hp=>by obtain rfl:=List.mem_singleton.1 hp;exact hs.frn_ne hj _))
        refine eV 2 119 (.int .i64 (r:Nat)) ?_
        refine eX 3 120 (some ⟨b32,0,none⟩) (S.getD (k+1) 0) (S.getD (k+1) 0) 1 (r:Nat) r rfl ?_
        refine eQe 4 121 2 ((Wv).set r (.slice (some ⟨b77,0,none⟩) (S.getD k 0) (S.getD k 0):Value)) vc 1 undef r (((Wv).set r (.slice (some ⟨b77,0,none⟩) (S.getD k 0) (S.getD k 0):Value)).getD r undef) (.slice (some ⟨b77,0,none⟩) (S.getD k 0) (S.getD k 0)) hs oM (getD_set_v oM) ?_ (hM:=(hs.frn_ne hj _))
        refine eV 5 122 (.int .i64 (c:Nat)) ?_
        refine eV 6 123 (.pointer (some ⟨rbk,0,none⟩)) ?_
        refine eV 7 124 (.int .i64 (half:Nat)) ?_
        refine eIn 8 125 (2*(half:Nat)) (2*half) ?_
        refine eIn 9 126 ((2*half:Nat)+1) ((2*half)+1) ?_
        refine eV 11 128 (.int .i64 (half:Nat)) ?_
        refine eV 13 130 (.int .i64 (half:Nat)) ?_
        refine eCm 10 127 hs (List.mem_singleton.2 rfl) (fun _ _ hs=>dDraw dr hdr rbk s3 hs3l oM oM _ _ hs.g (hs.fown hO) (hs.fjk hj)) ?_
        rintro _ _ _ w102 h103 hs u104 ⟨rfl,hox101⟩
        obtain ⟨wd105,hd106,hc107,hs⟩:=hs.frn hdf (one_jk hj) u104
        have hO108:Own wd105 rbk 118 [.int .u64 ((dr s3).2:Nat)]:=(hc107 _ (lt_of_some hj)).trans hox101
        have hlx101:=(hdl s3 hs3l).2
        have hbx101:=(hdl s3 hs3l).1
        refine eV 12 129 (.int .i64 (((dr s3).1:Nat)-(half:Nat))) ?_ (hv:=fun _=>rint (n:=IntKind.wrap .i64 (((dr s3).1:Nat)-(half:Nat))) kR ((wr64 oM oM).trans oM))
        refine eC 14 131 hs (fun _ _ hs=>fOver2 (((dr s3).1:Nat)-(half:Nat)) ((half:Nat)) oM oM oM oM oM _ _ hs.g (hs.f.2.2.2.2.1)) ?_
        rintro _ _ _ w109 h110 hs rfl
        refine eV 15 116 (.tuple #[qv (mkR (((dr s3).1:Nat)-(half:Nat)) ((half:Nat))),.bool true]) ?_
        refine eV 16 132 (qv (mkR (((dr s3).1:Nat)-(half:Nat)) ((half:Nat)))) ?_
        refine eV 17 133 (.bool true) ?_
        refine eD0 hs (fun w111 h112 hs=>?_)
        refine tX 18 134 (some ⟨b77,0,none⟩) (S.getD k 0) (S.getD k 0) 5 (c:Nat) c rfl ?_
        refine tW 19 0 rl qc 5 c (mkR (((dr s3).1:Nat)-(half:Nat)) ((half:Nat))) hs oM (fun w113 hs=>?_)
        have hl114:((rl).set c (mkR (((dr s3).1:Nat)-(half:Nat)) ((half:Nat)))).length=(S.getD k 0):=by rw[List.length_set];exact hrl
        replace hs:=hs.to [⟨b77,73,((rl).set c (mkR (((dr s3).1:Nat)-(half:Nat)) ((half:Nat)))).flatMap qc⟩,⟨b39,77,[.int .i64 kx,.slice (some ⟨b32,0,none⟩) (S.getD (k+1) 0) (S.getD (k+1) 0),.slice (some ⟨b31,0,none⟩) (S.getD (k+1) 0) (S.getD (k+1) 0)]⟩,⟨b32,75,((Wv).set r (.slice (some ⟨b77,0,none⟩) (S.getD k 0) (S.getD k 0):Value)).flatMap vc⟩,⟨b31,73,(List.replicate (S.getD (k+1) 0) (0:Rat)).flatMap qc⟩,⟨b19,28,[.slice snA ((us).length) snc]⟩,⟨b1,28,[.slice none 0 0]⟩] [⟨77,3,snA,snc,(us).length,(us).flatMap lvc⟩]
        refine tN (CG.listed (lIn 135 ((c:Nat)+1) (c+1) ?_))
        refine lL hs [.m 113 135] (lD ?_)
        intro a_ ka
        have q115:(c+1)≤S.getD k 0:=by omega
        have q116:((rl).set c (mkR (((dr s3).1:Nat)-(half:Nat)) ((half:Nat)))).length=S.getD k 0:=hl114
        have q117:((dr s3).2)=(drawRow dr half s2 (c+1)).2:=(by rw[hs3];rfl)
        have q118:((rl).set c (mkR (((dr s3).1:Nat)-(half:Nat)) ((half:Nat)))).take (c+1)=(drawRow dr half s2 (c+1)).1:=(by rw[take_set_succ oM,hrt,hs3];rfl)
        have q119:Dif [rbk] w wd105:=hd106
        have q120:Own wd105 rbk 118 [.int .u64 (((dr s3).2):Nat)]:=hO108
        have q121:((dr s3).2)<18446744073709551616:=hlx101
        refine ⟨_,_,?_,⟨c+1,(rl).set c (mkR (((dr s3).1:Nat)-(half:Nat)) ((half:Nat))),(dr s3).2,wd105,h112,rfl,rfl,hs.to _ _,q115,q116,q117,q118,q119,q120,q121⟩,ka.to [(0,.slice A S.length cap),(1,.int .i64 kd),(3,.pointer (some ⟨rbk,0,none⟩)),(8,.pointer (some ⟨b1,0,none⟩)),(12,.int .i64 (half:Nat)),(13,.pointer (some ⟨b19,0,none⟩)),(73,.slice (if cap=1 then A else A.map (·.add (1*1))) (S.length-1) (cap-1)),(74,.int .i64 (S.length-1:Nat)),(75,.int .i64 (k:Nat)),(14,.int .i64 (k:Nat)),(16,.pointer (some ⟨b39,0,none⟩)),(94,.int .i64 ((S.getD (k+1) 0):Nat)),(95,.int .i64 (r:Nat)),(17,.int .i64 (r:Nat)),(112,.int .i64 ((S.getD k 0):Nat)),(113,.int .i64 ((c+1):Nat))] kR⟩
        omega
       have phb18:=oT hb18
       refine lB 63 hb18 ?_
       refine lL hs [.v 64 (.bool true),.m 65 64] (lG 66 ?_)
       refine lG 67 ?_
       refine lL hs [.v 68 (.bool true)] (lN (cIT (cSL (lL hs [.v 69 (.agg #[.slice none 0 0])] (lP 0 0 ([.slice none 0 0]) hs (fun w122 hs=>?_))))))
       exact lL hs [.v 9 (.int .i64 1)] (lN (CG.ret (hs.retM (hs.upF hdf) [(0,0,1)] (.tuple #[.agg #[.slice none 0 0],.int .i64 1]) ⟨none,0,[],[],1,rfl,Nat.le_refl _,SlO.nil,NetL.nil,mkp1 hz oM oM,fun e=>absurd e kD,fun _=>rfl,_,hs.fown hO⟩)))
      have phb17:=oT hb17
      refine lB 60 hb17 ?_
      refine lL hs [.m 61 60] (lG 62 ?_)
      refine lG 63 ?_
      refine lL hs [.v 64 (.bool true),.m 65 64] (lG 66 ?_)
      refine lG 67 ?_
      refine lL hs [.v 68 (.bool true)] (lN (cIT (cSL (lL hs [.v 69 (.agg #[.slice none 0 0])] (lP 0 0 ([.slice none 0 0]) hs (fun w123 hs=>?_))))))
      exact lL hs [.v 9 (.int .i64 1)] (lN (CG.ret (hs.retM (hs.upF hdf) [(0,0,1)] (.tuple #[.agg #[.slice none 0 0],.int .i64 1]) ⟨none,0,[],[],1,rfl,Nat.le_refl _,SlO.nil,NetL.nil,mkp1 hz oM oM,fun e=>absurd e kD,fun _=>rfl,_,hs.fown hO⟩)))
     have phb12:=oT hb12
     refine lB 44 hb12 ?_
     refine lN (CG.seq (cIT (CG.skipN (CG.seq (CG.block (cSL (lX 45 (if cap=1 then A else A.map (·.add (1*1))) (S.length-1) (cap-1) 1 (k:Nat) k ((hs.f.1).ok oM) ?_)))))))
     refine lHe 46 (.int .i64 ((S.drop 1).getD k 0:Nat)) hs ((hs.f.1).el k oM) (by rw[getD_drop1]) ?_
     refine lL hs [.m 11 46] (lNS (lL hs [.m 47 11] ?_))
     cases hb124:(decide (((S.getD (k+1) 0:Nat):Int)<(1:Int)))
     ·
      have phb124:=oF hb124
      refine lB 48 hb124 ?_
      refine lL hs [.m 49 48,.m 50 11] ?_
      cases hb125:(decide ((12:Int)<((S.getD (k+1) 0:Nat):Int)))
      ·
       have phb125:=oF hb125
       refine lB 51 hb125 ?_
       refine lL hs [.v 52 (.bool false)] (lN (cIF (CG.skipN (CG.listed (lIn 54 ((k:Nat)+1) (k+1) ?_)))))
       refine lL hs [.m 43 54] (lD ?_)
       intro a_ ka
       have q126:(k+1)≤S.length-1:=by omega
       have q127:∀ i,0<i→i≤(k+1)→1≤S.getD i 0∧S.getD i 0≤12:=fun i a b=>by
          by_cases e:i≤k
          · exact hzz i a e
          · have:i=k+1:=by omega
            subst this;omega
       refine ⟨_,_,?_,⟨k+1,h10,rfl,rfl,hs.to _ _,q126,q127⟩,ka.to [(0,.slice A S.length cap),(1,.int .i64 kd),(2,.int .i64 bt),(3,.pointer (some ⟨rbk,0,none⟩)),(8,.pointer (some ⟨b1,0,none⟩)),(41,.slice (if cap=1 then A else A.map (·.add (1*1))) (S.length-1) (cap-1)),(42,.int .i64 (S.length-1:Nat)),(43,.int .i64 ((k+1):Nat))] kR⟩
       omega
      have phb125:=oT hb125
      refine lB 51 hb125 ?_
      refine lL hs [.v 52 (.bool true)] (lN (cIT (cSL (lL hs [.v 53 (.agg #[.slice none 0 0])] (lP 0 0 ([.slice none 0 0]) hs (fun w128 hs=>?_))))))
      exact lL hs [.v 9 (.int .i64 5)] (lN (CG.ret (hs.retM (hs.upF hdf) [(0,0,1)] (.tuple #[.agg #[.slice none 0 0],.int .i64 5]) ⟨none,0,[],[],5,rfl,Nat.le_refl _,SlO.nil,NetL.nil,mkp5 (by intro z;have z1:=z.l2;have z2:=z.l5;have z3:=z.f;first|omega|(have z4:=z.r (k+1) oM oM;omega)|(have z4:=z.r k oM oM;omega)|(rcases Nat.eq_zero_or_pos k with e0|e0<;>(first|(have z4:=z.r k e0 oM;omega)|(subst e0;omega)))),fun e=>absurd e kD,fun _=>rfl,_,hs.fown hO⟩)))
     have phb124:=oT hb124
     refine lB 48 hb124 ?_
     refine lL hs [.m 49 48] (lG 50 ?_)
     refine lG 51 ?_
     refine lL hs [.v 52 (.bool true)] (lN (cIT (cSL (lL hs [.v 53 (.agg #[.slice none 0 0])] (lP 0 0 ([.slice none 0 0]) hs (fun w129 hs=>?_))))))
     exact lL hs [.v 9 (.int .i64 5)] (lN (CG.ret (hs.retM (hs.upF hdf) [(0,0,1)] (.tuple #[.agg #[.slice none 0 0],.int .i64 5]) ⟨none,0,[],[],5,rfl,Nat.le_refl _,SlO.nil,NetL.nil,mkp5 (by intro z;have z1:=z.l2;have z2:=z.l5;have z3:=z.f;first|omega|(have z4:=z.r (k+1) oM oM;omega)|(have z4:=z.r k oM oM;omega)|(rcases Nat.eq_zero_or_pos k with e0|e0<;>(first|(have z4:=z.r k e0 oM;omega)|(subst e0;omega)))),fun e=>absurd e kD,fun _=>rfl,_,hs.fown hO⟩)))
    have phb7:=oT hb7
    refine lB 37 hb7 ?_
    refine lL hs [.v 38 (.bool true)] (lN (cIT (cSL (lL hs [.v 39 (.agg #[.slice none 0 0])] (lP 0 0 ([.slice none 0 0]) hs (fun w130 hs=>?_))))))
    exact lL hs [.v 9 (.int .i64 5)] (lN (CG.ret (hs.retM (hs.upF hdf) [(0,0,1)] (.tuple #[.agg #[.slice none 0 0],.int .i64 5]) ⟨none,0,[],[],5,rfl,Nat.le_refl _,SlO.nil,NetL.nil,mkp5 (by intro z;have z1:=z.l2;have z2:=z.l5;have z3:=z.f;first|omega|(have z4:=z.r (k+1) oM oM;omega)|(have z4:=z.r k oM oM;omega)|(rcases Nat.eq_zero_or_pos k with e0|e0<;>(first|(have z4:=z.r k e0 oM;omega)|(subst e0;omega)))),fun e=>absurd e kD,fun _=>rfl,_,hs.fown hO⟩)))
   have phb6:=oT hb6
   refine lB 31 hb6 ?_
   refine lL hs [.v 32 (.bool true),.m 33 32] (lG 34 ?_)
   refine lG 35 ?_
   refine lG 36 ?_
   refine lG 37 ?_
   refine lL hs [.v 38 (.bool true)] (lN (cIT (cSL (lL hs [.v 39 (.agg #[.slice none 0 0])] (lP 0 0 ([.slice none 0 0]) hs (fun w131 hs=>?_))))))
   exact lL hs [.v 9 (.int .i64 5)] (lN (CG.ret (hs.retM (hs.upF hdf) [(0,0,1)] (.tuple #[.agg #[.slice none 0 0],.int .i64 5]) ⟨none,0,[],[],5,rfl,Nat.le_refl _,SlO.nil,NetL.nil,mkp5 (by intro z;have z1:=z.l2;have z2:=z.l5;have z3:=z.f;first|omega|(have z4:=z.r (k+1) oM oM;omega)|(have z4:=z.r k oM oM;omega)|(rcases Nat.eq_zero_or_pos k with e0|e0<;>(first|(have z4:=z.r k e0 oM;omega)|(subst e0;omega)))),fun e=>absurd e kD,fun _=>rfl,_,hs.fown hO⟩)))
  have phb5:=oT hb5
  refine lB 25 hb5 ?_
  refine lL hs [.v 26 (.bool true),.m 27 26] (lG 28 ?_)
  refine lG 29 ?_
  refine lG 30 ?_
  refine lG 31 ?_
  refine lL hs [.v 32 (.bool true),.m 33 32] (lG 34 ?_)
  refine lG 35 ?_
  refine lG 36 ?_
  refine lG 37 ?_
  refine lL hs [.v 38 (.bool true)] (lN (cIT (cSL (lL hs [.v 39 (.agg #[.slice none 0 0])] (lP 0 0 ([.slice none 0 0]) hs (fun w132 hs=>?_))))))
  exact lL hs [.v 9 (.int .i64 5)] (lN (CG.ret (hs.retM (hs.upF hdf) [(0,0,1)] (.tuple #[.agg #[.slice none 0 0],.int .i64 5]) ⟨none,0,[],[],5,rfl,Nat.le_refl _,SlO.nil,NetL.nil,mkp5 (by intro z;have z1:=z.l2;have z2:=z.l5;have z3:=z.f;first|omega|(have z4:=z.r (k+1) oM oM;omega)|(have z4:=z.r k oM oM;omega)|(rcases Nat.eq_zero_or_pos k with e0|e0<;>(first|(have z4:=z.r k e0 oM;omega)|(subst e0;omega)))),fun e=>absurd e kD,fun _=>rfl,_,hs.fown hO⟩)))
 have phb4:=oT hb4
 refine lB 21 hb4 ?_
 refine lL hs [.m 22 21] (lG 23 ?_)
 refine lG 24 ?_
 refine lG 25 ?_
 refine lL hs [.v 26 (.bool true),.m 27 26] (lG 28 ?_)
 refine lG 29 ?_
 refine lG 30 ?_
 refine lG 31 ?_
 refine lL hs [.v 32 (.bool true),.m 33 32] (lG 34 ?_)
 refine lG 35 ?_
 refine lG 36 ?_
 refine lG 37 ?_
 refine lL hs [.v 38 (.bool true)] (lN (cIT (cSL (lL hs [.v 39 (.agg #[.slice none 0 0])] (lP 0 0 ([.slice none 0 0]) hs (fun w133 hs=>?_))))))
 exact lL hs [.v 9 (.int .i64 5)] (lN (CG.ret (hs.retM (hs.upF hdf) [(0,0,1)] (.tuple #[.agg #[.slice none 0 0],.int .i64 5]) ⟨none,0,[],[],5,rfl,Nat.le_refl _,SlO.nil,NetL.nil,mkp5 (by intro z;have z1:=z.l2;have z2:=z.l5;have z3:=z.f;first|omega|(have z4:=z.r (k+1) oM oM;omega)|(have z4:=z.r k oM oM;omega)|(rcases Nat.eq_zero_or_pos k with e0|e0<;>(first|(have z4:=z.r k e0 oM;omega)|(subst e0;omega)))),fun e=>absurd e kD,fun _=>rfl,_,hs.fown hO⟩)))
section par
variable {M:Ms} {P:Program} {n:Nat} {N R:Po} {X:Nat→Po} {ops:Array Oper} {k0:Nat} {hr:Hp} {AL:List Al} {L:Array Bool} {Γ:Env} {w:World} {h:Hp}
def Sr (P:Program)(ops:Array Oper)(Γ:Env)(i:Nat)(w:World)(h:Hp)(Φ:Value→World→Hp→Prop):Prop :=
  (∃ v w'' h'',(execOp (ev Γ) (opAt ops i)).run P w=.ok (.value v) w''∧Up w h w'' h''∧Φ v w'' h'') ∨
  (∃ f args,(execOp (ev Γ) (opAt ops i)).run P w=.ok (.enter f args) w∧Calls P f args w (fun e w''=>∃ v h'',e=.returned v∧Up w h w'' h''∧Φ v w'' h''))
theorem Sr.mono {i:Nat}{Φ Φ':Value→World→Hp→Prop}(x:Sr P ops Γ i w h Φ)(k:∀ v w' h',Up w h w' h'→Φ v w' h'→Φ' v w' h'):Sr P ops Γ i w h Φ':=by
  rcases x with ⟨v,w',h',e,u,p⟩|⟨f,args,e,c⟩
  · exact .inl ⟨v,w',h',e,u,k _ _ _ u p⟩
  · exact .inr ⟨f,args,e,c.mono fun e w' ⟨v,h',he,u,p⟩=>⟨v,h',he,u,k _ _ _ u p⟩⟩
def Mf (F:Hp→Prop):Prop:=∀ h h',Gw h h'→F h→F h'
theorem mT:Mf (fun _=>True):=fun _ _ _ _=>trivial
theorem Mf.seg {F:Hp→Prop}(m:Mf F){b o:Nat}{cs:List Value}:Mf (fun h=>Seg h b o cs∧F h):=fun _ _ u x=>⟨x.1.gw u,m _ _ u x.2⟩
def Ch (P:Program)(ops:Array Oper):List (Nat × Nat)→Env→(Hp→Prop)→(Env→(Hp→Prop)→Prop)→Prop
  | [],Γ,F,post=>post Γ F
  | x::r,Γ,F,post=>knownOp Γ (opAt ops x.1)=true∧∀ w h,G w h→F h→Sr P ops Γ x.1 w h (fun v _ h''=>∃ F':Hp→Prop,F' h''∧Mf F'∧Ch P ops r ((x.2,v)::Γ) F' post)
theorem Ch.row {r:List (Nat × Nat)}{F:Hp→Prop}{post:Env→(Hp→Prop)→Prop}(i t:Nat)(ty:TypeId)(m:Nat)(cs:List Value)(hF:Mf F)
    (H:∀ b,Ch P ops r ((t,.slice (some ⟨b,0,none⟩) m m)::Γ) (fun h=>Seg h b 0 cs∧F h) post)(hk:knownOp Γ (opAt ops i)=true:=by kernel_rfl)
    (hv:∀ w,(execOp (ev Γ) (opAt ops i)).run P w=.ok (.value (.slice (some ⟨w.heap.size,0,none⟩) m m)) (w.alloc (.cells cs.toArray ty (0,0))):=by intro _;kernel_rfl):Ch P ops ((i,t)::r) Γ F post :=
  ⟨hk,fun w h g f=>by
    have u:Up w h (w.alloc (.cells cs.toArray ty (0,0))) _:=Up.allocAny g (.cells cs.toArray ty (0,0)) (.cells cs.toArray ty (0,0)) (.inl rfl)
    exact .inl ⟨_,_,_,hv w,u,_,⟨by rw[g.size];exact Seg.new cs ty,hF _ _ u.gr.gw f⟩,hF.seg,H _⟩⟩
theorem Ch.callv {r:List (Nat × Nat)}{F:Hp→Prop}{post:Env→(Hp→Prop)→Prop}(i t:Nat){f:FuncId}{args:Array Value}{v0:Value}(hF:Mf F)
    (c:∀ w h,G w h→Calls P f args w (Ret w h fun v _=>v=v0))(H:Ch P ops r ((t,v0)::Γ) F post)(hk:knownOp Γ (opAt ops i)=true:=by kernel_rfl)
    (hv:∀ w,(execOp (ev Γ) (opAt ops i)).run P w=.ok (.enter f args) w:=by intro _;kernel_rfl):Ch P ops ((i,t)::r) Γ F post :=
  ⟨hk,fun w h g x=>.inr ⟨f,args,hv w,(c w h g).mono fun e w' ⟨v,h',he,u,hΦ⟩=>⟨v,h',he,u,F,hF _ _ u.gr.gw x,hF,by rw[hΦ];exact H⟩⟩⟩
def ev2 (n:Nat)(ops:Array Oper)(k0:Nat)(AL:List Al)(L:Array Bool)(i t i2 t2:Nat):Bool :=
  decide (i<ops.size) && decide (i2<ops.size) && decide (i<k0) && decide (i2<k0) && Region.noSelect ops && (L.getD i true == false) &&
  ((List.range ops.size).all fun j=>L.getD j true || j == i || j == i2 || AL.any (·.i == j) || (opAt ops j).after.any fun e=>Region.binds .any e && (L.getD e.on false == false) && AL.all (·.i != e.on)) &&
  ((opAt ops i).after.all fun e=>!Region.binds .any e || L.getD e.on false) &&
  chkAL ops AL i (opAt ops i) && chkAL ops AL i2 (opAt ops i2) && ((opAt ops i).dst == some t) && decide (t<n) && ((opAt ops i2).dst == some t2) && decide (t2<n) && (opAt ops i).guard.isNone && (opAt ops i2).guard.isNone
theorem want_none {Γ:Env}{o:Oper}(h:o.guard.isNone=true):wantE ops Γ o=some true:=by
  unfold wantE
  rw[Option.isNone_iff_eq_none.1 h]
theorem Sr.opR {i:Nat}{a:Act}{K:Value→World→Hp→Prop}(hs:Region.noSelect ops=true)(hi:i<ops.size)(hk:knownOp Γ (opAt ops i)=true)(hg:(opAt ops i).guard.isNone=true)(ka:Kn n a Γ)(x:Sr P ops Γ i w h K) :
    OpR P ops (opAt ops i) a w (fun v w'=>∃ h',UpM M.l w h w' h'∧K v w' h'):=by
  have e1:=ka.exec (Region.noSelect_spec hs i _ · · (opAt_get hi)) hk
  refine ⟨ka.want (want_none hg),?_⟩
  rw[e1]
  rcases x with ⟨v,w',h',e,u,p⟩|⟨f,args,e,c⟩
  · exact .inl ⟨v,w',e,h',u.m M.l,p⟩
  · exact .inr (.inr ⟨f,args,e,c.mono fun e w' ⟨v,h',he,u,p⟩=>⟨v,he,h',u.m M.l,p⟩⟩)
theorem ev2_t {i t i2 t2:Nat}(hc:ev2 n ops k0 AL L i t i2 t2=true):t<n∧t2<n:=by
  unfold ev2 at hc
  simp only[Bool.and_eq_true,decide_eq_true_eq,beq_iff_eq] at hc
  exact ⟨hc.1.1.1.1.2,hc.1.1.2⟩
theorem ev2_E {i t i2 t2:Nat}{Γ2:Env}{a:Act}(hc:ev2 n ops k0 AL L i t i2 t2=true)(hk:knownOp Γ (opAt ops i)=true)(hk2:knownOp Γ2 (opAt ops i2)=true)
    (oks:∀ x∈AL,AlOk P ops k0 x)(hM:∀ b∈M.l,b<hr.size)(g:G w h)(hsz:hr.size≤h.size)(ka:Kn n a Γ)(kb:Kn n a Γ2)
    (H:∀ w' h',Up w h w' h'→Sr P ops Γ i w' h' (fun v w'' h''=>E M P ops (mkQ N R X) k0 hr AL (L.setIfInBounds i true) (a.put (some t) v) w'' h''))
    (H2:∀ w' h',Up w h w' h'→Sr P ops Γ2 i2 w' h' (fun v w'' h''=>E M P ops (mkQ N R X) k0 hr AL (L.setIfInBounds i2 true) (a.put (some t2) v) w'' h'')) :
    E M P ops (mkQ N R X) k0 hr AL L a w h:=by
  unfold ev2 at hc
  simp only[Bool.and_eq_true,decide_eq_true_eq,beq_iff_eq] at hc
  obtain ⟨⟨⟨⟨⟨⟨⟨⟨⟨⟨⟨⟨⟨⟨⟨h1,h2⟩,h3⟩,h4⟩,h5⟩,h6⟩,h7⟩,h8⟩,h9⟩,h10⟩,h11⟩,h12⟩,h13⟩,h14⟩,h15⟩,h16⟩:=hc
  have hget:=opAt_get (ops:=ops) h1
  have hget2:=opAt_get (ops:=ops) h2
  refine E.event2 hget hget2 h3 h4 h5 h6 ?_ ?_ (chkAL_spec h9) (chkAL_spec h10) oks hM g hsz (fun w' h' u=>?_) (fun w' h' u=>?_)
  · intro j oj hj hun hji hji2 hal
    have hlt:=(Array.getElem?_eq_some_iff.1 hj).1
    have e:oj=opAt ops j:=by have:=opAt_get (ops:=ops) hlt;rw[hj] at this;injection this
    have:=(List.all_eq_true.1 h7) j (List.mem_range.2 hlt)
    simp only[Bool.or_eq_true,hun,Bool.false_eq_true,false_or,beq_iff_eq,hji,hji2,List.any_eq_true,Array.any_eq_true,Bool.and_eq_true] at this
    rcases this with ⟨x,hx,hxe⟩|⟨x,hx,⟨hb,hL⟩,hno⟩
    · exact absurd hxe (hal x hx)
    · rw[e]
      refine ⟨_,Array.getElem_mem hx,hb,hL,fun y hy=>?_⟩
      have:=(List.all_eq_true.1 hno) y hy
      simpa using this
  · intro e he hb
    have:=(Array.all_eq_true_iff_forall_mem.1 h8) e he
    simpa [hb] using this
  · rw[h11];exact (H w' h' u).opR h5 h1 hk h15 ka
  · rw[h13];exact (H2 w' h' u).opR h5 h2 hk2 h16 kb
def chkPar (n:Nat)(ops:Array Oper)(k0:Nat)(AL:List Al)(Lf:Array Bool):Nat→Array Bool→List (Nat × Nat)→List (Nat × Nat)→Bool
  | 0,L,[],[]=>L.toList == Lf.toList
  | m+1,L,x::A,[]=>ev2 n ops k0 AL L x.1 x.2 x.1 x.2 && chkPar n ops k0 AL Lf m (L.setIfInBounds x.1 true) A []
  | m+1,L,[],y::B=>ev2 n ops k0 AL L y.1 y.2 y.1 y.2 && chkPar n ops k0 AL Lf m (L.setIfInBounds y.1 true) [] B
  | m+1,L,x::A,y::B=>ev2 n ops k0 AL L x.1 x.2 y.1 y.2 && chkPar n ops k0 AL Lf m (L.setIfInBounds x.1 true) A (y::B) && chkPar n ops k0 AL Lf m (L.setIfInBounds y.1 true) (x::A) B
  | _,_,_,_=>false
theorem Kn.put_ne {a:Act}(k:Kn n a Γ){t:Nat}(ht:t<n)(v:Value)(hn:Γ.lookup t=none):Kn n (a.put (some t) v) Γ :=
  (k.put ht v).mono fun s u hu=>by
    rw[List.lookup_cons]
    by_cases e:s=t
    · subst e;rw[hn] at hu;cases hu
    · have e':(s == t)=false:=by simp[e]
      rw[e'];exact hu
theorem lookup_put {Γ:Env}{s t:Nat}{v:Value}(hn:Γ.lookup s=none)(h:s≠t):List.lookup s ((t,v)::Γ)=none:=by
  rw[List.lookup_cons]
  have e':(s == t)=false:=by simp[h]
  rw[e'];exact hn
theorem par_E {Lf:Array Bool}{pA pB:Env→(Hp→Prop)→Prop}(oks:∀ x∈AL,AlOk P ops k0 x)(hM:∀ b∈M.l,b<hr.size) :
    ∀ (m:Nat) (A B:List (Nat × Nat)) (L:Array Bool) (ΓA ΓB:Env) (FA FB:Hp→Prop) (a:Act) (w:World) (h:Hp),chkPar n ops k0 AL Lf m L A B=true →
      (∀ x∈A,ΓB.lookup x.2=none)→(∀ y∈B,ΓA.lookup y.2=none)→(∀ x∈A,∀ y∈B,x.2≠y.2)→Ch P ops A ΓA FA pA→Ch P ops B ΓB FB pB→Mf FA→Mf FB→FA h→FB h→G w h→hr.size≤h.size→Kn n a ΓA→Kn n a ΓB →
      (∀ w' h' a' GA GB FA' FB',Up w h w' h'→pA GA FA'→pB GB FB'→FA' h'→FB' h'→Kn n a' GA→Kn n a' GB→E M P ops (mkQ N R X) k0 hr AL Lf a' w' h')→E M P ops (mkQ N R X) k0 hr AL L a w h:=by
  intro m
  induction m with
  | zero =>
    intro A B L ΓA ΓB FA FB a w h hc hA hB hAB cA cB mA mB fa fb g hsz ka kb K
    match A,B,hc,cA,cB with
    | [],[],hc,cA,cB =>
      have e:L=Lf:=Array.ext' (by simpa [chkPar] using hc)
      subst e
      exact K w h a ΓA ΓB FA FB (Up.refl g) cA cB fa fb ka kb
  | succ m ih =>
    intro A B L ΓA ΓB FA FB a w h hc hA hB hAB cA cB mA mB fa fb g hsz ka kb K
    match A,B,hc,cA,cB,hA,hB,hAB with
    | [],[],hc,_,_,_,_,_=>simp[chkPar] at hc
    | x :: A,[],hc,cA,cB,hA,hB,hAB =>
      have hc':(ev2 n ops k0 AL L x.1 x.2 x.1 x.2 && chkPar n ops k0 AL Lf m (L.setIfInBounds x.1 true) A [])=true:=hc
      rw[Bool.and_eq_true] at hc'
      have ht:=(ev2_t hc'.1).1
      have H:∀ w' h',Up w h w' h'→Sr P ops ΓA x.1 w' h' (fun v w'' h''=>E M P ops (mkQ N R X) k0 hr AL (L.setIfInBounds x.1 true) (a.put (some x.2) v) w'' h''):=fun w' h' u =>
        (cA.2 w' h' u.g (mA _ _ u.gr.gw fa)).mono fun v w'' h'' u2 ⟨F',f',m',c'⟩ =>
          ih A [] _ ((x.2,v)::ΓA) ΓB F' FB _ w'' h'' hc'.2 (fun z hz=>hA z (List.mem_cons_of_mem _ hz)) (fun y hy=>absurd hy (by simp)) (fun _ _ y hy=>absurd hy (by simp)) c' cB m' mB f' (mB _ _ (u.trans u2).gr.gw fb) u2.g (Nat.le_trans hsz (u.trans u2).gr.size) (ka.put ht v) (kb.put_ne ht v (hA x List.mem_cons_self))
            (fun w3 h3 a' GA GB FA' FB' u3=>K w3 h3 a' GA GB FA' FB' ((u.trans u2).trans u3))
      exact ev2_E hc'.1 cA.1 cA.1 oks hM g hsz ka ka H H
    | [], y :: B,hc,cA,cB,hA,hB,hAB =>
      have hc':(ev2 n ops k0 AL L y.1 y.2 y.1 y.2 && chkPar n ops k0 AL Lf m (L.setIfInBounds y.1 true) [] B)=true:=hc
      rw[Bool.and_eq_true] at hc'
      have ht:=(ev2_t hc'.1).1
      have H:∀ w' h',Up w h w' h'→Sr P ops ΓB y.1 w' h' (fun v w'' h''=>E M P ops (mkQ N R X) k0 hr AL (L.setIfInBounds y.1 true) (a.put (some y.2) v) w'' h''):=fun w' h' u =>
        (cB.2 w' h' u.g (mB _ _ u.gr.gw fb)).mono fun v w'' h'' u2 ⟨F',f',m',c'⟩ =>
          ih [] B _ ΓA ((y.2,v)::ΓB) FA F' _ w'' h'' hc'.2 (fun z hz=>absurd hz (by simp)) (fun z hz=>hB z (List.mem_cons_of_mem _ hz)) (fun z hz=>absurd hz (by simp)) cA c' mA m' (mA _ _ (u.trans u2).gr.gw fa) f' u2.g (Nat.le_trans hsz (u.trans u2).gr.size) (ka.put_ne ht v (hB y List.mem_cons_self)) (kb.put ht v)
            (fun w3 h3 a' GA GB FA' FB' u3=>K w3 h3 a' GA GB FA' FB' ((u.trans u2).trans u3))
      exact ev2_E hc'.1 cB.1 cB.1 oks hM g hsz kb kb H H
    | x::A,y::B,hc,cA,cB,hA,hB,hAB =>
      have hc':(ev2 n ops k0 AL L x.1 x.2 y.1 y.2 && chkPar n ops k0 AL Lf m (L.setIfInBounds x.1 true) A (y::B) && chkPar n ops k0 AL Lf m (L.setIfInBounds y.1 true) (x::A) B)=true:=hc
      rw[Bool.and_eq_true,Bool.and_eq_true] at hc'
      have ht:=ev2_t hc'.1.1
      have hxy:=hAB x List.mem_cons_self y List.mem_cons_self
      refine ev2_E hc'.1.1 cA.1 cB.1 oks hM g hsz ka kb (fun w' h' u=>?_) (fun w' h' u=>?_)
      · exact (cA.2 w' h' u.g (mA _ _ u.gr.gw fa)).mono fun v w'' h'' u2 ⟨F',f',m',c'⟩ =>
          ih A (y::B) _ ((x.2,v)::ΓA) ΓB F' FB _ w'' h'' hc'.1.2 (fun z hz=>hA z (List.mem_cons_of_mem _ hz)) (fun z hz=>lookup_put (hB z hz) (Ne.symm (hAB x List.mem_cons_self z hz))) (fun z hz=>hAB z (List.mem_cons_of_mem _ hz)) c' cB m' mB f' (mB _ _ (u.trans u2).gr.gw fb) u2.g (Nat.le_trans hsz (u.trans u2).gr.size) (ka.put ht.1 v) (kb.put_ne ht.1 v (hA x List.mem_cons_self))
            (fun w3 h3 a' GA GB FA' FB' u3=>K w3 h3 a' GA GB FA' FB' ((u.trans u2).trans u3))
      · exact (cB.2 w' h' u.g (mB _ _ u.gr.gw fb)).mono fun v w'' h'' u2 ⟨F',f',m',c'⟩ =>
          ih (x::A) B _ ΓA ((y.2,v)::ΓB) FA F' _ w'' h'' hc'.2 (fun z hz=>lookup_put (hA z hz) (hAB z hz y List.mem_cons_self)) (fun z hz=>hB z (List.mem_cons_of_mem _ hz)) (fun z hz q hq=>hAB z hz q (List.mem_cons_of_mem _ hq)) cA c' mA m' (mA _ _ (u.trans u2).gr.gw fa) f' u2.g (Nat.le_trans hsz (u.trans u2).gr.size) (ka.put_ne ht.2 v (hB y List.mem_cons_self)) (kb.put ht.2 v)
            (fun w3 h3 a' GA GB FA' FB' u3=>K w3 h3 a' GA GB FA' FB' ((u.trans u2).trans u3))
def setL (L:Array Bool)(l:List (Nat × Nat)):Array Bool:=l.foldl (fun L x=>L.setIfInBounds x.1 true) L
def freshG (Γ:Env)(A B:List (Nat × Nat)):Bool:=(A.all fun x=>(Γ.lookup x.2).isNone) && (B.all fun x=>(Γ.lookup x.2).isNone) && A.all fun x=>B.all fun y=>x.2 != y.2
theorem lookup_app1 {t:Nat}{u:Value}(G:Env):∀ {D:Env},D.lookup t=some u→(D++G).lookup t=some u
  | [],e=>by cases e
  | d::D,e=>by
    rw[List.cons_append,List.lookup_cons]
    rw[List.lookup_cons] at e
    cases h0:t == d.1 with
    | true=>rw[h0] at e;exact e
    | false=>rw[h0] at e;exact lookup_app1 G (D:=D) e
theorem lookup_app0 {t:Nat}(G:Env):∀ {D:Env},D.lookup t=none→(D++G).lookup t=G.lookup t
  | [],_=>rfl
  | d::D,e=>by
    rw[List.cons_append,List.lookup_cons]
    rw[List.lookup_cons] at e
    cases h0:t == d.1 with
    | true=>rw[h0] at e;cases e
    | false=>rw[h0] at e;exact lookup_app0 G (D:=D) e
theorem Kn.app {Γ Γ':Env}(D:Env){a:Act}(ka:Kn n a Γ')(kb:Kn n a (D++Γ)):Kn n a (D++Γ'):=by
  refine ⟨ka.df,ka.sz,fun t v ht=>?_⟩
  cases e:D.lookup t with
  | some u =>
    rw[lookup_app1 _ e] at ht
    exact kb.has t v (by rw[lookup_app1 _ e];exact ht)
  | none =>
    rw[lookup_app0 _ e] at ht
    exact ka.has t v ht
theorem Rg.par (A B:List (Nat × Nat))(pA pB:Env→Env→(Hp→Prop)→Prop){FA FB:Hp→Prop}(mA:Mf FA)(mB:Mf FB)(fa:FA h)(fb:FB h)(cA:Ch P ops A Γ FA (pA Γ))(cB:Ch P ops B Γ FB (pB Γ))
    (K:∀ w' h' GA GB FA' FB',Up w h w' h'→pA Γ GA FA'→pB Γ GB FB'→FA' h'→FB' h'→∃ Γf,(∀ a,Kn n a GA→Kn n a GB→Kn n a Γf)∧EG M P n N R X ops k0 hr AL (setL L (A++B)) Γf w' h')
    (hc:chkPar n ops k0 AL (setL L (A++B)) (A.length+B.length) L A B=true:=by kernel_rfl)(hf:freshG Γ A B=true:=by kernel_rfl):EG M P n N R X ops k0 hr AL L Γ w h:=by
  intro oks hM g hsz a ka
  unfold freshG at hf
  simp only[Bool.and_eq_true,List.all_eq_true,Option.isNone_iff_eq_none,bne_iff_ne,ne_eq] at hf
  refine par_E oks hM _ A B L Γ Γ FA FB a w h hc hf.1.1 hf.1.2 hf.2 cA cB mA mB fa fb g hsz ka ka (fun w' h' a' GA GB FA' FB' u pa pb fa' fb' ka' kb'=>?_)
  obtain ⟨Γf,hk,k⟩:=K w' h' GA GB FA' FB' u pa pb fa' fb'
  exact k oks hM u.g (Nat.le_trans hsz u.gr.size) a' (hk a' ka' kb')
end par
def knN:List Lay:=[⟨3,[([((3:Int):Rat)]:List Rat)],([((0:Int):Rat)]:List Rat)⟩,⟨1,[([((2:Int):Rat)]:List Rat),([((-1:Int):Rat)]:List Rat)],([((1:Int):Rat),((9:Int):Rat)]:List Rat)⟩]
theorem knChk:chkq knN=0:=by
  have hF:Fine knN 0:=⟨⟨by decide,by decide,fun i hi=>(by obtain rfl:i=0:=Nat.lt_one_iff.1 hi;rfl)⟩,by decide,rfl,fun _=>by decide,fun h=>absurd h kD⟩
  have hK:Kd knN 0:=⟨by decide,by decide⟩
  have hF2:Fine knN 1:=⟨⟨by decide,by decide,fun i hi=>(by have h2:i<2:=hi;have:i=0∨i=1:=oM;rcases this with rfl|rfl<;>rfl)⟩,by decide,rfl,fun h=>absurd h kD,fun _=>by decide⟩
  have hK2:Kd knN 1:=⟨by decide,by decide⟩
  unfold chkq
  rw[if_pos ⟨by decide,by decide⟩]
  have e:chkFrom knN 0 (1+1)=0:=by
    unfold chkFrom
    rw[if_pos hF,if_pos hK]
    unfold chkFrom
    rw[if_pos hF2,if_pos hK2];rfl
  exact e
theorem one_lq {a:Int}(h : -9223372036854775808≤a∧a≤9223372036854775807):∀ q∈([(a:Rat)]:List Rat),LQ 1 q:=fun q hq=>by rw[List.mem_singleton.1 hq];exact LQ.lit h
theorem two_lq {a b:Int}(h : -9223372036854775808≤a∧a≤9223372036854775807)(h2 : -9223372036854775808≤b∧b≤9223372036854775807):∀ q∈([(a:Rat),(b:Rat)]:List Rat),LQ 1 q:=fun q hq=>by
  rcases List.mem_cons.1 hq with rfl|hq
  · exact LQ.lit h
  · exact one_lq h2 q hq
theorem nil_lq (j:Nat):LQ 1 (([]:List Rat).getD j 0):=by simp;exact lq0 oM
theorem knSz (i:Nat):LaySz (knN.getD i lay0):=by
  by_cases h:i=0
  · subst h
    refine ⟨by decide,fun i=>?_,by decide,fun i j=>?_,lq_get (one_lq kD) oM,by decide,by decide⟩
    · cases i with
      | zero=>decide
      | succ i=>exact Nat.zero_le _
    · cases i with
      | zero=>exact lq_get (one_lq kD) oM j
      | succ i=>exact nil_lq j
  · by_cases h2:i=1
    · subst h2
      refine ⟨by decide,fun i=>?_,by decide,fun i j=>?_,lq_get (two_lq kD kD) oM,by decide,by decide⟩
      · rcases i with _|_|i
        · decide
        · decide
        · exact Nat.zero_le _
      · rcases i with _|_|i
        · exact lq_get (one_lq kD) oM j
        · exact lq_get (one_lq kD) oM j
        · exact nil_lq j
    · obtain ⟨k,rfl⟩:∃ k,i=k+2:=⟨i-2,by omega⟩
      exact lay0_sz
theorem knDx:Drw ([([((0:Int):Rat)]:List Rat)]:List (List Rat)) 1:=⟨by decide,fun i hi=>(by obtain rfl:i=0:=Nat.lt_one_iff.1 hi;rfl),by decide,by decide,fun i j=>by
  rcases i with _|i
  · exact lq_get (one_lq kD) oM j
  · exact nil_lq j⟩
theorem knDy:Drw ([([((0:Int):Rat),((7:Int):Rat)]:List Rat)]:List (List Rat)) 2:=⟨by decide,fun i hi=>(by obtain rfl:i=0:=Nat.lt_one_iff.1 hi;rfl),by decide,by decide,fun i j=>by
  rcases i with _|i
  · exact lq_get (two_lq kD kD) oM j
  · exact nil_lq j⟩
theorem knE:ansE knN ([((1:Int):Rat)]:List Rat)=0:=ansE0 knChk rfl
theorem knA:ansL knN ([((1:Int):Rat)]:List Rat)=[mkR 5 2,mkR 33 4]:=by rw[ansL0 (xs:=([((1:Int):Rat)]:List Rat)) knChk rfl];decide +kernel
theorem knC:clsq knN ([((1:Int):Rat)]:List Rat)=1:=by rw[clsq0 (xs:=([((1:Int):Rat)]:List Rat)) knChk rfl];decide +kernel
theorem knNE:netE knN 1 1 1 2=0:=by rw[netE_0 knChk];exact fitE0 ⟨by decide,by decide,rfl,rfl,rfl⟩
theorem knL:lossv knN ([([((0:Int):Rat)]:List Rat)]:List (List Rat)) ([([((0:Int):Rat),((7:Int):Rat)]:List Rat)]:List (List Rat)) 1 2=5:=(if_pos knNE).trans (by decide +kernel)
theorem knG:gradv knN ([([((0:Int):Rat)]:List Rat)]:List (List Rat)) ([([((0:Int):Rat),((7:Int):Rat)]:List Rat)]:List (List Rat)) 1 2=[0,0,0,0,2,4]:=(if_pos knNE).trans (by decide +kernel)
theorem knSzs:sizesA knN=[1,1,2]:=by rw[sizesA0 knChk];rfl
theorem hSameN2 (A:Option Addr)(ca:Nat)(xs:List Nat)(D:Option Addr)(cd n:Nat)(hn:xs.length=n)(w:World)(h:Hp)(g:G w h)(hA:SlO 1 natc 0 h A xs)(hD:SlO 1 natc 0 h D xs)(hl:n≤1000000:=by decide) :
    Calls Tryz.prog 30 #[.slice A xs.length ca,.slice D n cd] w (Ret w h fun v _=>v=.bool true):=by
  subst hn;exact hSameNats A ca xs D cd hl w h g hA hD
theorem knMk1 {E:Int}(h:MakeP [2] 2 3 E):E=5:=h.e5 (fun z=>by have:=z.l2;simp at this)
theorem knMk2 {E:Int}(h:MakeP [2,1] 4 3 E):E=10:=h.e10 ⟨by decide,by decide,⟨by decide,by decide⟩,fun i h0 h1=>by
  have h2:i<2:=h1
  obtain rfl:i=1:=by omega
  decide⟩ kD
theorem lNetKnown  (w:World)(h:Hp)(g:G w h)(tb:Tab h) :
    Calls Tryz.prog 5 #[] w (Ret w h fun v _=>v=.bool true):=by
 have hs:=SS.start g
 replace hs:=(hs.add (K:=fun h_=>Tab h_) tb)
 have hka:(ansL knN ([((1:Int):Rat)]:List Rat)).length=2:=by rw[knA];rfl
 have hkg:(gradv knN ([([((0:Int):Rat)]:List Rat)]:List (List Rat)) ([([((0:Int):Rat),((7:Int):Rat)]:List Rat)]:List (List Rat)) 1 2).length=6:=by rw[knG];rfl
 refine go Tryz.func5 [] rfl ?_
 refine cSL (lL hs [.v 0 (.bool false)] (lNS (lC 14 hs (fOf 3 oM oM _ _ hs.g) ?_)))
 rintro _ w1 h2 hs rfl
 refine lR 15 73 1 (qc ((3:Int):Rat)) hs (fun b3 w4 h5 hs=>?_)
 replace hs:=hs.a_SlO (SlO.of_flat (sz:=5) (f:=qc) (d:=0) (b:=b3) (o:=0) (l:=([((3:Int):Rat)]:List Rat)) (fun _=>rfl) (hs.f.1))
 refine lR 16 75 1 ([.slice (some ⟨b3,0,none⟩) 1 1]) hs (fun b8 w9 h10 hs=>?_)
 replace hs:=hs.a_SlO (SlO.of_flat (sz:=1) (f:=vc) (d:=undef) (b:=b8) (o:=0) (l:=([.slice (some ⟨b3,0,none⟩) 1 1]:List Value)) (fun _=>rfl) (hs.f.1))
 replace hs:=hs.add (K:=fun h_=>QVs h_ ([.slice (some ⟨b3,0,none⟩) 1 1]:List Value) [([((3:Int):Rat)]:List Rat)]) (QVs.snoc QVs.nil ⟨_,_,rfl,Nat.le_refl _,(hs.f.2.2.1)⟩)
 refine lC 17 hs (fOf 0 oM oM _ _ hs.g) ?_
 rintro _ w14 h15 hs rfl
 refine lR 18 73 1 (qc ((0:Int):Rat)) hs (fun b16 w17 h18 hs=>?_)
 replace hs:=hs.a_SlO (SlO.of_flat (sz:=5) (f:=qc) (d:=0) (b:=b16) (o:=0) (l:=([((0:Int):Rat)]:List Rat)) (fun _=>rfl) (hs.f.1))
 refine lL hs [.v 19 (.agg #[.int .i64 3,.slice (some ⟨b8,0,none⟩) 1 1,.slice (some ⟨b16,0,none⟩) 1 1])] (lC 20 hs (fOf 2 oM oM _ _ hs.g) ?_)
 rintro _ w21 h22 hs rfl
 refine lR 21 73 1 (qc ((2:Int):Rat)) hs (fun b23 w24 h25 hs=>?_)
 replace hs:=hs.a_SlO (SlO.of_flat (sz:=5) (f:=qc) (d:=0) (b:=b23) (o:=0) (l:=([((2:Int):Rat)]:List Rat)) (fun _=>rfl) (hs.f.1))
 refine lC 22 hs (fOf (-1) oM oM _ _ hs.g) ?_
 rintro _ w28 h29 hs rfl
 refine lR 23 73 1 (qc ((-1:Int):Rat)) hs (fun b30 w31 h32 hs=>?_)
 replace hs:=hs.a_SlO (SlO.of_flat (sz:=5) (f:=qc) (d:=0) (b:=b30) (o:=0) (l:=([((-1:Int):Rat)]:List Rat)) (fun _=>rfl) (hs.f.1))
 refine lR 24 75 2 ([.slice (some ⟨b23,0,none⟩) 1 1,.slice (some ⟨b30,0,none⟩) 1 1]) hs (fun b35 w36 h37 hs=>?_)
 replace hs:=hs.a_SlO (SlO.of_flat (sz:=1) (f:=vc) (d:=undef) (b:=b35) (o:=0) (l:=([.slice (some ⟨b23,0,none⟩) 1 1,.slice (some ⟨b30,0,none⟩) 1 1]:List Value)) (fun _=>rfl) (hs.f.1))
 replace hs:=hs.add (K:=fun h_=>QVs h_ ([.slice (some ⟨b23,0,none⟩) 1 1,.slice (some ⟨b30,0,none⟩) 1 1]:List Value) [([((2:Int):Rat)]:List Rat),([((-1:Int):Rat)]:List Rat)]) (QVs.snoc (QVs.snoc QVs.nil ⟨_,_,rfl,Nat.le_refl _,(hs.f.2.2.2.2.1)⟩) ⟨_,_,rfl,Nat.le_refl _,(hs.f.2.2.1)⟩)
 refine lC 25 hs (fOf 1 oM oM _ _ hs.g) ?_
 rintro _ w41 h42 hs rfl
 refine lC 26 hs (fOf 9 oM oM _ _ hs.g) ?_
 rintro _ w43 h44 hs rfl
 refine lR 27 73 2 ([.bool (ineg ((1:Int):Rat).num),.int .u64 (lo (iabs ((1:Int):Rat).num)),.string (hi (iabs ((1:Int):Rat).num)),.int .u64 (lo (qd ((1:Int):Rat))),.string (hi (qd ((1:Int):Rat))),.bool (ineg ((9:Int):Rat).num),.int .u64 (lo (iabs ((9:Int):Rat).num)),.string (hi (iabs ((9:Int):Rat).num)),.int .u64 (lo (qd ((9:Int):Rat))),.string (hi (qd ((9:Int):Rat)))]) hs (fun b45 w46 h47 hs=>?_)
 replace hs:=hs.a_SlO (SlO.of_flat (sz:=5) (f:=qc) (d:=0) (b:=b45) (o:=0) (l:=([((1:Int):Rat),((9:Int):Rat)]:List Rat)) (fun _=>rfl) (hs.f.1))
 refine lL hs [.v 28 (.agg #[.int .i64 1,.slice (some ⟨b35,0,none⟩) 2 2,.slice (some ⟨b45,0,none⟩) 2 2])] (lR 29 77 2 ([.int .i64 3,.slice (some ⟨b8,0,none⟩) 1 1,.slice (some ⟨b16,0,none⟩) 1 1,.int .i64 1,.slice (some ⟨b35,0,none⟩) 2 2,.slice (some ⟨b45,0,none⟩) 2 2]) hs (fun b50 w51 h52 hs=>?_))
 replace hs:=hs.a_SlO (SlO.of_flat (sz:=3) (f:=lvc) (d:=lvd) (b:=b50) (o:=0) (l:=([(3,.slice (some ⟨b8,0,none⟩) 1 1,.slice (some ⟨b16,0,none⟩) 1 1),(1,.slice (some ⟨b35,0,none⟩) 2 2,.slice (some ⟨b45,0,none⟩) 2 2)]:List LV)) (fun _=>rfl) (hs.f.1))
 replace hs:=hs.add (K:=fun h_=>NetL h_ ([(3,.slice (some ⟨b8,0,none⟩) 1 1,.slice (some ⟨b16,0,none⟩) 1 1),(1,.slice (some ⟨b35,0,none⟩) 2 2,.slice (some ⟨b45,0,none⟩) 2 2)]:List LV) knN) (NetL.snoc (NetL.snoc NetL.nil ⟨rfl,⟨_,_,([.slice (some ⟨b3,0,none⟩) 1 1]:List Value),rfl,Nat.le_refl _,(hs.f.2.2.2.2.2.2.2.2.2.2.2.2.2.2.1),(hs.f.2.2.2.2.2.2.2.2.2.2.2.2.2.1)⟩,⟨_,_,rfl,Nat.le_refl _,(hs.f.2.2.2.2.2.2.2.2.2.2.2.1)⟩⟩) ⟨rfl,⟨_,_,([.slice (some ⟨b23,0,none⟩) 1 1,.slice (some ⟨b30,0,none⟩) 1 1]:List Value),rfl,Nat.le_refl _,(hs.f.2.2.2.2.2.1),(hs.f.2.2.2.2.1)⟩,⟨_,_,rfl,Nat.le_refl _,(hs.f.2.2.1)⟩⟩)
 refine lL hs [.v 30 (.agg #[.slice (some ⟨b50,0,none⟩) 2 2])] (lA 1 28 ([.slice none 0 0]) hs (fun b55 w56 h57 hs=>?_))
 refine lP 0 0 ([.slice (some ⟨b50,0,none⟩) 2 2]) hs (fun w58 hs=>?_)
 refine lN (CG.seq (cR 7 [] mixed hs al_nil ?_))
 refine eO 0 32 [(0,0,1)] (.agg #[.slice (some ⟨b50,0,none⟩) 2 2]) hs ?_
 refine eC 1 33 hs (fun _ _ hs=>fOf 1 oM oM _ _ hs.g) ?_
 rintro _ _ _ w59 h60 hs rfl
 refine eR 2 34 73 1 (qc ((1:Int):Rat)) hs (fun b61 w62 h63 hs=>?_)
 replace hs:=hs.a_SlO (SlO.of_flat (sz:=5) (f:=qc) (d:=0) (b:=b61) (o:=0) (l:=([((1:Int):Rat)]:List Rat)) (fun _=>rfl) (hs.f.1))
 refine eC 3 35 hs (fun _ _ hs=>nAnswer (some ⟨b50,0,none⟩) 2 ([(3,.slice (some ⟨b8,0,none⟩) 1 1,.slice (some ⟨b16,0,none⟩) 1 1),(1,.slice (some ⟨b35,0,none⟩) 2 2,.slice (some ⟨b45,0,none⟩) 2 2)]:List LV) knN kD (fun i _=>(knSz i).len) (some ⟨b61,0,none⟩) 1 ([((1:Int):Rat)]:List Rat) (Nat.le_refl _) (fun _ h2=>netB (chk_net3 knChk) knSz h2 (lq_get (by intro q hq;rw[List.mem_singleton.1 hq];exact LQ.lit kD) oM)) _ _ hs.g (hs.f.2.2.2.1) (hs.f.2.2.1) (hs.f.1) (hs.f.2.2.2.2.2.2.2.2.2.2.2.2.2.2.2.2.2.2.2.2.2.1)) ?_
 rintro _ _ _ w66 h67 hs ⟨Aa,ca,rfl,hca,hAa⟩
 replace hs:=(hs.a_SlO hAa)
 refine eV 4 31 (.tuple #[.slice Aa ((ansL knN ([((1:Int):Rat)]:List Rat)).length) ca,.int .i64 (ansE knN ([((1:Int):Rat)]:List Rat))]) ?_
 refine eV 5 36 (.slice Aa ((ansL knN ([((1:Int):Rat)]:List Rat)).length) ca) ?_
 refine eV 6 37 (.int .i64 (ansE knN ([((1:Int):Rat)]:List Rat))) ?_
 refine eD0 hs (fun w68 h69 hs=>?_)
 refine tV 7 2 (.slice Aa ((ansL knN ([((1:Int):Rat)]:List Rat)).length) ca) ?_
 refine tV 8 3 (.int .i64 (ansE knN ([((1:Int):Rat)]:List Rat))) ?_
 refine tN (CG.seq (cR 7 [] mixed hs al_nil ?_))
 refine eO 0 39 [(0,0,1)] (.agg #[.slice (some ⟨b50,0,none⟩) 2 2]) hs ?_
 refine eC 1 40 hs (fun _ _ hs=>fOf 1 oM oM _ _ hs.g) ?_
 rintro _ _ _ w70 h71 hs rfl
 refine eR 2 41 73 1 (qc ((1:Int):Rat)) hs (fun b72 w73 h74 hs=>?_)
 replace hs:=hs.a_SlO (SlO.of_flat (sz:=5) (f:=qc) (d:=0) (b:=b72) (o:=0) (l:=([((1:Int):Rat)]:List Rat)) (fun _=>rfl) (hs.f.1))
 refine eC 3 42 hs (fun _ _ hs=>nClass (some ⟨b50,0,none⟩) 2 ([(3,.slice (some ⟨b8,0,none⟩) 1 1,.slice (some ⟨b16,0,none⟩) 1 1),(1,.slice (some ⟨b35,0,none⟩) 2 2,.slice (some ⟨b45,0,none⟩) 2 2)]:List LV) knN kD (fun i _=>(knSz i).len) (some ⟨b72,0,none⟩) 1 ([((1:Int):Rat)]:List Rat) (Nat.le_refl _) (fun _ h2=>netB (chk_net3 knChk) knSz h2 (lq_get (by intro q hq;rw[List.mem_singleton.1 hq];exact LQ.lit kD) oM)) _ _ hs.g (hs.f.2.2.2.2.2.2.1) (hs.f.2.2.2.2.2.1) (hs.f.1) (hs.f.2.2.2.2.2.2.2.2.2.2.2.2.2.2.2.2.2.2.2.2.2.2.2.2.1)) ?_
 rintro _ _ _ w77 h78 hs rfl
 refine eV 4 38 (.tuple #[.int .i64 (clsq knN ([((1:Int):Rat)]:List Rat)),.int .i64 (ansE knN ([((1:Int):Rat)]:List Rat))]) ?_
 refine eV 5 43 (.int .i64 (clsq knN ([((1:Int):Rat)]:List Rat))) ?_
 refine eV 6 44 (.int .i64 (ansE knN ([((1:Int):Rat)]:List Rat))) ?_
 refine eD0 hs (fun w79 h80 hs=>?_)
 refine tV 7 4 (.int .i64 (clsq knN ([((1:Int):Rat)]:List Rat))) ?_
 refine tV 8 5 (.int .i64 (ansE knN ([((1:Int):Rat)]:List Rat))) ?_
 refine tN (CG.seq ?_)
 have hsr:=hs
 refine cR 13 [⟨12,6,.cells (List.toArray [.bool false,.int .u64 0,.string ⟨#[]⟩,.int .u64 0,.string ⟨#[]⟩]) 73 (0,0)⟩] mixed hs (al_cons (alOk kR (fun _ _=>by kernel_rfl)) al_nil) ?_
 refine eO 0 46 [(0,0,1)] (.agg #[.slice (some ⟨b50,0,none⟩) 2 2]) hs ?_
 refine eC 1 47 hs (fun _ _ hs=>fOf 0 oM oM _ _ hs.g) ?_
 rintro _ _ _ w81 h82 hs rfl
 refine Rg.par [(2,48),(3,49)] [(4,50),(5,51),(6,52),(7,53)] (fun Γ_ G_ F_=>∃ b83 b84:Nat,G_=(49,.slice (some ⟨b84,0,none⟩) 1 1)::(48,.slice (some ⟨b83,0,none⟩) 1 1)::Γ_∧F_=fun h=>Seg h b84 0 ([.slice (some ⟨b83,0,none⟩) 1 1])∧Seg h b83 0 (qc ((0:Int):Rat))∧True) (fun Γ_ G_ F_=>∃ b85 b86:Nat,G_=(53,.slice (some ⟨b86,0,none⟩) 1 1)::(52,.slice (some ⟨b85,0,none⟩) 2 2)::(51,qv ((7:Int):Rat))::(50,qv ((0:Int):Rat))::Γ_∧F_=fun h=>Seg h b86 0 ([.slice (some ⟨b85,0,none⟩) 2 2])∧Seg h b85 0 ([.bool (ineg ((0:Int):Rat).num),.int .u64 (lo (iabs ((0:Int):Rat).num)),.string (hi (iabs ((0:Int):Rat).num)),.int .u64 (lo (qd ((0:Int):Rat))),.string (hi (qd ((0:Int):Rat))),.bool (ineg ((7:Int):Rat).num),.int .u64 (lo (iabs ((7:Int):Rat).num)),.string (hi (iabs ((7:Int):Rat).num)),.int .u64 (lo (qd ((7:Int):Rat))),.string (hi (qd ((7:Int):Rat)))])∧True) mT mT trivial trivial (Ch.row 2 48 73 1 (qc ((0:Int):Rat)) mT (fun b83=>Ch.row 3 49 75 1 ([.slice (some ⟨b83,0,none⟩) 1 1]) mT.seg (fun b84=>⟨b83,b84,rfl,rfl⟩))) (Ch.callv 4 50 mT (fun _ _ g_=>fOf 0 oM oM _ _ g_) (Ch.callv 5 51 mT (fun _ _ g_=>fOf 7 oM oM _ _ g_) (Ch.row 6 52 73 2 ([.bool (ineg ((0:Int):Rat).num),.int .u64 (lo (iabs ((0:Int):Rat).num)),.string (hi (iabs ((0:Int):Rat).num)),.int .u64 (lo (qd ((0:Int):Rat))),.string (hi (qd ((0:Int):Rat))),.bool (ineg ((7:Int):Rat).num),.int .u64 (lo (iabs ((7:Int):Rat).num)),.string (hi (iabs ((7:Int):Rat).num)),.int .u64 (lo (qd ((7:Int):Rat))),.string (hi (qd ((7:Int):Rat)))]) mT (fun b85=>Ch.row 7 53 75 1 ([.slice (some ⟨b85,0,none⟩) 2 2]) mT.seg (fun b86=>⟨b85,b86,rfl,rfl⟩))))) ?_
 rintro w87 h88 _ _ _ _ u89 ⟨b83,b84,rfl,rfl⟩ ⟨b85,b86,rfl,rfl⟩ ⟨hS91,hS90,-⟩ ⟨hS93,hS92,-⟩
 refine ⟨_,fun _ ka kb=>Kn.app [(53,.slice (some ⟨b86,0,none⟩) 1 1),(52,.slice (some ⟨b85,0,none⟩) 2 2),(51,qv ((7:Int):Rat)),(50,qv ((0:Int):Rat))] ka kb,?_⟩
 replace hs:=hs.step u89
 replace hs:=hs.a_Seg hS90
 replace hs:=hs.a_Seg hS91
 replace hs:=hs.a_Seg hS92
 replace hs:=hs.a_Seg hS93
 replace hs:=hs.a_SlO (SlO.of_flat (sz:=5) (f:=qc) (d:=0) (b:=b83) (o:=0) (l:=([((0:Int):Rat)]:List Rat)) (fun _=>rfl) (hs.f.2.2.2.1))
 replace hs:=hs.a_SlO (SlO.of_flat (sz:=1) (f:=vc) (d:=undef) (b:=b84) (o:=0) (l:=([.slice (some ⟨b83,0,none⟩) 1 1]:List Value)) (fun _=>rfl) (hs.f.2.2.2.1))
 replace hs:=hs.add (K:=fun h_=>QVs h_ ([.slice (some ⟨b83,0,none⟩) 1 1]:List Value) [([((0:Int):Rat)]:List Rat)]) (QVs.snoc QVs.nil ⟨_,_,rfl,Nat.le_refl _,(hs.f.2.1)⟩)
 replace hs:=hs.a_SlO (SlO.of_flat (sz:=5) (f:=qc) (d:=0) (b:=b85) (o:=0) (l:=([((0:Int):Rat),((7:Int):Rat)]:List Rat)) (fun _=>rfl) (hs.f.2.2.2.2.1))
 replace hs:=hs.a_SlO (SlO.of_flat (sz:=1) (f:=vc) (d:=undef) (b:=b86) (o:=0) (l:=([.slice (some ⟨b85,0,none⟩) 2 2]:List Value)) (fun _=>rfl) (hs.f.2.2.2.2.1))
 replace hs:=hs.add (K:=fun h_=>QVs h_ ([.slice (some ⟨b85,0,none⟩) 2 2]:List Value) [([((0:Int):Rat),((7:Int):Rat)]:List Rat)]) (QVs.snoc QVs.nil ⟨_,_,rfl,Nat.le_refl _,(hs.f.2.1)⟩)
 refine eC 8 54 hs (fun _ _ hs=>nLoss (some ⟨b50,0,none⟩) 2 ([(3,.slice (some ⟨b8,0,none⟩) 1 1,.slice (some ⟨b16,0,none⟩) 1 1),(1,.slice (some ⟨b35,0,none⟩) 2 2,.slice (some ⟨b45,0,none⟩) 2 2)]:List LV) knN kD knSz (some ⟨b84,0,none⟩) 1 ([.slice (some ⟨b83,0,none⟩) 1 1]:List Value) ([([((0:Int):Rat)]:List Rat)]:List (List Rat)) (some ⟨b86,0,none⟩) 1 ([.slice (some ⟨b85,0,none⟩) 2 2]:List Value) ([([((0:Int):Rat),((7:Int):Rat)]:List Rat)]:List (List Rat)) 1 2 knDx knDy _ _ hs.g (hs.f.2.2.2.2.2.2.2.2.2.2.2.2.2.2.2.2.1) (hs.f.2.2.2.2.2.2.2.2.2.2.2.2.2.2.2.1) (hs.f.2.2.2.2.1) (hs.f.2.2.2.1) (hs.f.2.1) (hs.f.1) (hs.f.2.2.2.2.2.2.2.2.2.2.2.2.2.2.2.2.2.2.2.2.2.2.2.2.2.2.2.2.2.2.2.2.2.2.1)) ?_
 rintro _ _ _ w100 h101 hs rfl
 refine eV 9 45 (.tuple #[qv (lossv knN ([([((0:Int):Rat)]:List Rat)]:List (List Rat)) ([([((0:Int):Rat),((7:Int):Rat)]:List Rat)]:List (List Rat)) 1 2),.int .i64 (netE knN 1 1 1 2)]) ?_
 refine eV 10 55 (qv (lossv knN ([([((0:Int):Rat)]:List Rat)]:List (List Rat)) ([([((0:Int):Rat),((7:Int):Rat)]:List Rat)]:List (List Rat)) 1 2)) ?_
 refine eV 11 56 (.int .i64 (netE knN 1 1 1 2)) ?_
 refine eD1p [] hsr hs 73 [.bool false,.int .u64 0,.string ⟨#[]⟩,.int .u64 0,.string ⟨#[]⟩] (fun w102 h103 b104 hs=>?_)
 refine tP 13 0 0 (qc (lossv knN ([([((0:Int):Rat)]:List Rat)]:List (List Rat)) ([([((0:Int):Rat),((7:Int):Rat)]:List Rat)]:List (List Rat)) 1 2)) hs (fun w105 hs=>?_)
 refine tV 14 7 (.int .i64 (netE knN 1 1 1 2)) ?_
 refine tN (cTo [(0,.bool false),(1,.pointer (some ⟨b55,0,none⟩)),(2,.slice Aa ((ansL knN ([((1:Int):Rat)]:List Rat)).length) ca),(3,.int .i64 (ansE knN ([((1:Int):Rat)]:List Rat))),(4,.int .i64 (clsq knN ([((1:Int):Rat)]:List Rat))),(5,.int .i64 (ansE knN ([((1:Int):Rat)]:List Rat))),(6,.pointer (some ⟨b104,0,none⟩)),(7,.int .i64 (netE knN 1 1 1 2))] ?_)
 refine CG.seq (cR 12 [] mixed hs al_nil ?_)
 refine eO 0 58 [(1,0,1)] (.agg #[.slice (some ⟨b50,0,none⟩) 2 2]) hs ?_
 refine eC 1 59 hs (fun _ _ hs=>fOf 0 oM oM _ _ hs.g) ?_
 rintro _ _ _ w106 h107 hs rfl
 refine Rg.par [(2,60),(3,61)] [(4,62),(5,63),(6,64),(7,65)] (fun Γ_ G_ F_=>∃ b108 b109:Nat,G_=(61,.slice (some ⟨b109,0,none⟩) 1 1)::(60,.slice (some ⟨b108,0,none⟩) 1 1)::Γ_∧F_=fun h=>Seg h b109 0 ([.slice (some ⟨b108,0,none⟩) 1 1])∧Seg h b108 0 (qc ((0:Int):Rat))∧True) (fun Γ_ G_ F_=>∃ b110 b111:Nat,G_=(65,.slice (some ⟨b111,0,none⟩) 1 1)::(64,.slice (some ⟨b110,0,none⟩) 2 2)::(63,qv ((7:Int):Rat))::(62,qv ((0:Int):Rat))::Γ_∧F_=fun h=>Seg h b111 0 ([.slice (some ⟨b110,0,none⟩) 2 2])∧Seg h b110 0 ([.bool (ineg ((0:Int):Rat).num),.int .u64 (lo (iabs ((0:Int):Rat).num)),.string (hi (iabs ((0:Int):Rat).num)),.int .u64 (lo (qd ((0:Int):Rat))),.string (hi (qd ((0:Int):Rat))),.bool (ineg ((7:Int):Rat).num),.int .u64 (lo (iabs ((7:Int):Rat).num)),.string (hi (iabs ((7:Int):Rat).num)),.int .u64 (lo (qd ((7:Int):Rat))),.string (hi (qd ((7:Int):Rat)))])∧True) mT mT trivial trivial (Ch.row 2 60 73 1 (qc ((0:Int):Rat)) mT (fun b108=>Ch.row 3 61 75 1 ([.slice (some ⟨b108,0,none⟩) 1 1]) mT.seg (fun b109=>⟨b108,b109,rfl,rfl⟩))) (Ch.callv 4 62 mT (fun _ _ g_=>fOf 0 oM oM _ _ g_) (Ch.callv 5 63 mT (fun _ _ g_=>fOf 7 oM oM _ _ g_) (Ch.row 6 64 73 2 ([.bool (ineg ((0:Int):Rat).num),.int .u64 (lo (iabs ((0:Int):Rat).num)),.string (hi (iabs ((0:Int):Rat).num)),.int .u64 (lo (qd ((0:Int):Rat))),.string (hi (qd ((0:Int):Rat))),.bool (ineg ((7:Int):Rat).num),.int .u64 (lo (iabs ((7:Int):Rat).num)),.string (hi (iabs ((7:Int):Rat).num)),.int .u64 (lo (qd ((7:Int):Rat))),.string (hi (qd ((7:Int):Rat)))]) mT (fun b110=>Ch.row 7 65 75 1 ([.slice (some ⟨b110,0,none⟩) 2 2]) mT.seg (fun b111=>⟨b110,b111,rfl,rfl⟩))))) ?_
 rintro w112 h113 _ _ _ _ u114 ⟨b108,b109,rfl,rfl⟩ ⟨b110,b111,rfl,rfl⟩ ⟨hS116,hS115,-⟩ ⟨hS118,hS117,-⟩
 refine ⟨_,fun _ ka kb=>Kn.app [(65,.slice (some ⟨b111,0,none⟩) 1 1),(64,.slice (some ⟨b110,0,none⟩) 2 2),(63,qv ((7:Int):Rat)),(62,qv ((0:Int):Rat))] ka kb,?_⟩
 replace hs:=hs.step u114
 replace hs:=hs.a_Seg hS115
 replace hs:=hs.a_Seg hS116
 replace hs:=hs.a_Seg hS117
 replace hs:=hs.a_Seg hS118
 replace hs:=hs.a_SlO (SlO.of_flat (sz:=5) (f:=qc) (d:=0) (b:=b108) (o:=0) (l:=([((0:Int):Rat)]:List Rat)) (fun _=>rfl) (hs.f.2.2.2.1))
 replace hs:=hs.a_SlO (SlO.of_flat (sz:=1) (f:=vc) (d:=undef) (b:=b109) (o:=0) (l:=([.slice (some ⟨b108,0,none⟩) 1 1]:List Value)) (fun _=>rfl) (hs.f.2.2.2.1))
 replace hs:=hs.add (K:=fun h_=>QVs h_ ([.slice (some ⟨b108,0,none⟩) 1 1]:List Value) [([((0:Int):Rat)]:List Rat)]) (QVs.snoc QVs.nil ⟨_,_,rfl,Nat.le_refl _,(hs.f.2.1)⟩)
 replace hs:=hs.a_SlO (SlO.of_flat (sz:=5) (f:=qc) (d:=0) (b:=b110) (o:=0) (l:=([((0:Int):Rat),((7:Int):Rat)]:List Rat)) (fun _=>rfl) (hs.f.2.2.2.2.1))
 replace hs:=hs.a_SlO (SlO.of_flat (sz:=1) (f:=vc) (d:=undef) (b:=b111) (o:=0) (l:=([.slice (some ⟨b110,0,none⟩) 2 2]:List Value)) (fun _=>rfl) (hs.f.2.2.2.2.1))
 replace hs:=hs.add (K:=fun h_=>QVs h_ ([.slice (some ⟨b110,0,none⟩) 2 2]:List Value) [([((0:Int):Rat),((7:Int):Rat)]:List Rat)]) (QVs.snoc QVs.nil ⟨_,_,rfl,Nat.le_refl _,(hs.f.2.1)⟩)
 refine eC 8 66 hs (fun _ _ hs=>nGrad (some ⟨b50,0,none⟩) 2 ([(3,.slice (some ⟨b8,0,none⟩) 1 1,.slice (some ⟨b16,0,none⟩) 1 1),(1,.slice (some ⟨b35,0,none⟩) 2 2,.slice (some ⟨b45,0,none⟩) 2 2)]:List LV) knN kD knSz (some ⟨b109,0,none⟩) 1 ([.slice (some ⟨b108,0,none⟩) 1 1]:List Value) ([([((0:Int):Rat)]:List Rat)]:List (List Rat)) (some ⟨b111,0,none⟩) 1 ([.slice (some ⟨b110,0,none⟩) 2 2]:List Value) ([([((0:Int):Rat),((7:Int):Rat)]:List Rat)]:List (List Rat)) 1 2 knDx knDy _ _ hs.g (hs.f.2.2.2.2.2.2.2.2.2.2.2.2.2.2.2.2.2.2.2.2.2.2.2.2.2.2.1) (hs.f.2.2.2.2.2.2.2.2.2.2.2.2.2.2.2.2.2.2.2.2.2.2.2.2.2.1) (hs.f.2.2.2.2.1) (hs.f.2.2.2.1) (hs.f.2.1) (hs.f.1) (hs.f.2.2.2.2.2.2.2.2.2.2.2.2.2.2.2.2.2.2.2.2.2.2.2.2.2.2.2.2.2.2.2.2.2.2.2.2.2.2.2.2.2.2.2.2.1)) ?_
 rintro _ _ _ w125 h126 hs ⟨Ag,cg,rfl,hcg,hAg⟩
 replace hs:=(hs.a_SlO hAg)
 refine eV 9 57 (.tuple #[.slice Ag ((gradv knN ([([((0:Int):Rat)]:List Rat)]:List (List Rat)) ([([((0:Int):Rat),((7:Int):Rat)]:List Rat)]:List (List Rat)) 1 2).length) cg,.int .i64 (netE knN 1 1 1 2)]) ?_
 refine eV 10 67 (.slice Ag ((gradv knN ([([((0:Int):Rat)]:List Rat)]:List (List Rat)) ([([((0:Int):Rat),((7:Int):Rat)]:List Rat)]:List (List Rat)) 1 2).length) cg) ?_
 refine eV 11 68 (.int .i64 (netE knN 1 1 1 2)) ?_
 refine eD0 hs (fun w127 h128 hs=>?_)
 refine tV 12 8 (.slice Ag ((gradv knN ([([((0:Int):Rat)]:List Rat)]:List (List Rat)) ([([((0:Int):Rat),((7:Int):Rat)]:List Rat)]:List (List Rat)) 1 2).length) cg) ?_
 refine tV 13 9 (.int .i64 (netE knN 1 1 1 2)) ?_
 refine tNS ?_
 refine lR 70 3 1 ([.int .i64 2]) hs (fun b129 w130 h131 hs=>?_)
 replace hs:=hs.a_SlO (SlO.of_flat (sz:=1) (f:=natc) (d:=0) (b:=b129) (o:=0) (l:=([2]:List Nat)) (fun _=>rfl) (hs.f.1))
 refine lCu 71 (dNew 1 _ _ hs.g) ?_
 rintro _ w134 h135 u136 ⟨bd1,rfl,lo1,bc1⟩
 obtain ⟨h137,hs,-,-⟩:=hs.take u136 lo1 bc1
 replace hs:=hs.to [⟨bd1,118,[.int .u64 (1:Nat)]⟩,⟨b104,73,qc (lossv knN ([([((0:Int):Rat)]:List Rat)]:List (List Rat)) ([([((0:Int):Rat),((7:Int):Rat)]:List Rat)]:List (List Rat)) 1 2)⟩,⟨b55,28,[.slice (some ⟨b50,0,none⟩) 2 2]⟩] []
 refine lCm 72 (nMake (some ⟨b129,0,none⟩) 1 ([2]:List Nat) kD 2 3 bd1 1 kD (2^(3:Int).toNat) rfl (belowq (2*2^(3:Int).toNat+1)) rfl _ _ hs.g (hs.own 0) (hs.jk 0) (hs.f.1) (hs.f.2.2.2.2.2.2.2.2.2.2.2.2.2.2.2.2.2.2.2.2.2.2.2.2.2.2.2.2.2.2.2.2.2.2.2.2.2.2.2.2.2.2.2.2.2.2.2.1)) ?_
 rintro _ w138 h139 u140 ⟨A1,c1,us1,ls1,E1,rfl,hc1,hA1,hN1,hE1,hl1,hz1,sx1,hO1⟩
 obtain rfl:E1=5:=knMk1 hE1
 replace hs:=(hs.stepM 0 u140 hO1).to [⟨bd1,118,[.int .u64 (sx1:Nat)]⟩,⟨b104,73,qc (lossv knN ([([((0:Int):Rat)]:List Rat)]:List (List Rat)) ([([((0:Int):Rat),((7:Int):Rat)]:List Rat)]:List (List Rat)) 1 2)⟩,⟨b55,28,[.slice (some ⟨b50,0,none⟩) 2 2]⟩] []
 refine lL hs [.m 69 72,.v 73 (.agg #[.slice A1 us1.length c1]),.v 74 (.int .i64 5)] (lA 10 28 ([.slice none 0 0]) hs (fun b141 w142 h143 hs=>?_))
 refine lP 0 0 ([.slice A1 us1.length c1]) hs (fun w144 hs=>?_)
 refine lL hs [.m 11 74] (lNS (lR 76 3 2 ([.int .i64 2,.int .i64 1]) hs (fun b145 w146 h147 hs=>?_)))
 replace hs:=hs.a_SlO (SlO.of_flat (sz:=1) (f:=natc) (d:=0) (b:=b145) (o:=0) (l:=([2,1]:List Nat)) (fun _=>rfl) (hs.f.1))
 refine lCu 77 (dNew 1 _ _ hs.g) ?_
 rintro _ w150 h151 u152 ⟨bd2,rfl,lo2,bc2⟩
 obtain ⟨h153,hs,-,-⟩:=hs.take u152 lo2 bc2
 replace hs:=hs.to [⟨bd2,118,[.int .u64 (1:Nat)]⟩,⟨b141,28,[.slice A1 us1.length c1]⟩,⟨bd1,118,[.int .u64 (sx1:Nat)]⟩,⟨b104,73,qc (lossv knN ([([((0:Int):Rat)]:List Rat)]:List (List Rat)) ([([((0:Int):Rat),((7:Int):Rat)]:List Rat)]:List (List Rat)) 1 2)⟩,⟨b55,28,[.slice (some ⟨b50,0,none⟩) 2 2]⟩] []
 refine lCm 78 (nMake (some ⟨b145,0,none⟩) 2 ([2,1]:List Nat) kD 4 3 bd2 1 kD (2^(3:Int).toNat) rfl (belowq (2*2^(3:Int).toNat+1)) rfl _ _ hs.g (hs.own 0) (hs.jk 0) (hs.f.1) (hs.f.2.2.2.2.2.2.2.2.2.2.2.2.2.2.2.2.2.2.2.2.2.2.2.2.2.2.2.2.2.2.2.2.2.2.2.2.2.2.2.2.2.2.2.2.2.2.2.2.2.1)) ?_
 rintro _ w154 h155 u156 ⟨A2,c2,us2,ls2,E2,rfl,hc2,hA2,hN2,hE2,hl2,hz2,sx2,hO2⟩
 obtain rfl:E2=10:=knMk2 hE2
 replace hs:=(hs.stepM 0 u156 hO2).to [⟨bd2,118,[.int .u64 (sx2:Nat)]⟩,⟨b141,28,[.slice A1 us1.length c1]⟩,⟨bd1,118,[.int .u64 (sx1:Nat)]⟩,⟨b104,73,qc (lossv knN ([([((0:Int):Rat)]:List Rat)]:List (List Rat)) ([([((0:Int):Rat),((7:Int):Rat)]:List Rat)]:List (List Rat)) 1 2)⟩,⟨b55,28,[.slice (some ⟨b50,0,none⟩) 2 2]⟩] []
 refine lL hs [.m 75 78,.v 79 (.agg #[.slice A2 us2.length c2]),.v 80 (.int .i64 10)] (lA 12 28 ([.slice none 0 0]) hs (fun b157 w158 h159 hs=>?_))
 refine lP 0 0 ([.slice A2 us2.length c2]) hs (fun w160 hs=>?_)
 refine lL hs [.m 13 80] (lNS (lC 81 hs (lKnown30 _ _ hs.g (hs.f.2.2.2.2.2.2.2.2.2.2.2.2.2.2.2.2.2.2.2.2.2.2.2.2.2.2.2.2.2.2.2.2.2.2.2.2.2.2.2.2.2.2.2.2.2.2.2.2.2.1)) ?_))
 rintro _ w161 h162 hs rfl
 refine lL hs [.m 82 81,.m 83 3] ?_
 have hb163:((ansE knN ([((1:Int):Rat)]:List Rat):Int) == (0:Int))=true:=by rw[knE];rfl
 have phb163:=eq_of_beq hb163
 refine lB 84 hb163 ?_
 refine lL hs [.v 85 (.bool true),.m 86 85,.m 87 2,.v 88 (.int .i64 ((ansL knN ([((1:Int):Rat)]:List Rat)).length:Nat))] ?_
 have hb164:((((ansL knN ([((1:Int):Rat)]:List Rat)).length:Nat):Int) == (2:Int))=true:=by rw[hka];rfl
 have phb164:=eq_of_beq hb164
 refine lB 89 hb164 ?_
 refine lL hs [.v 90 (.bool true),.m 91 90,.m 92 2] (lX 93 Aa ((ansL knN ([((1:Int):Rat)]:List Rat)).length) ca 5 0 0 ((hs.f.2.2.2.2.2.2.2.2.2.2.2.2.2.2.2.2.2.2.2.2.2.2.2.2.2.2.2.1).ok oM) ?_)
 refine lH 94 (qv ((ansL knN ([((1:Int):Rat)]:List Rat)).getD 0 0)) hs ((hs.f.2.2.2.2.2.2.2.2.2.2.2.2.2.2.2.2.2.2.2.2.2.2.2.2.2.2.2.1).el 0 oM) ?_
 refine lC 95 hs (hIs ((ansL knN ([((1:Int):Rat)]:List Rat)).getD 0 0) 5 2 (by rw[knA];exact ⟨by decide +kernel,by decide +kernel⟩) kD kD kD kD kD _ _ hs.g) ?_
 rintro _ w165 h166 hs rfl
 have hb167:(sameQ ((ansL knN ([((1:Int):Rat)]:List Rat)).getD 0 0) (mkR 5 2))=true:=by rw[knA];decide +kernel
 rw[hb167]
 refine lL hs [.v 96 (.bool true),.m 97 96,.m 98 2] (lX 99 Aa ((ansL knN ([((1:Int):Rat)]:List Rat)).length) ca 5 1 1 ((hs.f.2.2.2.2.2.2.2.2.2.2.2.2.2.2.2.2.2.2.2.2.2.2.2.2.2.2.2.1).ok oM) ?_)
 refine lH 100 (qv ((ansL knN ([((1:Int):Rat)]:List Rat)).getD 1 0)) hs ((hs.f.2.2.2.2.2.2.2.2.2.2.2.2.2.2.2.2.2.2.2.2.2.2.2.2.2.2.2.1).el 1 oM) ?_
 refine lC 101 hs (hIs ((ansL knN ([((1:Int):Rat)]:List Rat)).getD 1 0) 33 4 (by rw[knA];exact ⟨by decide +kernel,by decide +kernel⟩) kD kD kD kD kD _ _ hs.g) ?_
 rintro _ w168 h169 hs rfl
 have hb170:(sameQ ((ansL knN ([((1:Int):Rat)]:List Rat)).getD 1 0) (mkR 33 4))=true:=by rw[knA];decide +kernel
 rw[hb170]
 refine lL hs [.v 102 (.bool true),.m 103 102,.m 104 5] ?_
 have hb171:((ansE knN ([((1:Int):Rat)]:List Rat):Int) == (0:Int))=true:=by rw[knE];rfl
 have phb171:=eq_of_beq hb171
 refine lB 105 hb171 ?_
 refine lL hs [.v 106 (.bool true),.m 107 106,.m 108 4] ?_
 have hb172:((clsq knN ([((1:Int):Rat)]:List Rat):Int) == (1:Int))=true:=by rw[knC];rfl
 have phb172:=eq_of_beq hb172
 refine lB 109 hb172 ?_
 refine lL hs [.v 110 (.bool true),.m 111 110,.m 112 7] ?_
 have hb173:((netE knN 1 1 1 2:Int) == (0:Int))=true:=by rw[knNE];rfl
 have phb173:=eq_of_beq hb173
 refine lB 113 hb173 ?_
 refine lL hs [.v 114 (.bool true),.m 115 114,.o 116 (qv (lossv knN ([([((0:Int):Rat)]:List Rat)]:List (List Rat)) ([([((0:Int):Rat),((7:Int):Rat)]:List Rat)]:List (List Rat)) 1 2)) 4 0 5] (lC 117 hs (hIs ((lossv knN ([([((0:Int):Rat)]:List Rat)]:List (List Rat)) ([([((0:Int):Rat),((7:Int):Rat)]:List Rat)]:List (List Rat)) 1 2)) 5 1 (by rw[knL];exact ⟨by decide +kernel,by decide +kernel⟩) kD kD kD kD kD _ _ hs.g) ?_)
 rintro _ w174 h175 hs rfl
 have hb176:(sameQ ((lossv knN ([([((0:Int):Rat)]:List Rat)]:List (List Rat)) ([([((0:Int):Rat),((7:Int):Rat)]:List Rat)]:List (List Rat)) 1 2)) (mkR 5 1))=true:=by rw[knL];decide +kernel
 rw[hb176]
 refine lL hs [.v 118 (.bool true),.m 119 118,.m 120 9] ?_
 have hb177:((netE knN 1 1 1 2:Int) == (0:Int))=true:=by rw[knNE];rfl
 have phb177:=eq_of_beq hb177
 refine lB 121 hb177 ?_
 refine lL hs [.v 122 (.bool true),.m 123 122,.m 124 8,.v 125 (.int .i64 ((gradv knN ([([((0:Int):Rat)]:List Rat)]:List (List Rat)) ([([((0:Int):Rat),((7:Int):Rat)]:List Rat)]:List (List Rat)) 1 2).length:Nat))] ?_
 have hb178:((((gradv knN ([([((0:Int):Rat)]:List Rat)]:List (List Rat)) ([([((0:Int):Rat),((7:Int):Rat)]:List Rat)]:List (List Rat)) 1 2).length:Nat):Int) == (6:Int))=true:=by rw[hkg];rfl
 have phb178:=eq_of_beq hb178
 refine lB 126 hb178 ?_
 refine lL hs [.v 127 (.bool true),.m 128 127,.m 129 8] (lX 130 Ag ((gradv knN ([([((0:Int):Rat)]:List Rat)]:List (List Rat)) ([([((0:Int):Rat),((7:Int):Rat)]:List Rat)]:List (List Rat)) 1 2).length) cg 5 0 0 ((hs.f.2.2.2.2.1).ok oM) ?_)
 refine lH 131 (qv ((gradv knN ([([((0:Int):Rat)]:List Rat)]:List (List Rat)) ([([((0:Int):Rat),((7:Int):Rat)]:List Rat)]:List (List Rat)) 1 2).getD 0 0)) hs ((hs.f.2.2.2.2.1).el 0 oM) ?_
 refine lC 132 hs (hIs ((gradv knN ([([((0:Int):Rat)]:List Rat)]:List (List Rat)) ([([((0:Int):Rat),((7:Int):Rat)]:List Rat)]:List (List Rat)) 1 2).getD 0 0) 0 1 (by rw[knG];exact ⟨by decide +kernel,by decide +kernel⟩) kD kD kD kD kD _ _ hs.g) ?_
 rintro _ w179 h180 hs rfl
 have hb181:(sameQ ((gradv knN ([([((0:Int):Rat)]:List Rat)]:List (List Rat)) ([([((0:Int):Rat),((7:Int):Rat)]:List Rat)]:List (List Rat)) 1 2).getD 0 0) (mkR 0 1))=true:=by rw[knG];decide +kernel
 rw[hb181]
 refine lL hs [.v 133 (.bool true),.m 134 133,.m 135 8] (lX 136 Ag ((gradv knN ([([((0:Int):Rat)]:List Rat)]:List (List Rat)) ([([((0:Int):Rat),((7:Int):Rat)]:List Rat)]:List (List Rat)) 1 2).length) cg 5 1 1 ((hs.f.2.2.2.2.1).ok oM) ?_)
 refine lH 137 (qv ((gradv knN ([([((0:Int):Rat)]:List Rat)]:List (List Rat)) ([([((0:Int):Rat),((7:Int):Rat)]:List Rat)]:List (List Rat)) 1 2).getD 1 0)) hs ((hs.f.2.2.2.2.1).el 1 oM) ?_
 refine lC 138 hs (hIs ((gradv knN ([([((0:Int):Rat)]:List Rat)]:List (List Rat)) ([([((0:Int):Rat),((7:Int):Rat)]:List Rat)]:List (List Rat)) 1 2).getD 1 0) 0 1 (by rw[knG];exact ⟨by decide +kernel,by decide +kernel⟩) kD kD kD kD kD _ _ hs.g) ?_
 rintro _ w182 h183 hs rfl
 have hb184:(sameQ ((gradv knN ([([((0:Int):Rat)]:List Rat)]:List (List Rat)) ([([((0:Int):Rat),((7:Int):Rat)]:List Rat)]:List (List Rat)) 1 2).getD 1 0) (mkR 0 1))=true:=by rw[knG];decide +kernel
 rw[hb184]
 refine lL hs [.v 139 (.bool true),.m 140 139,.m 141 8] (lX 142 Ag ((gradv knN ([([((0:Int):Rat)]:List Rat)]:List (List Rat)) ([([((0:Int):Rat),((7:Int):Rat)]:List Rat)]:List (List Rat)) 1 2).length) cg 5 4 4 ((hs.f.2.2.2.2.1).ok oM) ?_)
 refine lH 143 (qv ((gradv knN ([([((0:Int):Rat)]:List Rat)]:List (List Rat)) ([([((0:Int):Rat),((7:Int):Rat)]:List Rat)]:List (List Rat)) 1 2).getD 4 0)) hs ((hs.f.2.2.2.2.1).el 4 oM) ?_
 refine lC 144 hs (hIs ((gradv knN ([([((0:Int):Rat)]:List Rat)]:List (List Rat)) ([([((0:Int):Rat),((7:Int):Rat)]:List Rat)]:List (List Rat)) 1 2).getD 4 0) 2 1 (by rw[knG];exact ⟨by decide +kernel,by decide +kernel⟩) kD kD kD kD kD _ _ hs.g) ?_
 rintro _ w185 h186 hs rfl
 have hb187:(sameQ ((gradv knN ([([((0:Int):Rat)]:List Rat)]:List (List Rat)) ([([((0:Int):Rat),((7:Int):Rat)]:List Rat)]:List (List Rat)) 1 2).getD 4 0) (mkR 2 1))=true:=by rw[knG];decide +kernel
 rw[hb187]
 refine lL hs [.v 145 (.bool true),.m 146 145,.m 147 8] (lX 148 Ag ((gradv knN ([([((0:Int):Rat)]:List Rat)]:List (List Rat)) ([([((0:Int):Rat),((7:Int):Rat)]:List Rat)]:List (List Rat)) 1 2).length) cg 5 5 5 ((hs.f.2.2.2.2.1).ok oM) ?_)
 refine lH 149 (qv ((gradv knN ([([((0:Int):Rat)]:List Rat)]:List (List Rat)) ([([((0:Int):Rat),((7:Int):Rat)]:List Rat)]:List (List Rat)) 1 2).getD 5 0)) hs ((hs.f.2.2.2.2.1).el 5 oM) ?_
 refine lC 150 hs (hIs ((gradv knN ([([((0:Int):Rat)]:List Rat)]:List (List Rat)) ([([((0:Int):Rat),((7:Int):Rat)]:List Rat)]:List (List Rat)) 1 2).getD 5 0) 4 1 (by rw[knG];exact ⟨by decide +kernel,by decide +kernel⟩) kD kD kD kD kD _ _ hs.g) ?_
 rintro _ w188 h189 hs rfl
 have hb190:(sameQ ((gradv knN ([([((0:Int):Rat)]:List Rat)]:List (List Rat)) ([([((0:Int):Rat),((7:Int):Rat)]:List Rat)]:List (List Rat)) 1 2).getD 5 0) (mkR 4 1))=true:=by rw[knG];decide +kernel
 rw[hb190]
 refine lL hs [.v 151 (.bool true),.m 152 151,.m 153 11,.v 154 (.bool true),.v 155 (.bool true),.m 156 155,.m 157 13,.v 158 (.bool true),.v 159 (.bool true),.m 160 159,.o 161 (.agg #[.slice (some ⟨b50,0,none⟩) 2 2]) 5 0 1] (lC 162 hs (nSizesA (some ⟨b50,0,none⟩) 2 ([(3,.slice (some ⟨b8,0,none⟩) 1 1,.slice (some ⟨b16,0,none⟩) 1 1),(1,.slice (some ⟨b35,0,none⟩) 2 2,.slice (some ⟨b45,0,none⟩) 2 2)]:List LV) knN kD (fun i _=>(knSz i).len) _ _ hs.g (hs.f.2.2.2.2.2.2.2.2.2.2.2.2.2.2.2.2.2.2.2.2.2.2.2.2.2.2.2.2.2.2.2.1) (hs.f.2.2.2.2.2.2.2.2.2.2.2.2.2.2.2.2.2.2.2.2.2.2.2.2.2.2.2.2.2.2.1)) ?_)
 rintro _ w191 h192 hs ⟨Az,cz,rfl,hcz,hAz⟩
 replace hs:=(hs.a_SlO hAz)
 refine lR 163 3 3 ([.int .i64 1,.int .i64 1,.int .i64 2]) hs (fun b193 w194 h195 hs=>?_)
 replace hs:=hs.a_SlO (SlO.of_flat (sz:=1) (f:=natc) (d:=0) (b:=b193) (o:=0) (l:=([1,1,2]:List Nat)) (fun _=>rfl) (hs.f.1))
 refine lC 164 hs (hSameN2 Az cz (sizesA knN) (some ⟨b193,0,none⟩) 3 3 (by rw[knSzs];rfl) _ _ hs.g (hs.f.2.2.1) (by rw[knSzs];exact (hs.f.1))) ?_
 rintro _ w198 h199 hs rfl
 refine lL hs [.v 165 (.bool true),.m 0 165] (lN (cTo [(0,.bool true)] ?_))
 exact CG.ret (hs.ret [] (.bool true) rfl)
end Go.Proofs.YticblaklfnadoaaGreatDoor
