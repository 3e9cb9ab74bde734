/- The engine: drawn regions in which a load may come behind a store of the tail ('a, b = x, y'). No program in sight. -/
import Derived.Test.YtmkonbkdjmfjhaaGreatDoorZor
namespace Go.Proofs.YtmkonbkdjmfjhaaGreatDoor
open Go.RowKit

section z
variable {bs : List Nat} {P : Program} {n : Nat} {N R : Po} {X : Nat → Po} {ops : Array Oper} {k0 : Nat} {hr : Hp} {AL : List Al} {L : Array Bool} {Γ : Env} {w wr : World} {h : Hp} {w0 : World} {h0 : Hp} {B : List Bx} {Rs : List Rw} {F F1 : List (Hp → Prop)}
abbrev Mz (hr : Hp) (bs : List Nat) : Ms := ⟨[], some (hr.size, bs)⟩
theorem cRz {id : Nat} {d : Bool} (k0 : Nat) (AL : List Al) (bs : List Nat) (hm : P.follows .mixedOrders = true) (s : SS w0 h0 w h B Rs F) (oks : ∀ x ∈ AL, AlOk P ops k0 x) (H : EG (Mz h bs) P n N R X ops k0 h AL (Array.replicate ops.size false) Γ w h) (hord : ordered ops = true := by kernel_rfl) : CG P n N R X (.region id ops d) Γ w :=
  CG.region (Mz h bs) k0 AL hm hord s.g oks (fun _ hb => by cases hb) H
theorem own_z (sr : SS w0 h0 wr hr B Rs F1) (s : SS w0 h0 w h B Rs F) {w' : World} (hx : ∀ b, b < hr.size → b ∉ bs → b ∉ ([] : List Nat) → w'.heap[b]? = w.heap[b]?) : ∀ x ∈ B, x.b ∉ bs → Own w' x.b x.t x.vs := fun x hm hb =>
  (hx x.b (lt_of_some (sr.st.jk x hm)) hb List.not_mem_nil).trans (s.st.own x hm)
/-- A load from the function's own variables. -/
theorem eOz (i t : Nat) (ps : List (Nat × Nat × Nat)) (v : Value) (sr : SS w0 h0 wr hr B Rs F1) (s : SS w0 h0 w h B Rs F) (H : EG (Mz hr bs) P n N R X ops k0 hr AL (L.setIfInBounds i true) ((t, v) :: Γ) w h) (hM : ∀ p ∈ ps, (bxAt B p.1).b ∉ bs := by intro _ _; exact List.not_mem_nil) (hc : cE n ops k0 AL L Γ i t = true := by kernel_rfl) (hp : partsOk B ps = true := by kernel_rfl) (he : evalL P (execOp (ev Γ) (opAt ops i)) (partsV B ps) = some (.value v, partsA B ps) := by kernel_rfl) : EG (Mz hr bs) P n N R X ops k0 hr AL L Γ w h :=
  Rg.loadZ i t v rfl (cE_1 hc).1 (cE_1 hc).2 (fun w' hx => evalL_run _ _ _ _ he (parts_cellsM hM (own_z sr s hx) ps (fun _ h => h) hp)) H
/-- An element of an own array. -/
theorem eQz {α : Type} (i t j : Nat) (l : List α) (f : α → List Value) (sz : Nat) (d : α) (e : Nat) (v : Value) (sr : SS w0 h0 wr hr B Rs F1) (s : SS w0 h0 w h B Rs F) (hk : e < l.length) (H : EG (Mz hr bs) P n N R X ops k0 hr AL (L.setIfInBounds i true) ((t, v) :: Γ) w h) (hM : (bxAt B j).b ∉ bs := by exact List.not_mem_nil) (hc : cE n ops k0 AL L Γ i t = true := by kernel_rfl)
    (hj : decide (j < B.length) = true := by kernel_rfl) (hB : (bxAt B j).vs = l.flatMap f := by kernel_rfl) (hf : ∀ x, (f x).length = sz := by intro _; rfl)
    (he : evalL P (execOp (ev Γ) (opAt ops i)) (f (l.getD e d)) = some (.value v, mka (bxAt B j).b (0 + e * sz) (f (l.getD e d)).length) := by kernel_rfl) : EG (Mz hr bs) P n N R X ops k0 hr AL L Γ w h :=
  Rg.loadZ i t v rfl (cE_1 hc).1 (cE_1 hc).2 (fun w' hx => evalL_run _ _ _ _ he (fun q a u ha hu => by
    rw [mka_get _ _ _ _ _ ha, (own_z sr s hx _ (bxAt_mem (of_decide_eq_true hj)) hM).cell, hB]
    rw [← drop_flat hf d l e hk] at hu
    have hq : q < sz := by
      rcases Nat.lt_or_ge q sz with hl | hl
      · exact hl
      · rw [List.getElem?_eq_none (by simp; omega)] at hu; cases hu
    rw [List.getElem?_take_of_lt hq, List.getElem?_drop] at hu
    rw [Nat.zero_add]; exact hu)) H
/-- A load of cells that a fact tells, of a block that was there when the region began. -/
theorem eHz (i t : Nat) (v : Value) {b o : Nat} {cs : List Value} (s : SS w0 h0 w h B Rs F) (sg : Seg h b o cs) (hb : b < hr.size) (H : EG (Mz hr bs) P n N R X ops k0 hr AL (L.setIfInBounds i true) ((t, v) :: Γ) w h) (hM : b ∉ bs := by exact List.not_mem_nil) (hc : cE n ops k0 AL L Γ i t = true := by kernel_rfl) (he : evalL P (execOp (ev Γ) (opAt ops i)) cs = some (.value v, mka b o cs.length) := by kernel_rfl) : EG (Mz hr bs) P n N R X ops k0 hr AL L Γ w h :=
  Rg.loadZ i t v rfl (cE_1 hc).1 (cE_1 hc).2 (fun w' hx => evalL_run _ _ _ _ he (fun q a u ha hu => by
    rw [mka_get _ _ _ _ _ ha]
    have := hcell_w s.g (sg q u hu)
    unfold World.cell? at this ⊢
    rw [hx b hb hM List.not_mem_nil]
    exact this)) H
theorem eD1z {x : Al} (sr : SS w0 h0 wr hr B Rs F) (s : SS w0 h0 w h B Rs F) (t : TypeId) (vs : List Value) (H : ∀ w' h' b, hr.size ≤ b → SS w0 h0 w' h' (⟨b, t, vs⟩ :: B) Rs F → AG (Mz hr bs) P n N R X ops k0 (L.setIfInBounds x.i true) ((x.t, .pointer (some ⟨b, 0, none⟩)) :: Γ) w') (hc : (chkFin ops [x] L && decide (x.t < n)) = true := by kernel_rfl) (ho : x.o = .cells vs.toArray t (0, 0) := by kernel_rfl) : EG (Mz hr bs) P n N R X ops k0 hr [x] L Γ w h :=
  Rg.fin1 hc (fun w' h' b u k => H w' h' b k.2.2 (SS.blk sr (s.step u) k t vs ho))
theorem eD2z {x y : Al} (sr : SS w0 h0 wr hr B Rs F) (s : SS w0 h0 w h B Rs F) (t : TypeId) (vs : List Value) (t2 : TypeId) (vs2 : List Value) (H : ∀ w' h' b c, hr.size ≤ b → hr.size ≤ c → SS w0 h0 w' h' (⟨b, t, vs⟩ :: ⟨c, t2, vs2⟩ :: B) Rs F → AG (Mz hr bs) P n N R X ops k0 ((L.setIfInBounds y.i true).setIfInBounds x.i true) ((x.t, .pointer (some ⟨b, 0, none⟩)) :: (y.t, .pointer (some ⟨c, 0, none⟩)) :: Γ) w') (hc : (chkFin ops [x, y] L && decide (x.t < n) && decide (y.t < n) && (x.t != y.t) && (x.i != y.i)) = true := by kernel_rfl) (ho : x.o = .cells vs.toArray t (0, 0) := by kernel_rfl) (ho2 : y.o = .cells vs2.toArray t2 (0, 0) := by kernel_rfl) : EG (Mz hr bs) P n N R X ops k0 hr [x, y] L Γ w h :=
  Rg.fin2 hc (fun w' h' b c u k k2 hne => H w' h' b c k.2.2 k2.2.2 ⟨s.g0, St.new2 sr.st (s.st.step u) k k2 hne t vs ho t2 vs2 ho2, fun r hr' => (((s.step u).ro r hr').new c (fun d hd e => by
    have h1 := (sr.ro r hr').lt hd
    have h2 : hr.size ≤ c := k2.2.2
    omega)).new b (fun d hd e => by
    have h1 := (sr.ro r hr').lt hd
    have h2 : hr.size ≤ b := k.2.2
    omega), s.ap, s.mo, (s.step u).f⟩)
/-- A new variable lies behind all that was there. -/
theorem tlz_new {b : Nat} (hb : hr.size ≤ b) : ∀ K bs', (Mz hr bs).z = some (K, bs') → K ≤ b ∨ b ∈ bs' := fun K bs' e => by
  injection e with e
  injection e with e1 e2
  subst e1
  exact .inl hb
theorem tlz_mem {b : Nat} (hb : b ∈ bs) : ∀ K bs', (Mz hr bs).z = some (K, bs') → K ≤ b ∨ b ∈ bs' := fun K bs' e => by
  injection e with e
  injection e with e1 e2
  subst e2
  exact .inr hb
end z
end Go.Proofs.YtmkonbkdjmfjhaaGreatDoor
