/- The engine: rows of the function's own that are read and written in place, appended to themselves, made in drawn regions. No program in sight. -/
import Derived.Test.YtmkonbkdjmfjhaaGreatDoorZon
namespace Go.Proofs.YtmkonbkdjmfjhaaGreatDoor
open Go.RowKit

section ss
variable {w0 : World} {h0 : Hp} {w : World} {h : Hp} {B : List Bx} {R : List Rw} {F : List (Hp → Prop)}
/-- Where a row lies that is not empty. -/
theorem SS.rowA (s : SS w0 h0 w h B R F) (j : Nat) {ty : TypeId} {sz c m : Nat} {A : Option Addr} {cs : List Value} (hpos : 0 < m) (hr : R.getD j default = ⟨ty, sz, A, c, m, cs⟩ := by kernel_rfl) (hj : decide (j < R.length) = true := by kernel_rfl) : ∃ b, A = some ⟨b, 0, none⟩ := by
  have hj' := of_decide_eq_true hj
  have r := s.ro _ (List.getElem_mem hj')
  rw [rw_get hr hj'] at r
  rcases r.own with ⟨_, ⟨_, e⟩ | ⟨b, cap, cur, e, _⟩⟩
  · simp only [] at e; omega
  · simp only [Rw.v] at e
    injection e with e
    exact ⟨b, e⟩
/-- What lies in a row's block. -/
theorem SS.rowO (s : SS w0 h0 w h B R F) (j : Nat) {ty : TypeId} {sz c m b : Nat} {cs : List Value} (hr : R.getD j default = ⟨ty, sz, some ⟨b, 0, none⟩, c, m, cs⟩) (hj : j < R.length) : ∃ vs : List Value, Own w b ty vs ∧ vs.take (m * sz) = cs ∧ cs.length = m * sz ∧ h0.size ≤ b ∧ m ≤ c ∧ c ≤ maxLen ∧ vs.length = c * sz := by
  have r := s.ro _ (List.getElem_mem hj)
  rw [rw_get hr hj] at r
  rcases r.own with ⟨h1, ⟨e, _⟩ | ⟨g, cap, cur, e, hb, hg, hn, hm, hs, ht⟩⟩
  · simp [Rw.v] at e
  · simp only [Rw.v] at e
    injection e with e1 e2 e3
    injection e1 with e1
    injection e1 with e1
    subst e1 e3
    exact ⟨cur.toList, by simpa [Own] using hg, ht, h1, hb, hn, hm, by simpa using hs⟩
theorem take_get {vs cs : List Value} {k i : Nat} {v : Value} (h : vs.take k = cs) (hv : cs[i]? = some v) : vs[i]? = some v := by
  have hi : i < cs.length := (List.getElem?_eq_some_iff.1 hv).1
  rw [← h] at hi
  rw [List.length_take] at hi
  rw [← h, List.getElem?_take_of_lt (by omega)] at hv
  exact hv
theorem putAt_take : ∀ (cs vs : List Value) (o k : Nat), o + cs.length ≤ k → (putAt vs o cs).take k = putAt (vs.take k) o cs
  | [], _, _, _, _ => rfl
  | c :: cs, vs, o, k, h => by
    show (putAt (vs.set o c) (o + 1) cs).take k = putAt ((vs.take k).set o c) (o + 1) cs
    rw [putAt_take cs _ _ _ (by simp only [List.length_cons] at h; omega), List.take_set]
theorem SS.rowput (s : SS w0 h0 w h B R F) (j : Nat) {ty : TypeId} {sz c m b o : Nat} {cs ds : List Value} {w' : World} {vs : List Value} (hr : R.getD j default = ⟨ty, sz, some ⟨b, 0, none⟩, c, m, cs⟩) (hj : j < R.length) (p : Put b w w') (ho : Own w' b ty (putAt vs o ds)) (hv : vs.take (m * sz) = cs) (hvl : vs.length = c * sz) (hl : o + ds.length ≤ cs.length) : SS w0 h0 w' h B (R.set j ⟨ty, sz, some ⟨b, 0, none⟩, c, m, putAt cs o ds⟩) F := by
  have e0 := rw_get hr hj
  have r := s.ro _ (List.getElem_mem hj)
  rw [e0] at r
  have hjk := r.jk b rfl
  obtain ⟨_, _, _, hcl, hlo, hmc, hcm, _⟩ := s.rowO j hr hj
  have hne : ∀ x ∈ B, x.b ≠ b := fun x hx e => r.ap b rfl (List.mem_map.2 ⟨x, hx, e⟩)
  have hp := List.pairwise_iff_getElem.1 s.ap
  refine ⟨s.g0, ⟨s.st.up.put p hjk hlo s.g0.size, ?_, s.st.jk, s.st.lo, s.st.nd⟩, ?_, ?_, s.mo, s.f⟩
  · intro x hx
    show w'.heap[x.b]? = _
    rw [p.blk _ (hne x hx)]
    exact s.st.own x hx
  · intro x hx
    obtain ⟨i, hi, he⟩ := List.mem_iff_getElem.1 hx
    have hi' : i < R.length := by simpa using hi
    by_cases e : j = i
    · subst e
      simp only [List.getElem_set_self] at he
      rw [← he]
      refine ⟨⟨?_, .inr ⟨b, c, (putAt vs o ds).toArray, rfl, hlo, ho, hmc, hcm, by simp [putAt_len, hvl], ?_⟩⟩, r.jk, r.ap⟩
      · show (putAt cs o ds).length = m * sz; rw [putAt_len]; exact hcl
      · show (putAt vs o ds).take (m * sz) = putAt cs o ds
        rw [putAt_take _ _ _ _ (by omega), hv]
    · rw [List.getElem_set_ne e] at he
      rw [← he]
      have hap : Apart R[i].v R[j].v := by
        rcases Nat.lt_or_gt_of_ne e with hl' | hl'
        · exact (hp j i hj hi' hl').symm
        · exact hp i j hi' hj hl'
      rw [e0] at hap
      have ri := s.ro _ (List.getElem_mem hi')
      exact ⟨own_block ri.own (fun d hd => p.blk d (fun ed => hap d hd (by rw [ed]; rfl))), ri.jk, ri.ap⟩
  · refine List.pairwise_iff_getElem.2 (fun i k hi hk hik => ?_)
    have hi' : i < R.length := by simpa using hi
    have hk' : k < R.length := by simpa using hk
    have := hp i k hi' hk' hik
    by_cases e : j = i
    · subst e
      rw [List.getElem_set_self, List.getElem_set_ne (by omega)]
      rw [e0] at this
      exact this
    · by_cases e2 : j = k
      · subst e2
        rw [List.getElem_set_self, List.getElem_set_ne (by omega)]
        rw [e0] at this
        exact this
      · rw [List.getElem_set_ne e, List.getElem_set_ne e2]
        exact this
theorem SS.rown (s : SS w0 h0 w h B R F) (R' : List Rw) (e : R = R') : SS w0 h0 w h B R' F := e ▸ s
end ss
/-- A part of an element is written. -/
theorem putAt_part {α : Type} {f : α → List Value} {sz : Nat} (hf : ∀ x, (f x).length = sz) (d : α) {o : Nat} {cs : List Value} : ∀ (l : List α) (k : Nat) (x : α), k < l.length → o + cs.length ≤ sz → putAt (f (l.getD k d)) o cs = f x → putAt (l.flatMap f) (k * sz + o) cs = (l.set k x).flatMap f
  | [], k, x, h, _, _ => by simp at h
  | y :: l, 0, x, h, ho, e => by
    simp only [List.flatMap_cons, Nat.zero_mul, Nat.zero_add, List.set_cons_zero, List.getD_cons_zero] at e ⊢
    rw [← e]
    exact putAt_left _ _ _ _ (by rw [hf]; exact ho)
  | y :: l, k + 1, x, h, ho, e => by
    simp only [List.flatMap_cons, List.set_cons_succ, List.getD_cons_succ] at e ⊢
    rw [Nat.succ_mul, show k * sz + sz + o = (f y).length + (k * sz + o) by rw [hf]; omega, putAt_append, putAt_part hf d l k x (by simpa using h) ho e]
where
  putAt_left : ∀ (cs a b : List Value) (o : Nat), o + cs.length ≤ a.length → putAt (a ++ b) o cs = putAt a o cs ++ b
    | [], _, _, _, _ => rfl
    | c :: cs, a, b, o, h => by
      show putAt ((a ++ b).set o c) (o + 1) cs = putAt (a.set o c) (o + 1) cs ++ b
      simp only [List.length_cons] at h
      rw [List.set_append_left _ _ (by omega), putAt_left cs _ b _ (by rw [List.length_set]; omega)]
section laws
variable {M : Ms} {P : Program} {n : Nat} {N R : Po} {X : Nat → Po} {ops : Array Oper} {k k0 : Nat} {hr : Hp} {AL : List Al} {L : Array Bool} {Γ : Env} {w : World} {h : Hp} {w0 : World} {h0 : Hp} {B : List Bx} {Rs : List Rw} {F : List (Hp → Prop)}
theorem SS.rowrun {α : Type} {w' : World} {sem : Sem α} {r : α} (s : SS w0 h0 w h B Rs F) (j : Nat) {ty : TypeId} {sz c m b o : Nat} {cs ds : List Value} (hr' : Rs.getD j default = ⟨ty, sz, some ⟨b, 0, none⟩, c, m, cs⟩) (hj : j < Rs.length) (hds : (cs.drop o).take ds.length = ds) (x : Ext w w') (he : evalL P sem ds = some (r, mka b o ds.length)) : sem.run P w' = .ok r w' := by
  obtain ⟨vs, ho, hv, _⟩ := s.rowO j hr' hj
  exact evalL_run _ _ _ _ he (fun i a v ha hv' => by rw [mka_get _ _ _ _ _ ha, (ho.ext x).cell]; exact take_get hv (take_drop_get hds i v hv'))
/-- A load from a row of the function's own. -/
theorem lRq (t j : Nat) (v : Value) (ds : List Value) {ty : TypeId} {sz c m b o : Nat} {cs : List Value} (s : SS w0 h0 w h B Rs F) (hds : (cs.drop o).take ds.length = ds) (H : LG P n N R X ops (k + 1) ((t, v) :: Γ) w) (hr' : Rs.getD j default = ⟨ty, sz, some ⟨b, 0, none⟩, c, m, cs⟩ := by kernel_rfl) (hj : decide (j < Rs.length) = true := by kernel_rfl) (hc : cL ops Γ k t n = true := by kernel_rfl) (he : evalL P (execOp (ev Γ) (opAt ops k)) ds = some (.value v, mka b o ds.length) := by kernel_rfl) : LG P n N R X ops k Γ w :=
  LG.val t v w (cL_1 hc).1 (cL_1 hc).2 (s.rowrun j hr' (of_decide_eq_true hj) hds (Ext.refl _) he) H
/-- A store into a row of the function's own. -/
theorem lRp (j o : Nat) (ds : List Value) {ty : TypeId} {sz c m b : Nat} {cs : List Value} (s : SS w0 h0 w h B Rs F) (hl : o + ds.length ≤ cs.length) (H : ∀ w', SS w0 h0 w' h B (Rs.set j ⟨ty, sz, some ⟨b, 0, none⟩, c, m, putAt cs o ds⟩) F → LG P n N R X ops (k + 1) Γ w') (hr' : Rs.getD j default = ⟨ty, sz, some ⟨b, 0, none⟩, c, m, cs⟩ := by kernel_rfl) (hj : decide (j < Rs.length) = true := by kernel_rfl) (hc : cS ops Γ k = true := by kernel_rfl)
    (he : evalW P (execOp (ev Γ) (opAt ops k)) = some (.skip, mkl b o ds) := by kernel_rfl) : LG P n N R X ops k Γ w := by
  have hj' := of_decide_eq_true hj
  obtain ⟨vs, ho, hv, hcl, _, hmc, _, hvl⟩ := s.rowO j hr' hj'
  have hle : o + ds.length ≤ vs.length := by
    have := congrArg List.length hv
    rw [List.length_take] at this
    omega
  obtain ⟨w', hrun, hp, ho'⟩ := evalW_run _ _ o ds vs w he ho hle
  exact LG.store w' (cS_1 hc).1 (cS_1 hc).2 hrun (H w' (s.rowput j hr' hj' hp ho' hv hvl hl))
theorem tRp (i j o : Nat) (ds : List Value) {ty : TypeId} {sz c m b : Nat} {cs : List Value} (s : SS w0 h0 w h B Rs F) (hl : o + ds.length ≤ cs.length) (H : ∀ w', SS w0 h0 w' h B (Rs.set j ⟨ty, sz, some ⟨b, 0, none⟩, c, m, putAt cs o ds⟩) F → AG M P n N R X ops k0 (L.setIfInBounds i true) Γ w') (hr' : Rs.getD j default = ⟨ty, sz, some ⟨b, 0, none⟩, c, m, cs⟩ := by kernel_rfl) (hj : decide (j < Rs.length) = true := by kernel_rfl)
    (hc : (chkT ops k0 L i && knownOp Γ (opAt ops i) && ((opAt ops i).dst == none)) = true := by kernel_rfl) (hw : wantE ops Γ (opAt ops i) = some true := by kernel_rfl)
    (he : evalW P (execOp (ev Γ) (opAt ops i)) = some (.skip, mkl b o ds) := by kernel_rfl) (hz : ∀ K bs, M.z = some (K, bs) → K ≤ b ∨ b ∈ bs := by intro _ _ e; cases e) : AG M P n N R X ops k0 L Γ w := by
  have hj' := of_decide_eq_true hj
  obtain ⟨vs, ho, hv, hcl, _, hmc, _, hvl⟩ := s.rowO j hr' hj'
  have hle : o + ds.length ≤ vs.length := by
    have := congrArg List.length hv
    rw [List.length_take] at this
    omega
  obtain ⟨w', hrun, hp, ho'⟩ := evalW_run _ _ o ds vs w he ho hle
  exact T.store i w' hc hw hrun (hp.tl hz) (H w' (s.rowput j hr' hj' hp ho' hv hvl hl))
theorem eRq (i t j : Nat) (v : Value) (ds : List Value) {ty : TypeId} {sz c m b o : Nat} {cs : List Value} (s : SS w0 h0 w h B Rs F) (hds : (cs.drop o).take ds.length = ds) (H : EG ⟨[], none⟩ P n N R X ops k0 hr AL (L.setIfInBounds i true) ((t, v) :: Γ) w h) (hr' : Rs.getD j default = ⟨ty, sz, some ⟨b, 0, none⟩, c, m, cs⟩ := by kernel_rfl) (hj : decide (j < Rs.length) = true := by kernel_rfl) (hc : cEl n ops k0 AL L Γ i t = true := by kernel_rfl) (he : evalL P (execOp (ev Γ) (opAt ops i)) ds = some (.value v, mka b o ds.length) := by kernel_rfl) : EG ⟨[], none⟩ P n N R X ops k0 hr AL L Γ w h :=
  Rg.load i t v (cEl_1 hc).1 (cEl_1 hc).2 (fun _ hx => s.rowrun j hr' (of_decide_eq_true hj) hds hx.ext he) H
/-- append of a row to itself. -/
theorem lYo {α : Type} (t j : Nat) (ty : TypeId) (sz c b : Nat) (l : List α) (f : α → List Value) (bt : Nat) (z : Value) (s : SS w0 h0 w h B Rs F) (h1 : ∀ x ∈ l, (f x).all (·.oneCell') = true)
    (H : ∀ A' c' w' h', SS w0 h0 w' h' B (Rs.set j ⟨ty, sz, A', c', (l ++ l).length, (l ++ l).flatMap f⟩) F → LG P n N R X ops (k + 1) ((t, .slice A' (l ++ l).length c') :: Γ) w')
    (hc : cL ops Γ k t n = true := by kernel_rfl) (he : apE P (ev Γ) (opAt ops k) = some (.slice (some ⟨b, 0, none⟩) l.length c, .slice (some ⟨b, 0, none⟩) l.length c, ty, z, sz, bt) := by kernel_rfl) (hf : ∀ x, (f x).length = sz := by intro _; rfl) (hzs : z.cells.size = sz := by kernel_rfl) (hpos : 0 < sz := by decide)
    (hr' : Rs.getD j default = ⟨ty, sz, some ⟨b, 0, none⟩, c, l.length, l.flatMap f⟩ := by kernel_rfl) (hj : decide (j < Rs.length) = true := by kernel_rfl) (hm : l.length + l.length ≤ 1099511627776 := by omega) (hb : (l.length + l.length) * bt ≤ 140737488355328 := by omega) : LG P n N R X ops k Γ w := by
  have hj' := of_decide_eq_true hj
  obtain ⟨vs, ho, hv, _⟩ := s.rowO j hr' hj'
  refine lYn t j (l.flatMap f) s (fun i u hu => ?_) (len_flat hf l) (fun u hu => ?_) hj' (rw_get hr' hj') hc he hzs hpos hm hb (fun A' c' w' h' s' => ?_)
  · have h2 := take_get hv hu
    have : (⟨b, 0, none⟩ : Addr).add i = ⟨b, 0 + i, none⟩ := by
      unfold Addr.add
      split
      · rename_i h0; subst h0; rfl
      · rfl
    rw [this, ho.cell, Nat.zero_add]; exact h2
  · obtain ⟨x, hx, hu'⟩ := List.mem_flatMap.1 hu
    exact (List.all_eq_true.1 (h1 x hx)) u hu'
  · have e1 : l.length + l.length = (l ++ l).length := by simp
    rw [flat_row, e1] at s'
    rw [e1]
    exact H A' c' w' h' s'
/-- append of a slice whose elements are told one by one. -/
theorem lYm {α : Type} (t j : Nat) (ty : TypeId) (sz c : Nat) (A : Option Addr) (l : List α) (f : α → List Value) (d : α) (A2 : Option Addr) (m : List α) (c2 bt : Nat) (z : Value) (s : SS w0 h0 w h B Rs F) (so : SlO sz f d h A2 m) (hm0 : 0 < m.length) (h1 : ∀ x ∈ m, (f x).all (·.oneCell') = true)
    (H : ∀ A' c' w' h', SS w0 h0 w' h' B (Rs.set j ⟨ty, sz, A', c', (l ++ m).length, (l ++ m).flatMap f⟩) F → LG P n N R X ops (k + 1) ((t, .slice A' (l ++ m).length c') :: Γ) w')
    (hc : cL ops Γ k t n = true := by kernel_rfl) (he : apE P (ev Γ) (opAt ops k) = some (.slice A l.length c, .slice A2 m.length c2, ty, z, sz, bt) := by kernel_rfl) (hf : ∀ x, (f x).length = sz := by intro _; rfl) (hzs : z.cells.size = sz := by kernel_rfl) (hpos : 0 < sz := by decide)
    (hr : Rs.getD j default = ⟨ty, sz, A, c, l.length, l.flatMap f⟩ := by kernel_rfl) (hj : decide (j < Rs.length) = true := by kernel_rfl) (hm : l.length + m.length ≤ 1099511627776 := by omega) (hb : (l.length + m.length) * bt ≤ 140737488355328 := by omega) : LG P n N R X ops k Γ w := by
  have hj' := of_decide_eq_true hj
  have hA := so.ok hm0
  rw [hA] at he
  refine lYn t j (m.flatMap f) s (seg_newsO s.g (so.flat hf)) (len_flat hf m) (fun u hu => ?_) hj' (rw_get hr hj') hc he hzs hpos hm hb (fun A' c' w' h' s' => ?_)
  · obtain ⟨x, hx', hx⟩ := List.mem_flatMap.1 hu
    exact (List.all_eq_true.1 (h1 x hx')) u hx
  · have e1 : l.length + m.length = (l ++ m).length := by simp
    rw [flat_row, e1] at s'
    rw [e1]
    exact H A' c' w' h' s'
/-- A new row of the function's own, in a drawn region. -/
theorem eRw {α : Type} (i t : Nat) (ty : TypeId) (sz : Nat) (f : α → List Value) (l : List α) (s : SS w0 h0 w h B Rs F) (H : ∀ b w' h', SS w0 h0 w' h' B (⟨ty, sz, some ⟨b, 0, none⟩, l.length, l.length, l.flatMap f⟩ :: Rs) F → EG M P n N R X ops k0 hr AL (L.setIfInBounds i true) ((t, .slice (some ⟨b, 0, none⟩) l.length l.length) :: Γ) w' h') (hc : cEv n ops k0 AL L Γ i t = true := by kernel_rfl)
    (hv : ∀ w, (execOp (ev Γ) (opAt ops i)).run P w = .ok (.value (.slice (some ⟨w.heap.size, 0, none⟩) l.length l.length)) (w.alloc (.cells (l.flatMap f).toArray ty (0, 0))) := by intro _; kernel_rfl) (hf : ∀ x, (f x).length = sz := by intro _; rfl) (hm : Nat.ble l.length 1000 = true := by kernel_rfl) : EG M P n N R X ops k0 hr AL L Γ w h :=
  Rg.event i t (cEv_1 hc).1 (cEv_1 hc).2 (fun w1 h1 u => .inl ⟨_, _, _, hv w1, (Up.allocAny (s.step u).g _ _ (.inr rfl)).m M.l, H _ _ _ ((s.step u).newr ty hf (by have := Nat.le_of_ble_eq_true hm; unfold maxLen; omega))⟩)
/-- append of a slice that is read, in a drawn region. -/
theorem eYm {α : Type} (i t j : Nat) (ty : TypeId) (sz c : Nat) (A : Option Addr) (l : List α) (f : α → List Value) (d : α) (A2 : Option Addr) (m : List α) (c2 bt : Nat) (z : Value) (s : SS w0 h0 w h B Rs F) (so : ∀ h, AllF F h → SlO sz f d h A2 m) (hm0 : 0 < m.length) (h1 : ∀ x ∈ m, (f x).all (·.oneCell') = true) (hMv : ∀ b, (Value.slice A l.length c).ownBlock = some b → b ∈ M.l)
    (H : ∀ A' c' w' h', SS w0 h0 w' h' B (Rs.set j ⟨ty, sz, A', c', (l ++ m).length, (l ++ m).flatMap f⟩) F → EG M P n N R X ops k0 hr AL (L.setIfInBounds i true) ((t, .slice A' (l ++ m).length c') :: Γ) w' h')
    (hc : cEv n ops k0 AL L Γ i t = true := by kernel_rfl) (he : apE P (ev Γ) (opAt ops i) = some (.slice A l.length c, .slice A2 m.length c2, ty, z, sz, bt) := by kernel_rfl) (hf : ∀ x, (f x).length = sz := by intro _; rfl) (hzs : z.cells.size = sz := by kernel_rfl) (hpos : 0 < sz := by decide)
    (hr' : Rs.getD j default = ⟨ty, sz, A, c, l.length, l.flatMap f⟩ := by kernel_rfl) (hj : decide (j < Rs.length) = true := by kernel_rfl) (hm : l.length + m.length ≤ 1099511627776 := by omega) (hb : (l.length + m.length) * bt ≤ 140737488355328 := by omega) : EG M P n N R X ops k0 hr AL L Γ w h := by
  have hj' := of_decide_eq_true hj
  refine Rg.event i t (cEv_1 hc).1 (cEv_1 hc).2 (fun w1 h1' u => ?_)
  have s1 := s.step u
  have so1 := so _ s1.f
  rw [so1.ok hm0] at he
  obtain ⟨x', y, ty', ho, hx, hy, hu, hi⟩ := apE_op he
  have r := s1.ro _ (List.getElem_mem hj')
  have er := rw_get hr' hj'
  rw [er] at r
  obtain ⟨v', w', hrun, ow, gr, hloc⟩ := app_run (P := P) ho hx hy hu hi hzs hpos s1.st r (len_flat hf m) (seg_newsO s1.g (so1.flat hf)) (fun u hu => by
    obtain ⟨x, hx', hx⟩ := List.mem_flatMap.1 hu
    exact (List.all_eq_true.1 (h1 x hx')) u hx) hm hb
  have hg := s1.grown (j := j) hj' (w' := w') (v' := v') (m2 := m.length) (news := m.flatMap f) (by rw [er]; exact ow) (by rw [er]; exact gr) (by rw [er]; exact hloc)
  rw [er] at hg
  obtain ⟨h', A', c', rfl, e2, s'⟩ := hg
  have e1 : l.length + m.length = (l ++ m).length := by simp
  simp only [] at s'
  rw [flat_row, e1] at s'
  rw [e1] at hrun
  exact .inl ⟨_, w', h', hrun, ⟨⟨gr.os, gr.tape, gr.output, gr.size, fun c hc hn => gr.block c hc (fun e => hn (hMv c e.symm))⟩, e2, s'.g⟩, H A' c' w' h' s'⟩
end laws
theorem imax2 (x y : Int) : (if y > x then y else x) = max x y := by omega
theorem imin2 (x y : Int) : (if y < x then y else x) = min x y := by omega
end Go.Proofs.YtmkonbkdjmfjhaaGreatDoor
