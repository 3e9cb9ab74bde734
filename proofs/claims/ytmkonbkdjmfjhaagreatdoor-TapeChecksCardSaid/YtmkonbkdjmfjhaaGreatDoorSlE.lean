/- The engine: slices that are read. No program in sight. -/
import Derived.Test.YtmkonbkdjmfjhaaGreatDoorEngD
import Derived.WalkKit
import Derived.Laws.MakeOwn
namespace Go.Proofs.YtmkonbkdjmfjhaaGreatDoor
open Go.RowKit

/-- A cell of a ghost heap. -/
def hcell (h : Hp) (b i : Nat) : Option Value :=
  match h[b]? with
  | some (.cells c _ _) => c[i]?
  | _ => none
/-- The ghost heap has grown, or blocks of the function's own have been handed out. -/
structure Gw (h h' : Hp) : Prop where
  size : h.size ≤ h'.size
  blk : ∀ b : Nat, b < h.size → h'[b]? = h[b]? ∨ h[b]? = some junk
theorem Gr.gw {h h' : Hp} (u : Gr h h') : Gw h h' := ⟨u.size, fun b hb => .inl (u.blk b hb)⟩
theorem hcell_gw {h h' : Hp} (u : Gw h h') {b i : Nat} {v : Value} (e : hcell h b i = some v) : hcell h' b i = some v := by
  unfold hcell at *
  cases hb : h[b]? with
  | none => rw [hb] at e; cases e
  | some o =>
    rcases u.blk b (lt_of_some hb) with h1 | h1
    · rw [h1]; exact e
    · rw [h1] at e; simp [junk] at e
theorem hcell_w {w : World} {h : Hp} (g : G w h) {b i : Nat} {v : Value} (e : hcell h b i = some v) : w.cell? ⟨b, i, none⟩ = some v := by
  unfold hcell at e
  rcases g.blk b with h1 | h1
  · unfold World.cell?
    rw [← h1]
    cases hb : h[b]? with
    | none => rw [hb] at e; cases e
    | some o => rw [hb] at e; cases o <;> simp at e ⊢ <;> exact e
  · rw [h1] at e; simp [junk] at e
/-- The cells cs lie in block b from o on. -/
def Seg (h : Hp) (b o : Nat) (cs : List Value) : Prop := ∀ (i : Nat) (v : Value), cs[i]? = some v → hcell h b (o + i) = some v
theorem Seg.gw {h h' : Hp} {b o : Nat} {cs : List Value} (s : Seg h b o cs) (u : Gw h h') : Seg h' b o cs := fun i v hv => hcell_gw u (s i v hv)
theorem hcell_wm {M : List Nat} {w w' : World} {h : Hp} (g : G w h) (x : Mo M w w') (hM : ∀ b ∈ M, h[b]? = some junk) {b i : Nat} {v : Value} (e : hcell h b i = some v) : w'.cell? ⟨b, i, none⟩ = some v := by
  have hnm : b ∉ M := fun hm => by
    unfold hcell at e
    rw [hM b hm] at e
    simp [junk] at e
  have hc := hcell_w g e
  have hl : b < w.heap.size := by
    rcases Nat.lt_or_ge b w.heap.size with hl | hl
    · exact hl
    · unfold World.cell? at hc; rw [Array.getElem?_eq_none hl] at hc; cases hc
  rw [World.cell?_of_block (w := w) (a := ⟨b, i, none⟩) (x.blk b hl hnm)]; exact hc
theorem Seg.runM {α : Type} {M : List Nat} {P : Program} {w w' : World} {h : Hp} {b o : Nat} {cs : List Value} {s : Sem α} {r : α} (sg : Seg h b o cs) (g : G w h) (hM : ∀ b ∈ M, h[b]? = some junk) (x : Mo M w w') (he : evalL P s cs = some (r, mka b o cs.length)) : s.run P w' = .ok r w' :=
  evalL_run _ _ _ _ he (fun i a v ha hv => by rw [mka_get _ _ _ _ _ ha]; exact hcell_wm g x hM (sg i v hv))
theorem Seg.run {α : Type} {P : Program} {w w' : World} {h : Hp} {b o : Nat} {cs : List Value} {s : Sem α} {r : α} (sg : Seg h b o cs) (g : G w h) (x : Ext w w') (he : evalL P s cs = some (r, mka b o cs.length)) : s.run P w' = .ok r w' :=
  evalL_run _ _ _ _ he (fun i a v ha hv => by rw [mka_get _ _ _ _ _ ha]; exact x.some (hcell_w g (sg i v hv)))
theorem Seg.part {h : Hp} {b o : Nat} {cs : List Value} (s : Seg h b o cs) (j n : Nat) : Seg h b (o + j) ((cs.drop j).take n) := fun i v hv => by
  have hi : i < n := by
    rcases Nat.lt_or_ge i n with hl | hl
    · exact hl
    · rw [List.getElem?_eq_none (by simp; omega)] at hv; cases hv
  rw [List.getElem?_take_of_lt hi, List.getElem?_drop] at hv
  rw [Nat.add_assoc]
  exact s (j + i) v hv
theorem Seg.app {h : Hp} {b o : Nat} {cs ds : List Value} (s : Seg h b o cs) (t : Seg h b (o + cs.length) ds) : Seg h b o (cs ++ ds) := fun i v hv => by
  rcases Nat.lt_or_ge i cs.length with hl | hl
  · rw [List.getElem?_append_left hl] at hv; exact s i v hv
  · rw [List.getElem?_append_right hl] at hv
    have := t (i - cs.length) v hv
    rwa [show o + cs.length + (i - cs.length) = o + i by omega] at this
def aB (A : Option Addr) : Nat := match A with | some a => a.block | none => 0
def aO (A : Option Addr) : Nat := match A with | some a => a.off | none => 0
/-- The row of a slice whose elements' cells are told by f. -/
structure SlO {α : Type} (sz : Nat) (f : α → List Value) (d : α) (h : Hp) (A : Option Addr) (l : List α) : Prop where
  ok : 0 < l.length → A = some ⟨aB A, aO A, none⟩
  el : ∀ k, k < l.length → Seg h (aB A) (aO A + k * sz) (f (l.getD k d))
theorem SlO.gw {α : Type} {sz : Nat} {f : α → List Value} {d : α} {h h' : Hp} {A : Option Addr} {l : List α} (s : SlO sz f d h A l) (u : Gw h h') : SlO sz f d h' A l := ⟨s.ok, fun k hk => (s.el k hk).gw u⟩
theorem SlO.nil {α : Type} {sz : Nat} {f : α → List Value} {d : α} {h : Hp} {A : Option Addr} : SlO sz f d h A [] := ⟨fun h => by simp at h, fun k hk => by simp at hk⟩
/-- How long a slice may be that the walk reads. -/
def Len (n : Nat) : Prop := n ≤ 1099511627776
def SlV {α : Type} (sz : Nat) (f : α → List Value) (d : α) (h : Hp) (v : Value) (l : List α) : Prop :=
  ∃ A cap, v = .slice A l.length cap ∧ l.length ≤ cap ∧ SlO sz f d h A l
theorem SlV.gw {α : Type} {sz : Nat} {f : α → List Value} {d : α} {h h' : Hp} {v : Value} {l : List α} (s : SlV sz f d h v l) (u : Gw h h') : SlV sz f d h' v l := by
  obtain ⟨A, cap, e, hc, so⟩ := s
  exact ⟨A, cap, e, hc, so.gw u⟩

theorem SlO.of_flat {α : Type} {sz : Nat} {f : α → List Value} {d : α} {h : Hp} {b o : Nat} {l : List α} (hf : ∀ x, (f x).length = sz) (s : Seg h b o (l.flatMap f)) : SlO sz f d h (some ⟨b, o, none⟩) l := by
  refine ⟨fun _ => rfl, ?_⟩
  induction l generalizing o with
  | nil => intro k hk; simp at hk
  | cons x l ih =>
    intro k hk
    cases k with
    | zero =>
      have := s.part 0 sz
      simp only [List.flatMap_cons, Nat.add_zero, List.drop_zero] at this
      rw [List.take_append_of_le_length (by rw [hf]; exact Nat.le_refl _), ← hf x, List.take_length] at this
      simpa [aB, aO] using this
    | succ k =>
      have hs : Seg h b (o + sz) (l.flatMap f) := fun i v hv => by
        have := s (sz + i) v (by rw [List.flatMap_cons, List.getElem?_append_right (by rw [hf]; omega), hf]; simpa using hv)
        rwa [← Nat.add_assoc] at this
      have := ih hs k (by simpa using hk)
      simp only [aB, aO, List.getD_cons_succ] at this ⊢
      rw [Nat.succ_mul, Nat.add_comm (k * sz) sz, ← Nat.add_assoc]
      exact this
theorem Seg.new {h : Hp} (cs : List Value) (ty : TypeId) : Seg (h.push (.cells cs.toArray ty (0, 0))) h.size 0 cs := fun i v hv => by
  unfold hcell
  rw [Array.getElem?_push_size]
  simpa using hv
theorem len_flat {α : Type} {f : α → List Value} {sz : Nat} (hf : ∀ x, (f x).length = sz) (l : List α) : (l.flatMap f).length = l.length * sz := by
  induction l with
  | nil => simp
  | cons x l ih => simp only [List.flatMap_cons, List.length_append, ih, hf, List.length_cons, Nat.succ_mul]; omega
theorem drop_flat {α : Type} {f : α → List Value} {sz : Nat} (hf : ∀ x, (f x).length = sz) (d : α) : ∀ (l : List α) (k : Nat), k < l.length → ((l.flatMap f).drop (k * sz)).take sz = f (l.getD k d)
  | [], k, h => by simp at h
  | x :: l, 0, h => by
    simp only [List.flatMap_cons, Nat.zero_mul, List.drop_zero, List.getD_cons_zero]
    rw [List.take_append_of_le_length (by rw [hf]; exact Nat.le_refl _), ← hf x, List.take_length]
  | x :: l, k + 1, h => by
    simp only [List.flatMap_cons, List.getD_cons_succ]
    rw [Nat.succ_mul, List.drop_append, hf, show k * sz + sz - sz = k * sz by omega, List.drop_eq_nil_of_le (by rw [hf]; omega), List.nil_append]
    exact drop_flat hf d l k (by simpa using h)
theorem putAt_append (cs : List Value) : ∀ (a b : List Value) (o : Nat), putAt (a ++ b) (a.length + o) cs = a ++ putAt b o cs := by
  induction cs with
  | nil => intro a b o; rfl
  | cons c cs ih =>
    intro a b o
    show putAt ((a ++ b).set (a.length + o) c) (a.length + o + 1) cs = a ++ putAt (b.set o c) (o + 1) cs
    rw [List.set_append_right _ _ (by omega), show a.length + o - a.length = o by omega, Nat.add_assoc]
    exact ih a (b.set o c) (o + 1)
theorem putAt_pre : ∀ (cs a b : List Value), a.length = cs.length → putAt (a ++ b) 0 cs = cs ++ b := by
  intro cs
  induction cs with
  | nil => intro a b h; have : a = [] := List.eq_nil_of_length_eq_zero (by simpa using h); subst this; rfl
  | cons c cs ih =>
    intro a b h
    cases a with
    | nil => simp at h
    | cons y a =>
      show putAt (c :: (a ++ b)) (0 + 1) cs = c :: (cs ++ b)
      have := putAt_append cs [c] (a ++ b) 0
      simp only [List.length_singleton, List.singleton_append] at this
      rw [show 0 + 1 = 1 + 0 by omega, this, ih a b (by simpa using h)]
theorem putAt_flat {α : Type} {f : α → List Value} {sz : Nat} (hf : ∀ x, (f x).length = sz) : ∀ (l : List α) (k : Nat) (x : α), k < l.length → putAt (l.flatMap f) (k * sz) (f x) = (l.set k x).flatMap f
  | [], k, x, h => by simp at h
  | y :: l, 0, x, h => by
    simp only [List.flatMap_cons, Nat.zero_mul, List.set_cons_zero]
    exact putAt_pre _ _ _ (by rw [hf, hf])
  | y :: l, k + 1, x, h => by
    simp only [List.flatMap_cons, List.set_cons_succ]
    rw [Nat.succ_mul, Nat.add_comm, ← hf y, putAt_append, hf y, putAt_flat hf l k x (by simpa using h)]
/-- A variable of the function's own is handed out. -/
theorem St.pub {w0 : World} {h0 : Hp} {w : World} {h : Hp} {B : List Bx} (s : St w0 h0 w h B) (j : Nat) (hj : j < B.length) : ∃ h', St w0 h0 w h' (B.eraseIdx j) ∧ Gw h h' ∧ Seg h' (bxAt B j).b 0 (bxAt B j).vs ∧ ∀ c, c ≠ (bxAt B j).b → h'[c]? = h[c]? := by
  have hm := bxAt_mem hj
  have ho := s.own _ hm
  have hjk := s.jk _ hm
  have hlt := lt_of_some hjk
  have hne : ∀ x ∈ B.eraseIdx j, x.b ≠ (bxAt B j).b := by
    intro x hx
    obtain ⟨i, hi, he⟩ := List.mem_iff_getElem.1 hx
    rw [List.getElem_eraseIdx] at he
    intro hb
    have hnd := s.nd
    have e0 : (bxAt B j) = B[j] := by unfold bxAt; simp [hj]
    split at he
    · rename_i hl
      have : (B.map (·.b))[i]'(by simp; omega) = (B.map (·.b))[j]'(by simpa using hj) := by simp only [List.getElem_map]; rw [he, hb, e0]
      have := (List.getElem_inj hnd).1 this
      omega
    · rename_i hl
      have hi' : i + 1 < B.length := by rw [List.length_eraseIdx_of_lt hj] at hi; omega
      have : (B.map (·.b))[i + 1]'(by simpa using hi') = (B.map (·.b))[j]'(by simpa using hj) := by simp only [List.getElem_map]; rw [he, hb, e0]
      have := (List.getElem_inj hnd).1 this
      omega
  refine ⟨h.setIfInBounds (bxAt B j).b (.cells (bxAt B j).vs.toArray (bxAt B j).t (0, 0)), ⟨⟨s.up.ext, ⟨by simp; exact s.up.gr.size, fun b hb => ?_⟩, ⟨by simp; exact s.up.g.size, fun b => ?_⟩⟩, ?_, ?_, ?_, ?_⟩, ⟨by simp, fun b hb => ?_⟩, ?_, fun c hc => Array.getElem?_setIfInBounds_ne (Ne.symm hc)⟩
  · have := s.lo _ hm
    rw [Array.getElem?_setIfInBounds_ne (by omega)]; exact s.up.gr.blk b hb
  · by_cases e : (bxAt B j).b = b
    · subst e
      left
      rw [Array.getElem?_setIfInBounds_self_of_lt hlt]
      exact ho.symm
    · rw [Array.getElem?_setIfInBounds_ne e]; exact s.up.g.blk b
  · exact fun x hx => s.own x (List.mem_of_mem_eraseIdx hx)
  · intro x hx
    rw [Array.getElem?_setIfInBounds_ne (Ne.symm (hne x hx))]; exact s.jk x (List.mem_of_mem_eraseIdx hx)
  · exact fun x hx => s.lo x (List.mem_of_mem_eraseIdx hx)
  · exact s.nd.sublist ((List.eraseIdx_sublist B j).map (·.b))
  · by_cases e : (bxAt B j).b = b
    · subst e; exact .inr hjk
    · left; rw [Array.getElem?_setIfInBounds_ne e]
  · intro i v hv
    unfold hcell
    rw [Array.getElem?_setIfInBounds_self_of_lt hlt]
    simpa using hv
section rows
variable {M : Ms} {P : Program} {n : Nat} {N R : Po} {X : Nat → Po} {ops : Array Oper} {k0 : Nat} {hr : Hp} {AL : List Al} {L : Array Bool} {Γ : Env} {w : World} {h : Hp}
/-- A new row that is not written again. -/
theorem LG.row {k : Nat} (t : Nat) (ty : TypeId) (m : Nat) (cs : List Value) (g : G w h) (hc : (chkL ops Γ k && ((opAt ops k).dst == some t) && decide (t < n)) = true) (hw : wantE ops Γ (opAt ops k) = some true)
    (hrun : (execOp (ev Γ) (opAt ops k)).run P w = .ok (.value (.slice (some ⟨w.heap.size, 0, none⟩) m m)) (w.alloc (.cells cs.toArray ty (0, 0))))
    (H : ∀ b w' h', Up w h w' h' → Seg h' b 0 cs → LG P n N R X ops (k + 1) ((t, .slice (some ⟨b, 0, none⟩) m m) :: Γ) w') : LG P n N R X ops k Γ w :=
  LG.val t _ _ hc hw hrun (H _ _ _ (Up.allocAny g _ _ (.inl rfl)) (by rw [g.size]; exact Seg.new cs ty))
theorem Rg.row (i t : Nat) (ty : TypeId) (m : Nat) (cs : List Value) (hc : (chkEv n ops k0 AL L i t && knownOp Γ (opAt ops i)) = true) (hw : wantE ops Γ (opAt ops i) = some true)
    (hrun : ∀ w, (execOp (ev Γ) (opAt ops i)).run P w = .ok (.value (.slice (some ⟨w.heap.size, 0, none⟩) m m)) (w.alloc (.cells cs.toArray ty (0, 0))))
    (H : ∀ b w' h', Up w h w' h' → Seg h' b 0 cs → EG M P n N R X ops k0 hr AL (L.setIfInBounds i true) ((t, .slice (some ⟨b, 0, none⟩) m m) :: Γ) w' h') : EG M P n N R X ops k0 hr AL L Γ w h :=
  Rg.event i t hc hw (fun w' h' u => .inl ⟨_, _, _, hrun w', (Up.allocAny u.g _ _ (.inl rfl)).m M.l, H _ _ _ (u.trans (Up.allocAny u.g _ _ (.inl rfl))) (by rw [u.g.size]; exact Seg.new cs ty)⟩)
/-- An own array's element. -/
theorem Rg.ownA {w0 : World} {h0 : Hp} {B : List Bx} {α : Type} (i t j : Nat) (l : List α) (f : α → List Value) (sz : Nat) (d : α) (e : Nat) (v : Value) (s : St w0 h0 w h B) (hc : (chkTake n ops k0 AL L i t && knownOp Γ (opAt ops i) && chkTail ops k0 i) = true) (hw : wantE ops Γ (opAt ops i) = some true)
    (hjM : (bxAt B j).b ∉ M.l) (hj : decide (j < B.length) = true) (hB : (bxAt B j).vs = l.flatMap f) (hf : ∀ x, (f x).length = sz) (hk : e < l.length)
    (he : evalL P (execOp (ev Γ) (opAt ops i)) (f (l.getD e d)) = some (.value v, mka (bxAt B j).b (0 + e * sz) (f (l.getD e d)).length))
    (k : EG M P n N R X ops k0 hr AL (L.setIfInBounds i true) ((t, v) :: Γ) w h) : EG M P n N R X ops k0 hr AL L Γ w h :=
  Rg.load i t v hc hw (fun w' hx => evalL_run _ _ _ _ he (fun q a u ha hu => by
    rw [mka_get _ _ _ _ _ ha, ((s.own _ (bxAt_mem (of_decide_eq_true hj))).mo hx hjM).cell, hB]
    rw [← drop_flat hf d l e hk] at hu
    have hq : q < sz := by
      rcases Nat.lt_or_ge q sz with hl | hl
      · exact hl
      · rw [List.getElem?_eq_none (by simp; omega)] at hu; cases hu
    rw [List.getElem?_take_of_lt hq, List.getElem?_drop] at hu
    rw [Nat.zero_add]; exact hu)) k
theorem LG.ownA {w0 : World} {h0 : Hp} {B : List Bx} {α : Type} {k : Nat} (t j : Nat) (l : List α) (f : α → List Value) (sz : Nat) (d : α) (e : Nat) (v : Value) (s : St w0 h0 w h B) (hc : (chkL ops Γ k && ((opAt ops k).dst == some t) && decide (t < n)) = true) (hw : wantE ops Γ (opAt ops k) = some true)
    (hj : decide (j < B.length) = true) (hB : (bxAt B j).vs = l.flatMap f) (hf : ∀ x, (f x).length = sz) (hk : e < l.length)
    (he : evalL P (execOp (ev Γ) (opAt ops k)) (f (l.getD e d)) = some (.value v, mka (bxAt B j).b (0 + e * sz) (f (l.getD e d)).length))
    (H : LG P n N R X ops (k + 1) ((t, v) :: Γ) w) : LG P n N R X ops k Γ w :=
  LG.val t v w hc hw (evalL_run _ _ _ _ he (fun q a u ha hu => by
    rw [mka_get _ _ _ _ _ ha, (s.own _ (bxAt_mem (of_decide_eq_true hj))).cell, hB]
    rw [← drop_flat hf d l e hk] at hu
    have hq : q < sz := by
      rcases Nat.lt_or_ge q sz with hl | hl
      · exact hl
      · rw [List.getElem?_eq_none (by simp; omega)] at hu; cases hu
    rw [List.getElem?_take_of_lt hq, List.getElem?_drop] at hu
    rw [Nat.zero_add]; exact hu)) H
/-- A new array of the function's own. -/
theorem LG.arr {w0 : World} {h0 : Hp} {B : List Bx} {k : Nat} (t : Nat) (ty : TypeId) (m : Nat) (vs : List Value) (s : St w0 h0 w h B) (hc : (chkL ops Γ k && ((opAt ops k).dst == some t) && decide (t < n)) = true) (hw : wantE ops Γ (opAt ops k) = some true)
    (hrun : (execOp (ev Γ) (opAt ops k)).run P w = .ok (.value (.slice (some ⟨w.heap.size, 0, none⟩) m m)) (w.alloc (.cells vs.toArray ty (0, 0))))
    (H : ∀ b w' h', h.size ≤ b → Up w h w' h' → St w0 h0 w' h' (⟨b, ty, vs⟩ :: B) → LG P n N R X ops (k + 1) ((t, .slice (some ⟨b, 0, none⟩) m m) :: Γ) w') : LG P n N R X ops k Γ w := by
  have u : Up w h (w.alloc (.cells vs.toArray ty (0, 0))) (h.push junk) := Up.allocAny s.g _ _ (.inr rfl)
  refine LG.val t _ _ hc hw hrun (H _ _ _ (by rw [s.g.size]; exact Nat.le_refl _) u (St.new1 (x := ⟨0, 0, .cells vs.toArray ty (0, 0)⟩) s (s.step u) ⟨?_, ?_, ?_⟩ ty vs rfl))
  · rw [heap_alloc]; exact Array.getElem?_push_size
  · rw [s.g.size]; exact Array.getElem?_push_size
  · show h.size ≤ w.heap.size; rw [s.g.size]; exact Nat.le_refl _
def setV (B : List Bx) (j : Nat) (vs : List Value) : List Bx := B.set j { bxAt B j with vs := vs }
/-- A store into an own array. -/
theorem LG.putA {w0 : World} {h0 : Hp} {B : List Bx} {α : Type} {k : Nat} (j : Nat) (l : List α) (f : α → List Value) (sz e : Nat) (x : α) (s : St w0 h0 w h B) (g0 : G w0 h0) (hc : (chkL ops Γ k && ((opAt ops k).dst == none)) = true) (hw : wantE ops Γ (opAt ops k) = some true)
    (hj : decide (j < B.length) = true) (hB : (bxAt B j).vs = l.flatMap f) (hf : ∀ x, (f x).length = sz) (hk : e < l.length)
    (he : evalW P (execOp (ev Γ) (opAt ops k)) = some (.skip, mkl (bxAt B j).b (0 + e * sz) (f x)))
    (H : ∀ w', Put (bxAt B j).b w w' → St w0 h0 w' h (setV B j ((l.set e x).flatMap f)) → LG P n N R X ops (k + 1) Γ w') : LG P n N R X ops k Γ w := by
  have hj' := of_decide_eq_true hj
  have hle : (0 + e * sz) + (f x).length ≤ (bxAt B j).vs.length := by
    rw [hB, len_flat hf, hf, Nat.zero_add, ← Nat.succ_mul]
    exact Nat.mul_le_mul_right _ hk
  obtain ⟨w', hrun, hput, hown⟩ := evalW_run _ _ _ _ _ w he (s.own _ (bxAt_mem hj')) hle
  have hst := s.put g0 hj' hput hown
  refine LG.store w' hc hw hrun (H w' hput ?_)
  unfold setB at hst
  rw [hB, Nat.zero_add, putAt_flat hf l e x hk] at hst
  exact hst
theorem T.putA {w0 : World} {h0 : Hp} {B : List Bx} {α : Type} (i j : Nat) (l : List α) (f : α → List Value) (sz e : Nat) (x : α) (s : St w0 h0 w h B) (g0 : G w0 h0) (hc : (chkT ops k0 L i && knownOp Γ (opAt ops i) && ((opAt ops i).dst == none)) = true) (hw : wantE ops Γ (opAt ops i) = some true)
    (hj : decide (j < B.length) = true) (hB : (bxAt B j).vs = l.flatMap f) (hf : ∀ x, (f x).length = sz) (hk : e < l.length)
    (he : evalW P (execOp (ev Γ) (opAt ops i)) = some (.skip, mkl (bxAt B j).b (0 + e * sz) (f x)))
    (H : ∀ w', Put (bxAt B j).b w w' → St w0 h0 w' h (setV B j ((l.set e x).flatMap f)) → AG M P n N R X ops k0 (L.setIfInBounds i true) Γ w') (hz : ∀ K bs, M.z = some (K, bs) → K ≤ (bxAt B j).b ∨ (bxAt B j).b ∈ bs := by intro _ _ e; cases e) : AG M P n N R X ops k0 L Γ w := by
  have hj' := of_decide_eq_true hj
  have hle : (0 + e * sz) + (f x).length ≤ (bxAt B j).vs.length := by
    rw [hB, len_flat hf, hf, Nat.zero_add, ← Nat.succ_mul]
    exact Nat.mul_le_mul_right _ hk
  obtain ⟨w', hrun, hput, hown⟩ := evalW_run _ _ _ _ _ w he (s.own _ (bxAt_mem hj')) hle
  have hst := s.put g0 hj' hput hown
  refine T.store i w' hc hw hrun (hput.tl hz) (H w' hput ?_)
  unfold setB at hst
  rw [hB, Nat.zero_add, putAt_flat hf l e x hk] at hst
  exact hst
end rows
theorem beqT {a b : Int} (h : a = b) : (a == b) = true := by simpa using h
theorem beqF {a b : Int} (h : a ≠ b) : (a == b) = false := by simpa using h
theorem bneT {a b : Int} (h : a ≠ b) : (a != b) = true := by simpa using h
theorem bneF {a b : Int} (h : a = b) : (a != b) = false := by simpa using h
theorem St.drop {w0 : World} {h0 : Hp} {w : World} {h : Hp} {B : List Bx} (s : St w0 h0 w h B) (k : Nat) : St w0 h0 w h (B.drop k) :=
  ⟨s.up, fun x hx => s.own x (List.mem_of_mem_drop hx), fun x hx => s.jk x (List.mem_of_mem_drop hx), fun x hx => s.lo x (List.mem_of_mem_drop hx), s.nd.sublist ((List.drop_sublist k B).map (·.b))⟩
theorem eqOfBne {a b : Int} (h : (a != b) = false) : a = b := by simpa using h
theorem neOfBne {a b : Int} (h : (a != b) = true) : a ≠ b := by simpa using h
theorem neOfBeq {a b : Int} (h : (a == b) = false) : a ≠ b := by simpa using h
theorem flat_get {α : Type} {f : α → List Value} {x0 : α} {sz : Nat} (hf : (f x0).length = sz) (hpos : 0 < sz) : ∀ (m i : Nat), i < m * sz → ((List.replicate m x0).flatMap f)[i]? = (f x0)[i % sz]?
  | 0, i, h => by simp at h
  | m + 1, i, h => by
    rw [List.replicate_succ, List.flatMap_cons]
    rcases Nat.lt_or_ge i sz with hl | hl
    · rw [List.getElem?_append_left (by omega), Nat.mod_eq_of_lt hl]
    · rw [List.getElem?_append_right (by omega), hf, flat_get hf hpos m (i - sz) (by rw [Nat.succ_mul] at h; omega)]
      congr 1
      rw [Nat.mod_eq_sub_mod hl]
theorem made_flat {α : Type} {f : α → List Value} {x0 : α} {z : Value} {sz m : Nat} (hzc : z.cells.toList = f x0) (hzs : z.cells.size = sz) (hpos : 0 < sz) : madeCells z.cells (m * sz) = ((List.replicate m x0).flatMap f).toArray := by
  have hf : (f x0).length = sz := by rw [← hzc]; simpa using hzs
  apply Array.ext_getElem?
  intro i
  rw [show ((List.replicate m x0).flatMap f).toArray[i]? = ((List.replicate m x0).flatMap f)[i]? from by simp]
  rcases Nat.lt_or_ge i (m * sz) with hl | hl
  · rw [flat_get hf hpos m i hl, ← hzc]
    have hm : i % sz < z.cells.size := by rw [hzs]; exact Nat.mod_lt _ hpos
    simp only [madeCells, Array.getElem?_map, Array.getElem?_range, hl, if_true, Option.map_some, hzs, Array.getElem?_toList]
    rw [Array.getElem?_eq_getElem hm, getElem!_pos z.cells (i % sz) hm]
  · rw [Array.getElem?_eq_none (by rw [size_madeCells]; exact hl), List.getElem?_eq_none]
    have : ∀ m, ((List.replicate m x0).flatMap f).length = m * sz := by
      intro m
      induction m with
      | zero => simp
      | succ m ih => rw [List.replicate_succ, List.flatMap_cons, List.length_append, ih, hf, Nat.succ_mul]; omega
    rw [this]; exact hl
section ops
variable {P : Program} {Γ : Env} {o : Oper}
/-- The address of an element. -/
theorem ixAddr {t e : TypeId} {x ix : Operand} {A : Option Addr} {len cap sz : Nat} {i : Int} (k : Nat) (ho : o.op = .indexAddr t x ix) (hx : ev Γ x = .slice A len cap) (hi : ev Γ ix = .int .i64 i)
    (hu : P.underlying t = some (.slice e)) (hs : (P.info? e).map (·.size) = some sz) (hA : A = some ⟨aB A, aO A, none⟩) (hk : i = k) (hlt : k < len) (w : World) :
    (execOp (ev Γ) o).run P w = .ok (.value (.pointer (some ⟨aB A, aO A + k * sz, none⟩))) w := by
  subst hk
  unfold execOp
  simp only [ho]
  rw [hx, hi]
  have hel : P.elem t = e := by unfold Program.elem; rw [hu]
  have h1 := run_indexAt_slice (P := P) w t ⟨aB A, aO A, none⟩ len cap .i64 (k : Int) (by rw [hel]; exact hu)
  rw [if_pos ⟨by omega, by omega⟩, hel] at h1
  have h2 : (sizeOf e).run P w = .ok sz w := by
    cases hi2 : P.info? e with
    | none => rw [hi2] at hs; cases hs
    | some i =>
      rw [hi2] at hs
      simp at hs
      simp [sizeOf, typeInfo, hi2, hs]
  rw [h2] at h1
  have e3 : ((⟨aB A, aO A, none⟩ : Addr).add ((k : Int).toNat * sz)) = ⟨aB A, aO A + k * sz, none⟩ := by
    unfold Addr.add
    simp only [Int.toNat_natCast]
    split
    · rename_i h0; rw [h0]; rfl
    · rfl
  simp only [Result.andThen] at h1
  rw [e3] at h1
  rw [← hA] at h1
  rw [Sem.run_bind, h1]
  rfl
/-- What make lays. -/
theorem mkSl {t e : TypeId} {x y : Operand} {z : Value} {m sz bt : Nat} {α : Type} {f : α → List Value} {x0 : α} (ho : o.op = .makeSlice t x y) (hx : ev Γ x = .int .i64 (m : Int)) (hy : ev Γ y = .int .i64 (m : Int))
    (hu : P.underlying t = some (.slice e)) (hi : (P.info? e).map (fun i => (i.zero, i.size, i.bytes)) = some (some z, sz, bt)) (hzc : z.cells.toList = f x0) (hzs : z.cells.size = sz) (hpos : 0 < sz) (hm : bt * m ≤ 140737488355328) (hm2 : m < 9223372036854775808) (w : World) :
    (execOp (ev Γ) o).run P w = .ok (.value (.slice (some ⟨w.heap.size, 0, none⟩) m m)) (w.alloc (.cells ((List.replicate m x0).flatMap f).toArray e (0, 0))) := by
  cases hinf : P.info? e with
  | none => rw [hinf] at hi; cases hi
  | some inf =>
    rw [hinf] at hi
    simp only [Option.map_some, Option.some.injEq, Prod.mk.injEq] at hi
    obtain ⟨h1, h2, h3⟩ := hi
    unfold execOp
    simp only [ho]
    have hb : (inf.bytes : Int) * (m : Int) ≤ 281474976710656 := by
      rw [h3]
      have : ((bt * m : Nat) : Int) ≤ 281474976710656 := by omega
      simpa using this
    rw [hx, hy, Sem.run_bind, run_make (P := P) w t e inf z hu hinf h1 .i64 .i64 (m : Int) (m : Int) (by omega) (by omega) hb (by omega)]
    simp only [Result.andThen, Int.toNat_natCast, h2]
    rw [made_flat hzc hzs hpos]
    rfl
/-- A slice's beginning. -/
theorem slTo {t e : TypeId} {x hi : Operand} {A : Option Addr} {len cap : Nat} {i : Int} (k : Nat) (ho : o.op = .slice t x none (some hi) none) (hx : ev Γ x = .slice A len cap) (hi' : ev Γ hi = .int .i64 i)
    (hu : P.underlying t = some (.slice e)) (hs : (P.info? e).isSome = true) (hk : i = k) (hlt : k ≤ cap) (w : World) :
    (execOp (ev Γ) o).run P w = .ok (.value (.slice A k cap)) w := by
  subst hk
  obtain ⟨inf, hinf⟩ := Option.isSome_iff_exists.1 hs
  unfold execOp
  simp only [ho, Option.map_none, Option.map_some]
  rw [hx, hi']
  have e0 : ∀ a : Addr, a.add 0 = a := fun a => by unfold Addr.add; simp
  have e1 : A.map (fun a => a.add (0 * inf.size)) = A := by cases A <;> simp [e0]
  simp [Instr.sliceAt, Instr.slice, Instr.sliceBounds, Instr.sliceBound, run_underlying hu, asIntOf, sizeOf, typeInfo, hinf, Result.andThen, hlt]
  intro _
  cases A <;> simp [e0]
/-- A slice from k on. -/
theorem slFrom {t e : TypeId} {x lo' : Operand} {A : Option Addr} {len cap sz : Nat} {i : Int} (k : Nat) (ho : o.op = .slice t x (some lo') none none) (hx : ev Γ x = .slice A len cap) (hi' : ev Γ lo' = .int .i64 i)
    (hu : P.underlying t = some (.slice e)) (hs : (P.info? e).map (·.size) = some sz) (hk : i = k) (hlt : k ≤ len) (w : World) :
    (execOp (ev Γ) o).run P w = .ok (.value (.slice (if cap = k then A else A.map (·.add (k * sz))) (len - k) (cap - k))) w := by
  subst hk
  cases hinf : P.info? e with
  | none => rw [hinf] at hs; cases hs
  | some inf =>
    rw [hinf] at hs
    simp at hs
    unfold execOp
    simp only [ho, Option.map_none, Option.map_some]
    rw [hx, hi']
    simp [Instr.sliceAt, Instr.slice, Instr.sliceBounds, Instr.sliceBound, run_underlying hu, asIntOf, sizeOf, typeInfo, hinf, Result.andThen, hlt, hs]
end ops
/-- A cell of ints. -/
def i64c (z : Int) : List Value := [.int .i64 z]
end Go.Proofs.YtmkonbkdjmfjhaaGreatDoor
