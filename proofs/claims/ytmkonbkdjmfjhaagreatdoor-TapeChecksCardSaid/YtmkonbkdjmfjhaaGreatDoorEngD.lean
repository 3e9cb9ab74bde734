/- The engine: a function's own variables, loads, stores, results, contracts. No program in sight. -/
import Derived.Test.YtmkonbkdjmfjhaaGreatDoorEngC
namespace Go.Proofs.YtmkonbkdjmfjhaaGreatDoor
open Go.RowKit

/-- What an operation comes to, the cells that it reads handed in. -/
def evalL {α : Type} (P : Program) : Sem α → List Value → Option (α × List Addr)
  | .pure a, _ => some (a, [])
  | .load _ a k, v :: vs => (evalL P (k v) vs).map fun r => (r.1, a :: r.2)
  | .program k, vs => evalL P (k P) vs
  | .mark _ k, vs => evalL P k vs
  | _, _ => none
theorem evalL_run {α : Type} {P : Program} {w : World} : ∀ (s : Sem α) (vs : List Value) (r : α) (l : List Addr), evalL P s vs = some (r, l) →
    (∀ (i : Nat) a v, l[i]? = some a → vs[i]? = some v → w.cell? a = some v) → s.run P w = .ok r w := by
  intro s
  induction s with
  | pure a => intro vs r l h _; simp [evalL] at h; simp [Sem.run, h.1]
  | load m a k ih =>
    intro vs r l h hc
    cases vs with
    | nil => simp [evalL] at h
    | cons v vs =>
      simp only [evalL, Option.map_eq_some_iff] at h
      obtain ⟨⟨r', l'⟩, h1, h2⟩ := h
      injection h2 with e1 e2
      subst e1
      subst e2
      have h0 := hc 0 a v (by simp) (by simp)
      simp only [Sem.run, h0]
      exact ih v vs _ _ h1 (fun i a' v' ha hv => hc (i + 1) a' v' (by simpa using ha) (by simpa using hv))
  | program k ih => intro vs r l h hc; exact ih P vs r l h hc
  | mark m k ih => intro vs r l h hc; exact ih vs r l h hc
  | _ => intro vs r l h _; simp [evalL] at h
/-- What an operation that writes comes to. -/
def evalW {α : Type} (P : Program) : Sem α → Option (α × List (Addr × Value))
  | .pure a => some (a, [])
  | .store _ _ (.agg _) _ => none
  | .store _ _ (.tuple _) _ => none
  | .store _ a v k => (evalW P k).map fun r => (r.1, (a, v) :: r.2)
  | .program k => evalW P (k P)
  | .mark _ k => evalW P k
  | _ => none
/-- Block b alone has been written. -/
structure Put (b : Nat) (w w' : World) : Prop where
  os : w'.os = w.os
  tape : w'.tape = w.tape
  output : w'.output = w.output
  size : w'.heap.size = w.heap.size
  blk : ∀ c, c ≠ b → w'.heap[c]? = w.heap[c]?
theorem Put.tl {b : Nat} {w w' : World} (p : Put b w w') {M : Ms} (hz : ∀ K bs, M.z = some (K, bs) → K ≤ b ∨ b ∈ bs) : Tl M w w' := fun K bs e => ⟨Nat.le_of_eq p.size.symm, fun c hc hn => p.blk c (fun h => by
  rcases hz K bs e with h1 | h1
  · omega
  · exact hn (h ▸ h1))⟩
theorem Put.refl (b : Nat) (w : World) : Put b w w := ⟨rfl, rfl, rfl, rfl, fun _ _ => rfl⟩
theorem Put.trans {b : Nat} {w1 w2 w3 : World} (p : Put b w1 w2) (q : Put b w2 w3) : Put b w1 w3 :=
  ⟨q.os.trans p.os, q.tape.trans p.tape, q.output.trans p.output, q.size.trans p.size, fun c hc => (q.blk c hc).trans (p.blk c hc)⟩
theorem Put.set (w : World) (p : Addr) (v : Value) : Put p.block w (w.setCell p v) :=
  ⟨rfl, rfl, rfl, by simp, fun c hc => Below.heap_setCell _ _ _ _ hc⟩
def Own (w : World) (b : Nat) (t : TypeId) (vs : List Value) : Prop := w.heap[b]? = some (.cells vs.toArray t (0, 0))
theorem Own.cell {w : World} {b : Nat} {t : TypeId} {vs : List Value} (h : Own w b t vs) (i : Nat) : w.cell? ⟨b, i, none⟩ = vs[i]? := by
  unfold World.cell?; rw [show w.heap[b]? = _ from h]; simp
theorem Own.frozen {w : World} {b : Nat} {t : TypeId} {vs : List Value} (h : Own w b t vs) (i : Nat) : w.frozen? ⟨b, i, none⟩ = false := by
  unfold World.frozen?; rw [show w.heap[b]? = _ from h]; simp
theorem Own.set {w : World} {b : Nat} {t : TypeId} {vs : List Value} (h : Own w b t vs) (i : Nat) (v : Value) : Own (w.setCell ⟨b, i, none⟩ v) b t (vs.set i v) := by
  unfold Own World.setCell
  simp only [Array.getElem?_modify, if_true, show w.heap[b]? = _ from h, Option.map_some]
  simp
theorem Own.lt {w : World} {b : Nat} {t : TypeId} {vs : List Value} (h : Own w b t vs) : b < w.heap.size := by
  rcases Nat.lt_or_ge b w.heap.size with hl | hl
  · exact hl
  · unfold Own at h; rw [Array.getElem?_eq_none hl] at h; cases h
theorem Own.ext {w w' : World} {b : Nat} {t : TypeId} {vs : List Value} (h : Own w b t vs) (x : Ext w w') : Own w' b t vs := (Below.block x b h.lt).trans h
def putAt (vs : List Value) (o : Nat) : List Value → List Value
  | [] => vs
  | c :: cs => putAt (vs.set o c) (o + 1) cs
def mkl (b o : Nat) : List Value → List (Addr × Value)
  | [] => []
  | c :: cs => (⟨b, o, none⟩, c) :: mkl b (o + 1) cs
theorem evalW_run {α : Type} {P : Program} {b : Nat} {t : TypeId} : ∀ (s : Sem α) (r : α) (o : Nat) (cs vs : List Value) (w : World), evalW P s = some (r, mkl b o cs) → Own w b t vs → o + cs.length ≤ vs.length →
    ∃ w', s.run P w = .ok r w' ∧ Put b w w' ∧ Own w' b t (putAt vs o cs) := by
  intro s
  induction s with
  | pure a =>
    intro r o cs vs w h hO _
    simp only [evalW, Option.some.injEq, Prod.mk.injEq] at h
    obtain ⟨h1, h2⟩ := h
    cases cs with
    | nil => exact ⟨w, by simp [Sem.run, h1], Put.refl _ _, hO⟩
    | cons c cs => simp [mkl] at h2
  | store m a v k ih =>
    intro r o cs vs w h hO hl
    have h' : ∃ r', evalW P k = some r' ∧ (r'.1, (a, v) :: r'.2) = (r, mkl b o cs) ∧ (∀ l, v ≠ .agg l) ∧ ∀ l, v ≠ .tuple l := by
      cases v <;> simp only [evalW, Option.map_eq_some_iff] at h <;> first | (obtain ⟨r', h1, h2⟩ := h; exact ⟨r', h1, h2, by simp, by simp⟩) | cases h
    obtain ⟨⟨r', l'⟩, h1, h2, h3, h4⟩ := h'
    injection h2 with e1 e2
    cases cs with
    | nil => simp [mkl] at e2
    | cons c cs =>
      simp only [mkl, List.cons.injEq, Prod.mk.injEq] at e2
      obtain ⟨⟨ea, ev⟩, e3⟩ := e2
      subst ea
      subst ev
      subst e3
      subst e1
      simp only [List.length_cons] at hl
      have hc : w.cell? ⟨b, o, none⟩ = some (vs[o]'(by omega)) := by rw [hO.cell, List.getElem?_eq_getElem]
      obtain ⟨w', hr, hp, hO'⟩ := ih _ (o + 1) cs (vs.set o v) (w.setCell ⟨b, o, none⟩ v) h1 (hO.set o v) (by simp; omega)
      refine ⟨w', ?_, (Put.set w ⟨b, o, none⟩ v).trans hp, hO'⟩
      have : (Sem.store m ⟨b, o, none⟩ v k).run P w = k.run P (w.setCell ⟨b, o, none⟩ v) := by
        cases v <;> first | (simp only [Sem.run, hc, hO.frozen]; rfl) | exact absurd rfl (h3 _) | exact absurd rfl (h4 _)
      rw [this]
      exact hr
  | program k ih => intro r o cs vs w h hO hl; exact ih P r o cs vs w h hO hl
  | mark m k ih => intro r o cs vs w h hO hl; exact ih r o cs vs w h hO hl
  | _ => intro r o cs vs w h _ _; simp [evalW] at h

/-- A variable of the function's own. -/
structure Bx where
  b : Nat
  t : TypeId
  vs : List Value
  deriving Inhabited
structure St (w0 : World) (h0 : Hp) (w : World) (h : Hp) (B : List Bx) : Prop where
  up : Up w0 h0 w h
  own : ∀ x ∈ B, Own w x.b x.t x.vs
  jk : ∀ x ∈ B, h[x.b]? = some junk
  lo : ∀ x ∈ B, h0.size ≤ x.b
  nd : (B.map (·.b)).Nodup
theorem lt_of_some {h : Hp} {b : Nat} {o : Obj} (e : h[b]? = some o) : b < h.size := by
  rcases Nat.lt_or_ge b h.size with hl | hl
  · exact hl
  · rw [Array.getElem?_eq_none hl] at e; cases e
section st
variable {w0 : World} {h0 : Hp} {w : World} {h : Hp} {B : List Bx}
theorem St.start (g : G w h) : St w h w h [] := ⟨Up.refl g, fun _ hx => (by cases hx), fun _ hx => (by cases hx), fun _ hx => (by cases hx), by simp⟩
theorem St.step (s : St w0 h0 w h B) {w' : World} {h' : Hp} (u : Up w h w' h') : St w0 h0 w' h' B :=
  ⟨s.up.trans u, fun x hx => (s.own x hx).ext u.ext, fun x hx => (u.gr.blk _ (lt_of_some (s.jk x hx))).trans (s.jk x hx), s.lo, s.nd⟩
theorem St.g (s : St w0 h0 w h B) : G w h := s.up.g
theorem St.sz (s : St w0 h0 w h B) : h0.size ≤ h.size := s.up.gr.size
/-- A new variable. -/
theorem St.new {wr : World} {hr : Hp} {B' : List Bx} {x : Al} {b : Nat} (sr : St w0 h0 wr hr B') (s : St w0 h0 w h B) (hB : ∀ y ∈ B, y.b < hr.size ∨ y.b ≠ b) (k : Blk hr w h (x, b)) (t : TypeId) (vs : List Value) (ho : x.o = .cells vs.toArray t (0, 0)) :
    St w0 h0 w h (⟨b, t, vs⟩ :: B) := by
  obtain ⟨k1, k2, k3⟩ := k
  refine ⟨s.up, ?_, ?_, ?_, ?_⟩
  · intro y hy
    rcases List.mem_cons.1 hy with rfl | hy
    · show w.heap[b]? = _
      rw [← ho]; exact k1
    · exact s.own y hy
  · intro y hy
    rcases List.mem_cons.1 hy with rfl | hy
    · exact k2
    · exact s.jk y hy
  · intro y hy
    rcases List.mem_cons.1 hy with rfl | hy
    · exact Nat.le_trans sr.sz k3
    · exact s.lo y hy
  · refine List.nodup_cons.2 ⟨fun hm => ?_, s.nd⟩
    obtain ⟨y, hy, he⟩ := List.mem_map.1 hm
    rcases hB y hy with hl | hl
    · have he' : y.b = b := he
      have k3' : hr.size ≤ b := k3
      omega
    · exact hl he
/-- The first new variable behind a region's beginning. -/
theorem St.new1 {wr : World} {hr : Hp} {x : Al} {b : Nat} (sr : St w0 h0 wr hr B) (s : St w0 h0 w h B) (k : Blk hr w h (x, b)) (t : TypeId) (vs : List Value) (ho : x.o = .cells vs.toArray t (0, 0)) :
    St w0 h0 w h (⟨b, t, vs⟩ :: B) := St.new sr s (fun y hy => .inl (lt_of_some (sr.jk y hy))) k t vs ho
theorem St.new2 {wr : World} {hr : Hp} {x y : Al} {b c : Nat} (sr : St w0 h0 wr hr B) (s : St w0 h0 w h B) (k : Blk hr w h (x, b)) (k2 : Blk hr w h (y, c)) (hne : b ≠ c) (t : TypeId) (vs : List Value) (ho : x.o = .cells vs.toArray t (0, 0)) (t2 : TypeId) (vs2 : List Value) (ho2 : y.o = .cells vs2.toArray t2 (0, 0)) :
    St w0 h0 w h (⟨b, t, vs⟩ :: ⟨c, t2, vs2⟩ :: B) :=
  St.new sr (St.new1 sr s k2 t2 vs2 ho2) (fun z hz => by
    rcases List.mem_cons.1 hz with rfl | hz
    · exact .inr (Ne.symm hne)
    · exact .inl (lt_of_some (sr.jk z hz))) k t vs ho
def bxAt (B : List Bx) (j : Nat) : Bx := B.getD j default
def setB (B : List Bx) (j o : Nat) (cs : List Value) : List Bx := B.set j { bxAt B j with vs := putAt (bxAt B j).vs o cs }
theorem bxAt_mem {j : Nat} (h : j < B.length) : bxAt B j ∈ B := by
  unfold bxAt
  have : B.getD j default = B[j] := by simp [h]
  rw [this]
  exact List.getElem_mem h
theorem Up.put {b : Nat} {w' : World} (u : Up w0 h0 w h) (p : Put b w w') (hj : h[b]? = some junk) (hlo : h0.size ≤ b) (hs0 : w0.heap.size = h0.size) : Up w0 h0 w' h := by
  refine ⟨⟨p.os.trans u.ext.os, p.tape.trans u.ext.tape, p.output.trans u.ext.output, by rw [p.size]; exact u.ext.size, fun c hc => ?_⟩, u.gr, ⟨by rw [p.size]; exact u.g.size, fun c => ?_⟩⟩
  · rw [p.blk c (by omega)]
    exact Below.block u.ext c hc
  · by_cases e : c = b
    · subst e; exact .inr hj
    · rw [p.blk c e]; exact u.g.blk c
theorem St.put (s : St w0 h0 w h B) (g0 : G w0 h0) {j o : Nat} {cs : List Value} {w' : World} (hj : j < B.length) (p : Put (bxAt B j).b w w') (ho : Own w' (bxAt B j).b (bxAt B j).t (putAt (bxAt B j).vs o cs)) : St w0 h0 w' h (setB B j o cs) := by
  have hm := bxAt_mem hj
  have hbs : (setB B j o cs).map (·.b) = B.map (·.b) := by
    unfold setB
    rw [List.map_set]
    apply List.ext_getElem?
    intro i
    by_cases e : j = i
    · subst e
      rw [List.getElem?_set_self (by simpa using hj)]
      simp [bxAt, hj]
    · rw [List.getElem?_set_ne e]
  refine ⟨s.up.put p (s.jk _ hm) (s.lo _ hm) g0.size, ?_, ?_, ?_, by rw [hbs]; exact s.nd⟩
  · intro x hx
    obtain ⟨i, hi, he⟩ := List.mem_iff_getElem.1 hx
    have hi' : i < B.length := by simpa [setB] using hi
    by_cases e : j = i
    · subst e
      have : x = { bxAt B j with vs := putAt (bxAt B j).vs o cs } := by rw [← he]; simp [setB]
      subst this
      exact ho
    · have hx' : x = B[i] := by rw [← he]; simp [setB, e]
      subst hx'
      have hne : B[i].b ≠ (bxAt B j).b := by
        intro heq
        have h1 : (B.map (·.b))[i]'(by simpa using hi') = (B.map (·.b))[j]'(by simpa using hj) := by
          simp only [List.getElem_map]
          rw [heq]
          simp [bxAt, hj]
        exact e ((List.getElem_inj s.nd).1 h1).symm
      show w'.heap[B[i].b]? = _
      rw [p.blk _ hne]
      exact s.own _ (List.getElem_mem hi')
  · intro x hx
    have : x.b ∈ (setB B j o cs).map (·.b) := List.mem_map.2 ⟨x, hx, rfl⟩
    rw [hbs] at this
    obtain ⟨y, hy, he⟩ := List.mem_map.1 this
    rw [← he]
    exact s.jk y hy
  · intro x hx
    have : x.b ∈ (setB B j o cs).map (·.b) := List.mem_map.2 ⟨x, hx, rfl⟩
    rw [hbs] at this
    obtain ⟨y, hy, he⟩ := List.mem_map.1 this
    rw [← he]
    exact s.lo y hy
theorem St.to (s : St w0 h0 w h B) (B' : List Bx) (e : B = B') : St w0 h0 w h B' := e ▸ s
def mka (b o : Nat) : Nat → List Addr
  | 0 => []
  | n + 1 => ⟨b, o, none⟩ :: mka b (o + 1) n
theorem mka_get (b : Nat) : ∀ (n o i : Nat) (a : Addr), (mka b o n)[i]? = some a → a = ⟨b, o + i, none⟩
  | 0, _, _, _, h => by simp [mka] at h
  | n + 1, o, 0, a, h => by simp [mka] at h; rw [← h]; rfl
  | n + 1, o, i + 1, a, h => by
    have := mka_get b n (o + 1) i a (by simpa [mka] using h)
    rw [this]; congr 1; omega
/-- What stands in some variables: (which, from where, how many). -/
def partsV (B : List Bx) : List (Nat × Nat × Nat) → List Value
  | [] => []
  | p :: ps => ((bxAt B p.1).vs.drop p.2.1).take p.2.2 ++ partsV B ps
def partsA (B : List Bx) : List (Nat × Nat × Nat) → List Addr
  | [] => []
  | p :: ps => mka (bxAt B p.1).b p.2.1 p.2.2 ++ partsA B ps
def partsOk (B : List Bx) (ps : List (Nat × Nat × Nat)) : Bool := ps.all fun p => decide (p.1 < B.length) && decide (p.2.1 + p.2.2 ≤ (bxAt B p.1).vs.length)
theorem len_mka (b o n : Nat) : (mka b o n).length = n := by
  induction n generalizing o with
  | zero => rfl
  | succ n ih => simp [mka, ih]
theorem parts_cells (hO : ∀ x ∈ B, Own w x.b x.t x.vs) : ∀ (ps : List (Nat × Nat × Nat)), partsOk B ps = true → ∀ (i : Nat) a v, (partsA B ps)[i]? = some a → (partsV B ps)[i]? = some v → w.cell? a = some v
  | [], _, i, a, v, h, _ => by simp [partsA] at h
  | p :: ps, hok, i, a, v, ha, hv => by
    unfold partsOk at hok
    rw [List.all_cons, Bool.and_eq_true] at hok
    obtain ⟨h1, h2⟩ := hok
    simp only [Bool.and_eq_true, decide_eq_true_eq] at h1
    have hlen : (((bxAt B p.1).vs.drop p.2.1).take p.2.2).length = p.2.2 := by simp; omega
    unfold partsA at ha
    unfold partsV at hv
    rcases Nat.lt_or_ge i p.2.2 with hl | hl
    · rw [List.getElem?_append_left (by rw [len_mka]; exact hl)] at ha
      rw [List.getElem?_append_left (by rw [hlen]; exact hl)] at hv
      rw [mka_get _ _ _ _ _ ha, (hO _ (bxAt_mem h1.1)).cell]
      rw [List.getElem?_take_of_lt hl, List.getElem?_drop] at hv
      exact hv
    · rw [List.getElem?_append_right (by rw [len_mka]; exact hl), len_mka] at ha
      rw [List.getElem?_append_right (by rw [hlen]; exact hl), hlen] at hv
      exact parts_cells hO ps h2 _ a v ha hv
theorem Own.mo {w w' : World} {b : Nat} {t : TypeId} {vs : List Value} {M : List Nat} (h : Own w b t vs) (x : Mo M w w') (hb : b ∉ M) : Own w' b t vs := (x.blk b h.lt hb).trans h
theorem parts_cellsM {M : List Nat} {ps0 : List (Nat × Nat × Nat)} (hM : ∀ p ∈ ps0, (bxAt B p.1).b ∉ M) (hO : ∀ x ∈ B, x.b ∉ M → Own w x.b x.t x.vs) : ∀ (ps : List (Nat × Nat × Nat)), (∀ p ∈ ps, p ∈ ps0) → partsOk B ps = true → ∀ (i : Nat) a v, (partsA B ps)[i]? = some a → (partsV B ps)[i]? = some v → w.cell? a = some v
  | [], _, _, i, a, v, h, _ => by simp [partsA] at h
  | p :: ps, hsub, hok, i, a, v, ha, hv => by
    unfold partsOk at hok
    rw [List.all_cons, Bool.and_eq_true] at hok
    obtain ⟨h1, h2⟩ := hok
    simp only [Bool.and_eq_true, decide_eq_true_eq] at h1
    have hlen : (((bxAt B p.1).vs.drop p.2.1).take p.2.2).length = p.2.2 := by simp; omega
    unfold partsA at ha
    unfold partsV at hv
    rcases Nat.lt_or_ge i p.2.2 with hl | hl
    · rw [List.getElem?_append_left (by rw [len_mka]; exact hl)] at ha
      rw [List.getElem?_append_left (by rw [hlen]; exact hl)] at hv
      rw [mka_get _ _ _ _ _ ha, (hO _ (bxAt_mem h1.1) (hM p (hsub p (by simp)))).cell]
      rw [List.getElem?_take_of_lt hl, List.getElem?_drop] at hv
      exact hv
    · rw [List.getElem?_append_right (by rw [len_mka]; exact hl), len_mka] at ha
      rw [List.getElem?_append_right (by rw [hlen]; exact hl), hlen] at hv
      exact parts_cellsM hM hO ps (fun q hq => hsub q (by simp [hq])) h2 _ a v ha hv
end st

section own
variable {M : Ms} {P : Program} {n : Nat} {N R : Po} {X : Nat → Po} {ops : Array Oper} {k0 : Nat} {hr : Hp} {AL : List Al} {L : Array Bool} {Γ : Env} {w : World} {h : Hp} {w0 : World} {h0 : Hp} {B : List Bx}
/-- A load from the function's own variables. -/
theorem Rg.own (i t : Nat) (ps : List (Nat × Nat × Nat)) (v : Value) (s : St w0 h0 w h B) (hc : (chkTake n ops k0 AL L i t && knownOp Γ (opAt ops i) && chkTail ops k0 i) = true) (hw : wantE ops Γ (opAt ops i) = some true)
    (hM : ∀ p ∈ ps, (bxAt B p.1).b ∉ M.l) (hp : partsOk B ps = true) (he : evalL P (execOp (ev Γ) (opAt ops i)) (partsV B ps) = some (.value v, partsA B ps))
    (k : EG M P n N R X ops k0 hr AL (L.setIfInBounds i true) ((t, v) :: Γ) w h) : EG M P n N R X ops k0 hr AL L Γ w h :=
  Rg.load i t v hc hw (fun w' hx => evalL_run _ _ _ _ he (parts_cellsM hM (fun x hm hx' => (s.own x hm).mo hx hx') ps (fun _ h => h) hp)) k
/-- A store into one of the function's own variables. -/
theorem T.put (i j o : Nat) (cs : List Value) (s : St w0 h0 w h B) (g0 : G w0 h0) (hc : (chkT ops k0 L i && knownOp Γ (opAt ops i) && ((opAt ops i).dst == none)) = true) (hw : wantE ops Γ (opAt ops i) = some true)
    (hj : (decide (j < B.length) && decide (o + cs.length ≤ (bxAt B j).vs.length)) = true) (he : evalW P (execOp (ev Γ) (opAt ops i)) = some (.skip, mkl (bxAt B j).b o cs))
    (k : ∀ w', Put (bxAt B j).b w w' → St w0 h0 w' h (setB B j o cs) → AG M P n N R X ops k0 (L.setIfInBounds i true) Γ w') (hz : ∀ K bs, M.z = some (K, bs) → K ≤ (bxAt B j).b ∨ (bxAt B j).b ∈ bs := by intro _ _ e; cases e) : AG M P n N R X ops k0 L Γ w := by
  simp only [Bool.and_eq_true, decide_eq_true_eq] at hj
  obtain ⟨w', hrun, hput, hown⟩ := evalW_run _ _ _ _ _ w he (s.own _ (bxAt_mem hj.1)) hj.2
  exact T.store i w' hc hw hrun (hput.tl hz) (k w' hput (s.put g0 hj.1 hput hown))

/-- The same in a region that is not drawn. -/
theorem LG.own {k : Nat} (t : Nat) (ps : List (Nat × Nat × Nat)) (v : Value) (s : St w0 h0 w h B) (hc : (chkL ops Γ k && ((opAt ops k).dst == some t) && decide (t < n)) = true) (hw : wantE ops Γ (opAt ops k) = some true)
    (hp : partsOk B ps = true) (he : evalL P (execOp (ev Γ) (opAt ops k)) (partsV B ps) = some (.value v, partsA B ps))
    (H : LG P n N R X ops (k + 1) ((t, v) :: Γ) w) : LG P n N R X ops k Γ w :=
  LG.val t v w hc hw (evalL_run _ _ _ _ he (parts_cells s.own ps hp)) H
theorem LG.put {k : Nat} (j o : Nat) (cs : List Value) (s : St w0 h0 w h B) (g0 : G w0 h0) (hc : (chkL ops Γ k && ((opAt ops k).dst == none)) = true) (hw : wantE ops Γ (opAt ops k) = some true)
    (hj : (decide (j < B.length) && decide (o + cs.length ≤ (bxAt B j).vs.length)) = true) (he : evalW P (execOp (ev Γ) (opAt ops k)) = some (.skip, mkl (bxAt B j).b o cs))
    (H : ∀ w', Put (bxAt B j).b w w' → St w0 h0 w' h (setB B j o cs) → LG P n N R X ops (k + 1) Γ w') : LG P n N R X ops k Γ w := by
  simp only [Bool.and_eq_true, decide_eq_true_eq] at hj
  obtain ⟨w', hrun, hput, hown⟩ := evalW_run _ _ _ _ _ w he (s.own _ (bxAt_mem hj.1)) hj.2
  exact LG.store w' hc hw hrun (H w' hput (s.put g0 hj.1 hput hown))
/-- A new variable, in a region that is not drawn. -/
theorem LG.var {k : Nat} (t : Nat) (ty : TypeId) (vs : List Value) (s : St w0 h0 w h B) (hc : (chkL ops Γ k && ((opAt ops k).dst == some t) && decide (t < n)) = true) (hw : wantE ops Γ (opAt ops k) = some true)
    (hr : (execOp (ev Γ) (opAt ops k)).run P w = .ok (.value (.pointer (some ⟨w.heap.size, 0, none⟩))) (w.alloc (.cells vs.toArray ty (0, 0))))
    (H : ∀ b w' h', h.size ≤ b → Up w h w' h' → St w0 h0 w' h' (⟨b, ty, vs⟩ :: B) → LG P n N R X ops (k + 1) ((t, .pointer (some ⟨b, 0, none⟩)) :: Γ) w') : LG P n N R X ops k Γ w := by
  have u : Up w h (w.alloc (.cells vs.toArray ty (0, 0))) (h.push junk) := Up.allocAny s.g _ _ (.inr rfl)
  refine LG.val t _ _ hc hw hr (H _ _ _ (by rw [s.g.size]; exact Nat.le_refl _) u (St.new1 (x := ⟨0, 0, .cells vs.toArray ty (0, 0)⟩) s (s.step u) ⟨?_, ?_, ?_⟩ ty vs rfl))
  · rw [heap_alloc]; exact Array.getElem?_push_size
  · rw [s.g.size]; exact Array.getElem?_push_size
  · show h.size ≤ w.heap.size; rw [s.g.size]; exact Nat.le_refl _

def resE (fn : Func) (Γ : Env) : Sem Value := do
  let vs ← fn.results.mapM fun
    | .tmp t => Pure.pure (ev Γ (.tmp t))
    | .cell a t => do loadVar t (← asAddr (ev Γ (.tmp a)))
  Pure.pure (if h : vs.size = 1 then vs[0] else .tuple vs)
def resK (fn : Func) (Γ : Env) : Bool := fn.results.all fun | .tmp t => inEnv Γ (.tmp t) | .cell a _ => inEnv Γ (.tmp a)
theorem mapM_congr' {α β : Type} (l : List α) (f g : α → Sem β) (h : ∀ x ∈ l, f x = g x) : l.mapM f = l.mapM g := by
  induction l with
  | nil => rfl
  | cons a l ih => rw [List.mapM_cons, List.mapM_cons, h a (by simp), ih (fun x hx => h x (by simp [hx]))]
theorem results_env {fn : Func} {a : Act} (ka : Kn n a Γ) (hk : resK fn Γ = true) : results fn a.tmps = resE fn Γ := by
  unfold results resE
  have e : ∀ x ∈ fn.results.toList, ((match x with | .tmp t => Pure.pure (a.tmps.getD t undef) | .cell ad t => (do loadVar t (← asAddr (a.tmps.getD ad undef)))) : Sem Value) = ((match x with | .tmp t => Pure.pure (ev Γ (.tmp t)) | .cell ad t => (do loadVar t (← asAddr (ev Γ (.tmp ad))))) : Sem Value) := by
    intro x hx
    have h1 := (Array.all_eq_true_iff_forall_mem.1 hk) x (by simpa using hx)
    cases x with
    | tmp t => have := ka.eval h1; simp only [Act.eval] at this; simp only [this]
    | cell ad t => have := ka.eval h1; simp only [Act.eval] at this; simp only [this]
  rw [Array.mapM_eq_mapM_toList, Array.mapM_eq_mapM_toList]
  congr 2
  exact mapM_congr' _ _ _ e

/-- A contract's post: it returns a value of which Φ tells, in a greater world. -/
def Ret (w0 : World) (h0 : Hp) (Φ : Value → Hp → Prop) : Ending → World → Prop := fun e w' => ∃ v h', e = .returned v ∧ Up w0 h0 w' h' ∧ Φ v h'
theorem retP {fn : Func} {Φ : Value → Hp → Prop} (s : St w0 h0 w h B) (ps : List (Nat × Nat × Nat)) (v : Value) (hk : (resK fn Γ && partsOk B ps) = true) (he : evalL P (resE fn Γ) (partsV B ps) = some (v, partsA B ps)) (hΦ : Φ v h) :
    ∀ a, Kn n a Γ → RetP P fn (Ret w0 h0 Φ) a w := by
  intro a ka
  rw [Bool.and_eq_true] at hk
  refine ⟨ka.df, v, ?_, v, h, rfl, s.up, hΦ⟩
  rw [results_env ka hk.1]
  exact evalL_run _ _ _ _ he (parts_cells s.own ps hk.2)
/-- A contract of a function that only makes memory, in the other form. -/
theorem Ret.of_ext {f : FuncId} {args : Array Value} {V : Value} {w : World} {h : Hp} (g : G w h) (c : Calls P f args w fun e w' => e = .returned V ∧ Ext w w') : Calls P f args w (Ret w h fun v _ => v = V) :=
  c.mono fun e w' ⟨he, hx⟩ => by
    obtain ⟨h', u⟩ := g.lift hx
    exact ⟨V, h', he, u, rfl⟩
theorem Ret.to_ext {f : FuncId} {args : Array Value} {V : Value} {w : World} (c : ∀ h, G w h → Calls P f args w (Ret w h fun v _ => v = V)) : Calls P f args w fun e w' => e = .returned V ∧ Ext w w' := by
  refine (c w.heap ⟨rfl, fun _ => .inl rfl⟩).mono ?_
  rintro e w' ⟨v, h', he, u, rfl⟩
  exact ⟨he, u.ext⟩
end own
end Go.Proofs.YtmkonbkdjmfjhaaGreatDoor
