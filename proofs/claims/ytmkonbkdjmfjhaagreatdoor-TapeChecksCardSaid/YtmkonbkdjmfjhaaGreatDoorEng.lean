/- The engine: worlds that grow, ghost heaps, and a region's operations in whatever order. No program in sight. -/
import Derived.Test.YtmkonbkdjmfjhaaGreatDoorNum
import Derived.Orders
import Derived.OrdersHeld
import Derived.KernelRfl
namespace Go.Proofs.YtmkonbkdjmfjhaaGreatDoor
open Go.RowKit

/-- A ghost heap: the heap, the blocks that a caller keeps for himself struck out. -/
abbrev Hp := Array Obj
def junk : Obj := .cells #[] 0 (0, 0)
structure G (w : World) (h : Hp) : Prop where
  size : w.heap.size = h.size
  blk : ∀ b : Nat, h[b]? = w.heap[b]? ∨ h[b]? = some junk
structure Gr (h h' : Hp) : Prop where
  size : h.size ≤ h'.size
  blk : ∀ b : Nat, b < h.size → h'[b]? = h[b]?
structure Up (w : World) (h : Hp) (w' : World) (h' : Hp) : Prop where
  ext : Ext w w'
  gr : Gr h h'
  g : G w' h'
theorem Gr.refl (h : Hp) : Gr h h := ⟨Nat.le_refl _, fun _ _ => rfl⟩
theorem Gr.trans {a b c : Hp} (h : Gr a b) (k : Gr b c) : Gr a c :=
  ⟨Nat.le_trans h.size k.size, fun x hx => (k.blk x (Nat.lt_of_lt_of_le hx h.size)).trans (h.blk x hx)⟩
theorem Gr.push (h : Hp) (o : Obj) : Gr h (h.push o) :=
  ⟨by simp, fun b hb => by rw [Array.getElem?_push_lt hb]; exact (Array.getElem?_eq_getElem hb).symm⟩
theorem Up.refl {w : World} {h : Hp} (g : G w h) : Up w h w h := ⟨Ext.refl _, Gr.refl _, g⟩
theorem Up.trans {w w1 w2 : World} {h h1 h2 : Hp} (a : Up w h w1 h1) (b : Up w1 h1 w2 h2) : Up w h w2 h2 := ⟨a.ext.trans b.ext, a.gr.trans b.gr, b.g⟩
theorem G.drew {w : World} {h : Hp} (g : G w h) : G w.drew h := ⟨g.size, g.blk⟩
theorem Up.drew {w w1 : World} {h h1 : Hp} (a : Up w h w1 h1) : Up w h w1.drew h1 := ⟨a.ext.drew, a.gr, a.g.drew⟩
theorem G.lift {w w' : World} {h : Hp} (g : G w h) (x : Ext w w') : ∃ h', Up w h w' h' := by
  have hs := x.size
  have e0 := g.size
  refine ⟨h ++ w'.heap.extract h.size w'.heap.size, x, ⟨by simp, fun b hb => Array.getElem?_append_left hb⟩, ⟨by simp; omega, fun b => ?_⟩⟩
  rcases Nat.lt_or_ge b h.size with hb | hb
  · rw [Array.getElem?_append_left hb]
    have e := Below.block x b (by omega)
    rcases g.blk b with h1 | h1
    · exact .inl (h1.trans e.symm)
    · exact .inr h1
  · left
    rw [Array.getElem?_append_right hb, Array.getElem?_extract]
    by_cases hl : b < w'.heap.size
    · rw [if_pos (by omega)]; congr 1; omega
    · rw [if_neg (by omega), Array.getElem?_eq_none (by omega)]
theorem heap_alloc (w : World) (o : Obj) : (w.alloc o).heap = w.heap.push o := rfl
theorem Up.allocAny {w : World} {h : Hp} (g : G w h) (o o' : Obj) (ho : o' = o ∨ o' = junk) : Up w h (w.alloc o) (h.push o') := by
  refine ⟨(Ext.refl _).alloc _, Gr.push _ _, ⟨by rw [heap_alloc]; simp [g.size], fun b => ?_⟩⟩
  rw [heap_alloc]
  have e := g.size
  rcases Nat.lt_trichotomy b h.size with hb | hb | hb
  · rw [Array.getElem?_push_lt hb, Array.getElem?_push_lt (by omega)]
    have := g.blk b
    rwa [Array.getElem?_eq_getElem hb, Array.getElem?_eq_getElem (by omega)] at this
  · subst hb
    rw [Array.getElem?_push_size]
    have : (w.heap.push o)[h.size]? = some o := by rw [← e]; exact Array.getElem?_push_size
    rw [this]
    rcases ho with rfl | rfl
    · exact .inl rfl
    · exact .inr rfl
  · left
    rw [Array.getElem?_eq_none (by simp; omega), Array.getElem?_eq_none (by simp; omega)]
theorem G.set {w : World} {h : Hp} (g : G w h) {p : Addr} {v : Value} (hj : h[p.block]? = some junk) : G (w.setCell p v) h := by
  refine ⟨by have := g.size; simpa using this, fun b => ?_⟩
  by_cases e : b = p.block
  · subst e; exact .inr hj
  · rw [Below.heap_setCell _ _ _ _ e]; exact g.blk b

/-- The world has grown, but for the blocks M, which may have been written. -/
structure Mo (M : List Nat) (w w' : World) : Prop where
  os : w'.os = w.os
  tape : w'.tape = w.tape
  output : w'.output = w.output
  size : w.heap.size ≤ w'.heap.size
  blk : ∀ b, b < w.heap.size → b ∉ M → w'.heap[b]? = w.heap[b]?
theorem Mo.refl (M : List Nat) (w : World) : Mo M w w := ⟨rfl, rfl, rfl, Nat.le_refl _, fun _ _ _ => rfl⟩
theorem Mo.trans {M : List Nat} {a b c : World} (h : Mo M a b) (k : Mo M b c) : Mo M a c :=
  ⟨k.os.trans h.os, k.tape.trans h.tape, k.output.trans h.output, Nat.le_trans h.size k.size, fun x hx hm => (k.blk x (Nat.lt_of_lt_of_le hx h.size) hm).trans (h.blk x hx hm)⟩
theorem Ext.mo {a b : World} (h : Ext a b) (M : List Nat) : Mo M a b := ⟨h.os, h.tape, h.output, h.size, fun x hx _ => Below.block h x hx⟩
theorem Mo.ext {a b : World} (h : Mo [] a b) : Ext a b := ⟨h.os, h.tape, h.output, h.size, fun x hx => h.blk x hx (by simp)⟩
structure UpM (M : List Nat) (w : World) (h : Hp) (w' : World) (h' : Hp) : Prop where
  mo : Mo M w w'
  gr : Gr h h'
  g : G w' h'
theorem Up.m {w w' : World} {h h' : Hp} (u : Up w h w' h') (M : List Nat) : UpM M w h w' h' := ⟨u.ext.mo M, u.gr, u.g⟩
theorem UpM.refl {M : List Nat} {w : World} {h : Hp} (g : G w h) : UpM M w h w h := ⟨Mo.refl _ _, Gr.refl _, g⟩
theorem UpM.trans {M : List Nat} {w w1 w2 : World} {h h1 h2 : Hp} (a : UpM M w h w1 h1) (b : UpM M w1 h1 w2 h2) : UpM M w h w2 h2 := ⟨a.mo.trans b.mo, a.gr.trans b.gr, b.g⟩
theorem UpM.up {w w' : World} {h h' : Hp} (u : UpM [] w h w' h') : Up w h w' h' := ⟨u.mo.ext, u.gr, u.g⟩
/-- What a drawn region may write: the operations below k0 the blocks l; and where that is told, its tail: of the blocks below K none but bs. -/
structure Ms where
  l : List Nat
  z : Option (Nat × List Nat)
def Tl (M : Ms) (w w' : World) : Prop := ∀ K bs, M.z = some (K, bs) → w.heap.size ≤ w'.heap.size ∧ ∀ b, b < K → b ∉ bs → w'.heap[b]? = w.heap[b]?
theorem Tl.refl (M : Ms) (w : World) : Tl M w w := fun _ _ _ => ⟨Nat.le_refl _, fun _ _ _ => rfl⟩
theorem Tl.none {M : Ms} (h : M.z = none) (w w' : World) : Tl M w w' := fun _ _ e => by rw [h] at e; cases e
/-- What an operation of a region may do. -/
def Rl (M : Ms) (k0 i : Nat) (w w' : World) : Prop := (i < k0 → Mo M.l w w') ∧ (k0 ≤ i → Tl M w w')
theorem Rl.refl (M : Ms) (k0 i : Nat) (w : World) : Rl M k0 i w w := ⟨fun _ => Mo.refl _ _, fun _ => Tl.refl _ _⟩
theorem Rl.mo {M : Ms} {k0 i : Nat} {w w' : World} (h : i < k0) (m : Mo M.l w w') : Rl M k0 i w w' := ⟨fun _ => m, fun hk => absurd hk (by omega)⟩
theorem Rl.tl {M : Ms} {k0 i : Nat} {w w' : World} (h : k0 ≤ i) (m : Tl M w w') : Rl M k0 i w w' := ⟨fun hk => absurd hk (by omega), fun _ => m⟩
section region
variable (M : Ms) (P : Program) (ops : Array Oper) (Q : Exit → Act → World → Prop) (k0 : Nat)

/-- Whatever order is picked from here on; the operations below k0 only add to the world. -/
def anyR : Nat → Array Bool → Act → World → Prop
  | 0, L, a, w => Region.ready .any ops L = [] ∧ Q .normal a w
  | n + 1, L, a, w => (Region.ready .any ops L = [] → Q .normal a w) ∧
      ∀ i ∈ Region.ready .any ops L, wpOp P ops Q i (fun a' w' => Rl M k0 i w w' ∧ anyR n (L.setIfInBounds i true) a' w') a w
theorem anyR_any : ∀ (n : Nat) (L : Array Bool) (a : Act) (w : World), anyR M P ops Q k0 n L a w → wpAny P .any ops Q n L a w
  | 0, _, _, _, h => h
  | n + 1, _, _, _, h => ⟨h.1, fun i hi => wpOp_mono (fun a' w' h' => anyR_any n _ a' w' h'.2) (h.2 i hi)⟩
def rem (L : Array Bool) : Nat := L.toList.count false
def A (L : Array Bool) (a : Act) (w : World) : Prop := anyR M P ops Q k0 (rem L) L a w
variable {M P ops Q k0}
theorem unl {L : Array Bool} {i : Nat} (h : L.getD i true = false) : ∃ hi : i < L.size, L[i] = false := by
  rcases Nat.lt_or_ge i L.size with hi | hi
  · exact ⟨hi, by simpa [Array.getD, hi] using h⟩
  · simp [Array.getD, Nat.not_lt.2 hi] at h
theorem rem_set {L : Array Bool} {i : Nat} (h : L.getD i true = false) : rem L = rem (L.setIfInBounds i true) + 1 := by
  obtain ⟨hi, e⟩ := unl h
  unfold rem
  rw [Array.toList_setIfInBounds, List.count_set (by simpa using hi)]
  have e' : L.toList[i]'(by simpa using hi) = false := by simpa using e
  have hp : 0 < L.toList.count false := List.count_pos_iff.2 (by rw [← e']; exact List.getElem_mem _)
  rw [e', if_pos (by rfl), if_neg (by decide)]
  omega
theorem rem_ready {L : Array Bool} {i : Nat} (h : i ∈ Region.ready .any ops L) : rem L = rem (L.setIfInBounds i true) + 1 := rem_set (mem_ready.1 h).1
theorem A.intro {L : Array Bool} {a : Act} {w : World} (h0 : Region.ready .any ops L = [] → Q .normal a w)
    (h1 : ∀ i ∈ Region.ready .any ops L, wpOp P ops Q i (fun a' w' => Rl M k0 i w w' ∧ A M P ops Q k0 (L.setIfInBounds i true) a' w') a w) : A M P ops Q k0 L a w := by
  unfold A
  cases hn : rem L with
  | zero =>
    have hr : Region.ready .any ops L = [] := by
      cases hr : Region.ready .any ops L with
      | nil => rfl
      | cons i l =>
        have := rem_ready (ops := ops) (L := L) (i := i) (by rw [hr]; simp)
        omega
    exact ⟨hr, h0 hr⟩
  | succ n =>
    refine ⟨h0, fun i hi => ?_⟩
    have e := rem_ready hi
    have h2 := h1 i hi
    unfold A at h2
    have e2 : rem (L.setIfInBounds i true) = n := by omega
    rw [e2] at h2
    exact h2
theorem A.done {L : Array Bool} {a : Act} {w : World} (hr : (Region.ready .any ops L).isEmpty = true) (h : Q .normal a w) : A M P ops Q k0 L a w := by
  have hr' : Region.ready .any ops L = [] := by simpa using hr
  exact A.intro (fun _ => h) (fun i hi => by rw [hr'] at hi; cases hi)

theorem anyR_first {i : Nat} {oi : Oper} {v : Value} {S : World → Prop} (hi : ops[i]? = some oi) (hsel : ∀ (j : Nat) (o : Oper) cs b, ops[j]? = some o → o.op ≠ .select cs b)
    (hQ : ∀ c a w, Q (.panic c) (a.put oi.dst v) w → Q (.panic c) a w) (hcl : ∀ w w', S w → Mo M.l w w' → S w') :
    ∀ (n : Nat) (L : Array Bool) (a : Act) (w : World),
      (∀ j oj, ops[j]? = some oj → j ≠ i → L.getD j true = false → (∀ e ∈ oj.after, Region.binds .any e = true → e.on ≠ i) → oi.apart ops oj = true) →
      ((∀ w, S w) ∨ (∀ w w', S w → Tl M w w' → S w') ∨ ∀ j oj, ops[j]? = some oj → k0 ≤ j → j ≠ i → ∃ e ∈ oj.after, Region.binds .any e = true ∧ e.on = i) →
      i ∈ Region.ready .any ops L → YieldsIf P ops S oi v a → S w →
      anyR M P ops Q k0 n (L.setIfInBounds i true) (a.put oi.dst v) w → (i < k0) → anyR M P ops Q k0 (n + 1) L a w := by
  intro n
  induction n with
  | zero =>
    intro L a w _ _ hr hy hS H _
    refine ⟨fun h => (by rw [h] at hr; cases hr), fun j hj => ?_⟩
    by_cases hji : j = i
    · subst hji; exact hy.wpOp hi hS ⟨Rl.refl _ _ _ _, H⟩
    · have := ready_mono hj hji
      rw [H.1] at this
      cases this
  | succ n ih =>
    intro L a w hfree htail hr hy hS H hk
    refine ⟨fun h => (by rw [h] at hr; cases hr), fun j hj => ?_⟩
    by_cases hji : j = i
    · subst hji; exact hy.wpOp hi hS ⟨Rl.refl _ _ _ _, H⟩
    · have h1 := H.2 j (ready_mono hj hji)
      obtain ⟨hjun, oj, hoj, hall⟩ := mem_ready.1 hj
      have hnot : ∀ e ∈ oj.after, Region.binds .any e = true → e.on ≠ i := fun e he hb heq => by
        have h1 := hall e he hb
        have h0 := (mem_ready.1 hr).1
        rw [heq] at h1
        obtain ⟨hl, h0'⟩ := unl h0
        simp [Array.getD, hl, h0'] at h1
      have h2 := wpOp_putIf hoj (hfree j oj hoj hji hjun hnot) (fun cs b => hsel i oi cs b hi) (fun cs b => hsel j oj cs b hoj) hQ hy h1
      have hfree' : ∀ k ok, ops[k]? = some ok → k ≠ i → (L.setIfInBounds j true).getD k true = false →
          (∀ e ∈ ok.after, Region.binds .any e = true → e.on ≠ i) → oi.apart ops ok = true := fun k ok hk hki hun hno => by
        refine hfree k ok hk hki ?_ hno
        by_cases hjk : j = k
        · subst hjk; exact hjun
        · rw [getD_set_ne true hjk] at hun; exact hun
      have hS' : ∀ w', Rl M k0 j w w' → S w' := fun w' hx => by
        rcases htail with ht | ht | ht
        · exact ht w'
        · rcases Nat.lt_or_ge j k0 with hl | hl
          · exact hcl _ _ hS (hx.1 hl)
          · exact ht _ _ hS (hx.2 hl)
        · rcases Nat.lt_or_ge j k0 with hl | hl
          · exact hcl _ _ hS (hx.1 hl)
          · obtain ⟨e, he, hb, ho⟩ := ht j oj hoj hl hji
            exact absurd ho (hnot e he hb)
      refine wpOp_mono (fun a' w' h3 => ⟨h3.2.1, ih (L.setIfInBounds j true) a' w' hfree' htail (ready_mono hr (Ne.symm hji)) h3.1 (hS' w' h3.2.1) ?_ hk⟩) h2
      rw [Array.setIfInBounds_comm _ _ hji]
      exact h3.2.2

/-- An operation that lays a new variable. -/
structure Al where
  i : Nat
  t : Nat
  o : Obj
structure AlOk (P : Program) (ops : Array Oper) (k0 : Nat) (x : Al) : Prop where
  ex : ∃ o, ops[x.i]? = some o ∧ o.dst = some x.t ∧ o.guard = none ∧ o.after = #[] ∧ (∀ (ρ : Operand → Value) (w : World), (execOp ρ o).run P w = .ok (.value (.pointer (some ⟨w.heap.size, 0, none⟩))) (w.alloc x.o))
  lt : x.i < k0
abbrev SA := Al × Nat
def addL (L : Array Bool) (S : List SA) : Array Bool := S.foldr (fun s L => L.setIfInBounds s.1.i true) L
def addA (a : Act) (S : List SA) : Act := S.foldr (fun s a => a.put (some s.1.t) (.pointer (some ⟨s.2, 0, none⟩))) a
/-- A new variable lies at its block. -/
def Blk (h0 : Hp) (w : World) (h : Hp) (s : SA) : Prop := w.heap[s.2]? = some s.1.o ∧ h[s.2]? = some junk ∧ h0.size ≤ s.2
theorem Blk.up {h0 : Hp} {w w' : World} {h h' : Hp} {s : SA} (b : Blk h0 w h s) (u : UpM M.l w h w' h') (hM : ∀ b ∈ M.l, b < h0.size) : Blk h0 w' h' s := by
  obtain ⟨b1, b2, b3⟩ := b
  have hl : s.2 < w.heap.size := by
    rcases Nat.lt_or_ge s.2 w.heap.size with hl | hl
    · exact hl
    · rw [Array.getElem?_eq_none hl] at b1; cases b1
  have hl2 : s.2 < h.size := by
    rcases Nat.lt_or_ge s.2 h.size with hl | hl
    · exact hl
    · rw [Array.getElem?_eq_none hl] at b2; cases b2
  exact ⟨(u.mo.blk _ hl (fun hm => by have := hM _ hm; omega)).trans b1, (u.gr.blk _ hl2).trans b2, b3⟩
theorem Blk.lt {h0 : Hp} {w : World} {h : Hp} {s : SA} (b : Blk h0 w h s) : s.2 < w.heap.size := by
  rcases Nat.lt_or_ge s.2 w.heap.size with hl | hl
  · exact hl
  · have := b.1; rw [Array.getElem?_eq_none hl] at this; cases this

variable (M P ops Q k0) in
/-- From here on, in every greater world, some of the new variables AL laid already. -/
def E (h0 : Hp) (AL : List Al) (L : Array Bool) (a : Act) (w : World) (h : Hp) : Prop :=
  ∀ w' h', Up w h w' h' → ∀ (S : List SA) (T : List Al), (S.map (·.1) ++ T).Perm AL → (∀ s ∈ S, Blk h0 w' h' s) → (S.map (·.2)).Nodup →
    A M P ops Q k0 (addL L S) (addA a S) w'
theorem E.up {h0 : Hp} {AL : List Al} {L : Array Bool} {a : Act} {w w1 : World} {h h1 : Hp} (e : E M P ops Q k0 h0 AL L a w h) (u : Up w h w1 h1) : E M P ops Q k0 h0 AL L a w1 h1 :=
  fun w' h' u' S T => e w' h' (u.trans u') S T
theorem addL_set (L : Array Bool) (S : List SA) (i : Nat) (hi : ∀ s ∈ S, s.1.i ≠ i) : addL (L.setIfInBounds i true) S = (addL L S).setIfInBounds i true := by
  induction S with
  | nil => rfl
  | cons s S ih =>
    have h1 : s.1.i ≠ i := hi s (by simp)
    show (addL (L.setIfInBounds i true) S).setIfInBounds s.1.i true = ((addL L S).setIfInBounds s.1.i true).setIfInBounds i true
    rw [ih (fun t ht => hi t (by simp [ht])), Array.setIfInBounds_comm _ _ (Ne.symm h1)]
theorem addA_put (a : Act) (S : List SA) (d : Option Tmp) (v : Value) (hd : ∀ s ∈ S, d ≠ some s.1.t) : addA (a.put d v) S = (addA a S).put d v := by
  induction S with
  | nil => rfl
  | cons s S ih =>
    have h1 : d ≠ some s.1.t := hd s (by simp)
    show (addA (a.put d v) S).put (some s.1.t) _ = ((addA a S).put (some s.1.t) _).put d v
    rw [ih (fun t ht => hd t (by simp [ht]))]
    exact Act.put_comm _ _ _ (fun x hx hy => h1 (hx.trans hy.symm))
theorem addL_getD {L : Array Bool} {S : List SA} {j : Nat} (h : (addL L S).getD j true = false) : L.getD j true = false := by
  induction S with
  | nil => exact h
  | cons s S ih =>
    apply ih
    have h' : ((addL L S).setIfInBounds s.1.i true).getD j true = false := h
    by_cases e : s.1.i = j
    · subst e
      obtain ⟨hl, he⟩ := unl h'
      simp at he
    · rwa [getD_set_ne true e] at h'
theorem addL_ne {L : Array Bool} {S : List SA} {j : Nat} (d : Bool) (hj : ∀ s ∈ S, s.1.i ≠ j) : (addL L S).getD j d = L.getD j d := by
  induction S with
  | nil => rfl
  | cons s S ih =>
    show ((addL L S).setIfInBounds s.1.i true).getD j d = _
    rw [getD_set_ne d (hj s (by simp))]
    exact ih (fun t ht => hj t (by simp [ht]))
theorem addL_true {L : Array Bool} {S : List SA} {j : Nat} (h : L.getD j false = true) : (addL L S).getD j false = true := by
  induction S with
  | nil => exact h
  | cons s S ih => exact getD_set_true (listed := addL L S) ih
theorem addL_ready {L : Array Bool} {S : List SA} {i : Nat} (hi : ∀ s ∈ S, s.1.i ≠ i) (h : i ∈ Region.ready .any ops L) : i ∈ Region.ready .any ops (addL L S) := by
  rw [mem_ready] at *
  obtain ⟨h0, o, ho, hall⟩ := h
  exact ⟨by rw [addL_ne true hi]; exact h0, o, ho, fun e he hb => addL_true (hall e he hb)⟩
theorem exec_addA {o : Oper} (hs : ∀ cs b, o.op ≠ .select cs b) (a : Act) (S : List SA) (h : ∀ s ∈ S, s.1.t ∉ o.looksAt ops) :
    execOp (addA a S).eval o = execOp a.eval o ∧ Region.wanted o (yielded ops (addA a S).tmps) = Region.wanted o (yielded ops a.tmps) := by
  induction S with
  | nil => exact ⟨rfl, rfl⟩
  | cons s S ih =>
    obtain ⟨i1, i2⟩ := ih (fun t ht => h t (by simp [ht]))
    have hn : ∀ d, some s.1.t = some d → d ∉ o.looksAt ops := fun d hd => by injection hd with hd; subst hd; exact h s (by simp)
    exact ⟨(execOp_put (ops := ops) o hs _ _ _ hn).trans i1, (wanted_put (ops := ops) o _ _ _ hn).trans i2⟩
theorem mem_perm {S : List SA} {T AL : List Al} (hp : (S.map (·.1) ++ T).Perm AL) {s : SA} (hs : s ∈ S) : s.1 ∈ AL :=
  hp.mem_iff.1 (List.mem_append.2 (.inl (List.mem_map.2 ⟨s, hs, rfl⟩)))

/-- What a value of an operation is, in a world. -/
def OpR (P : Program) (ops : Array Oper) (o : Oper) (a : Act) (w : World) (R : Value → World → Prop) : Prop :=
  Region.wanted o (yielded ops a.tmps) = true ∧
  ((∃ v w', (execOp a.eval o).run P w = .ok (.value v) w' ∧ R v w') ∨ (∃ w', (execOp a.eval o).run P w = .ok .skip w' ∧ R undef w') ∨
   (∃ f args, (execOp a.eval o).run P w = .ok (.enter f args) w ∧ Calls P f args w (fun e w' => ∃ v, e = .returned v ∧ R v w')))
theorem OpR.wpOp {i : Nat} {o : Oper} {a : Act} {w : World} {R : Value → World → Prop} {K : Act → World → Prop} (hi : ops[i]? = some o) (h : OpR P ops o a w R)
    (hK : ∀ v w', R v w' → K (a.put o.dst v) w') : wpOp P ops Q i K a w := by
  obtain ⟨hw, h⟩ := h
  unfold Go.wpOp
  simp only [hi, hw, if_true]
  left
  unfold Oper.wp
  rcases h with ⟨v, w', hr, hR⟩ | ⟨w', hr, hR⟩ | ⟨f, args, hr, hc⟩
  · rw [hr]; exact hK _ _ hR
  · rw [hr]; exact hK _ _ hR
  · rw [hr]
    refine Calls.mono hc fun e w' he => ?_
    obtain ⟨v, rfl, hR⟩ := he
    exact hK _ _ hR
theorem OpR.mono {o : Oper} {a : Act} {w : World} {R R' : Value → World → Prop} (h : OpR P ops o a w R) (hr : ∀ v w', R v w' → R' v w') : OpR P ops o a w R' := by
  refine ⟨h.1, ?_⟩
  rcases h.2 with ⟨v, w', h1, h2⟩ | ⟨w', h1, h2⟩ | ⟨f, args, h1, h2⟩
  · exact .inl ⟨v, w', h1, hr _ _ h2⟩
  · exact .inr (.inl ⟨w', h1, hr _ _ h2⟩)
  · exact .inr (.inr ⟨f, args, h1, h2.mono fun e w' ⟨v, he, hR⟩ => ⟨v, he, hr _ _ hR⟩⟩)
theorem OpR.addA {o : Oper} {a : Act} {w : World} {R : Value → World → Prop} (h : OpR P ops o a w R) (hs : ∀ cs b, o.op ≠ .select cs b) (S : List SA) (hS : ∀ s ∈ S, s.1.t ∉ o.looksAt ops) :
    OpR P ops o (addA a S) w R := by
  obtain ⟨e1, e2⟩ := exec_addA (ops := ops) hs a S hS
  unfold OpR at *
  rw [e1, e2]
  exact h

/-- The laying of a new variable, whenever it comes. -/
theorem al_step {x : Al} (ok : AlOk P ops k0 x) {a : Act} {w : World} {K : Act → World → Prop} (h : K (a.put (some x.t) (.pointer (some ⟨w.heap.size, 0, none⟩))) (w.alloc x.o)) : wpOp P ops Q x.i K a w := by
  obtain ⟨o, h1, h2, h3, _, h5⟩ := ok.ex
  unfold Go.wpOp
  simp only [h1]
  rw [if_pos (by simp [Region.wanted, h3])]
  left
  unfold Oper.wp
  rw [h5]
  show K (a.put o.dst _) _
  rw [h2]
  exact h
theorem al_ready {x : Al} (ok : AlOk P ops k0 x) {L : Array Bool} (h : L.getD x.i true = false) : x.i ∈ Region.ready .any ops L := by
  obtain ⟨o, h1, _, _, h4, _⟩ := ok.ex
  exact mem_ready.2 ⟨h, o, h1, fun e he => by rw [h4] at he; simp at he⟩

/-- The step of all laws on E: a new variable is laid. -/
theorem E_alloc {h0 : Hp} {AL : List Al} {L : Array Bool} {a : Act} {w' : World} {h' : Hp} {S : List SA} {T : List Al} {x : Al}
    (oks : ∀ x ∈ AL, AlOk P ops k0 x) (hM : ∀ b ∈ M.l, b < h0.size) (g : G w' h') (hsz : h0.size ≤ h'.size) (hp : (S.map (·.1) ++ T).Perm AL) (hb : ∀ s ∈ S, Blk h0 w' h' s) (hn : (S.map (·.2)).Nodup) (hx : x ∈ T)
    (ih : ∀ (w1 : World) (h1 : Hp) (S1 : List SA) (T1 : List Al), Up w' h' w1 h1 → (S1.map (·.1) ++ T1).Perm AL → (∀ s ∈ S1, Blk h0 w1 h1 s) → (S1.map (·.2)).Nodup → T1.length < T.length → A M P ops Q k0 (addL L S1) (addA a S1) w1) :
    wpOp P ops Q x.i (fun a' w1 => Rl M k0 x.i w' w1 ∧ A M P ops Q k0 ((addL L S).setIfInBounds x.i true) a' w1) (addA a S) w' := by
  have hxAL : x ∈ AL := hp.mem_iff.1 (List.mem_append.2 (.inr hx))
  obtain ⟨T1, hT⟩ : ∃ T1, T.Perm (x :: T1) := by
    obtain ⟨l1, l2, rfl⟩ := List.append_of_mem hx
    exact ⟨l1 ++ l2, List.perm_middle⟩
  have u : Up w' h' (w'.alloc x.o) (h'.push junk) := Up.allocAny g _ _ (.inr rfl)
  refine al_step (oks x hxAL) ⟨Rl.mo (oks x hxAL).lt (u.m M.l).mo, ?_⟩
  refine ih (w'.alloc x.o) (h'.push junk) ((x, w'.heap.size) :: S) T1 u ?_ ?_ ?_ ?_
  · refine List.Perm.trans ?_ hp
    show (x :: (S.map (·.1) ++ T1)).Perm _
    refine List.Perm.trans List.perm_middle.symm ?_
    exact List.Perm.append_left _ hT.symm
  · intro s hs
    rcases List.mem_cons.1 hs with rfl | hs
    · refine ⟨?_, ?_, ?_⟩
      · rw [heap_alloc]; exact Array.getElem?_push_size
      · rw [g.size]; exact Array.getElem?_push_size
      · show h0.size ≤ w'.heap.size; rw [g.size]; exact hsz
    · exact (hb s hs).up (u.m M.l) hM
  · show (w'.heap.size :: S.map (·.2)).Nodup
    refine List.nodup_cons.2 ⟨fun hm => ?_, hn⟩
    obtain ⟨s, hs, he⟩ := List.mem_map.1 hm
    have := (hb s hs).lt
    omega
  · have := hT.length_eq
    simp at this
    omega
theorem al_of_ready {AL : List Al} {L : Array Bool} {S : List SA} {T : List Al} {x : Al} (hp : (S.map (·.1) ++ T).Perm AL) (hx : x ∈ AL) (hr : x.i ∈ Region.ready .any ops (addL L S)) : x ∈ T := by
  rcases List.mem_append.1 (hp.mem_iff.2 hx) with hm | hm
  · obtain ⟨s, hs, he⟩ := List.mem_map.1 hm
    have h1 := (mem_ready.1 hr).1
    exfalso
    rw [← he] at h1
    clear hr hp hm he
    induction S with
    | nil => cases hs
    | cons t S ih =>
      have h' : ((addL L S).setIfInBounds t.1.i true).getD s.1.i true = false := h1
      by_cases e : t.1.i = s.1.i
      · rw [e] at h'
        obtain ⟨hl, he⟩ := unl h'
        simp at he
      · rw [getD_set_ne true e] at h'
        rcases List.mem_cons.1 hs with rfl | hs'
        · exact e rfl
        · exact ih hs' h'
  · exact hm
end region
end Go.Proofs.YtmkonbkdjmfjhaaGreatDoor
