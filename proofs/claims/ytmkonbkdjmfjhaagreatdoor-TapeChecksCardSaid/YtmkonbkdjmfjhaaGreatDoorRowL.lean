/- Rows of cells in memory, as predicates on worlds. No program in sight. -/
import Derived.Test.YtmkonbkdjmfjhaaGreatDoorRatL
namespace Go.Proofs.YtmkonbkdjmfjhaaGreatDoor
open Go.RowKit

/-- Block b begins with the cells vs, which may be written. -/
def Row (w : World) (b : Nat) (vs : List Value) : Prop :=
  (∀ i v, vs[i]? = some v → w.cell? ⟨b, i, none⟩ = some v ∧ w.frozen? ⟨b, i, none⟩ = false) ∧ b < w.heap.size
/-- Block b begins with the cells vs. -/
def Rd (w : World) (b : Nat) (vs : List Value) : Prop :=
  (∀ i v, vs[i]? = some v → w.cell? ⟨b, i, none⟩ = some v) ∧ b < w.heap.size
theorem Row.rd {w : World} {b : Nat} {vs : List Value} (h : Row w b vs) : Rd w b vs := ⟨fun i v hv => (h.1 i v hv).1, h.2⟩
theorem Row.ext {w w' : World} {b : Nat} {vs : List Value} (h : Row w b vs) (hx : Ext w w') : Row w' b vs :=
  ⟨fun i v hv => ⟨hx.some (h.1 i v hv).1, hx.live (h.1 i v hv).1 (h.1 i v hv).2⟩, Nat.lt_of_lt_of_le h.2 hx.size⟩
theorem Rd.ext {w w' : World} {b : Nat} {vs : List Value} (h : Rd w b vs) (hx : Ext w w') : Rd w' b vs :=
  ⟨fun i v hv => hx.some (h.1 i v hv), Nat.lt_of_lt_of_le h.2 hx.size⟩
theorem Row.drew {w : World} {b : Nat} {vs : List Value} (h : Row w b vs) : Row w.drew b vs := h
theorem Rd.drew {w : World} {b : Nat} {vs : List Value} (h : Rd w b vs) : Rd w.drew b vs := h
theorem Row.far {w : World} {b b' o : Nat} {vs : List Value} (v : Value) (h : Row w b vs) (hb : b ≠ b') : Row (w.setCell ⟨b', o, none⟩ v) b vs := by
  have e := Below.heap_setCell w ⟨b', o, none⟩ v b hb
  refine ⟨fun i u hu => ⟨(World.cell?_of_block (w := w) e).trans (h.1 i u hu).1, (World.frozen?_of_block (w := w) e).trans (h.1 i u hu).2⟩, ?_⟩
  simpa using h.2
theorem Rd.far {w : World} {b b' o : Nat} {vs : List Value} (v : Value) (h : Rd w b vs) (hb : b ≠ b') : Rd (w.setCell ⟨b', o, none⟩ v) b vs := by
  have e := Below.heap_setCell w ⟨b', o, none⟩ v b hb
  refine ⟨fun i u hu => (World.cell?_of_block (w := w) e).trans (h.1 i u hu), ?_⟩
  simpa using h.2
theorem Row.put {w : World} {b i : Nat} {vs : List Value} (h : Row w b vs) (v : Value) (hi : i < vs.length) : Row (w.setCell ⟨b, i, none⟩ v) b (vs.set i v) := by
  refine ⟨fun j u hu => ?_, by simpa using h.2⟩
  have hj : j < vs.length := by
    rcases Nat.lt_or_ge j vs.length with hl | hl
    · exact hl
    · rw [List.getElem?_eq_none (by simpa using hl)] at hu; cases hu
  have h0 := h.1 j _ (List.getElem?_eq_getElem hj)
  by_cases e : i = j
  · subst e
    rw [List.getElem?_set_self hi] at hu
    injection hu with hu
    subst hu
    refine ⟨World.cell?_setCell_same _ _ _ h0.1, ?_⟩
    rw [World.frozen?_setCell]; exact h0.2
  · rw [List.getElem?_set_ne e] at hu
    have h1 := h.1 j u hu
    refine ⟨?_, ?_⟩
    · rw [World.cell?_setCell_other _ _ _ _ (by intro h; injection h; omega)]; exact h1.1
    · rw [World.frozen?_setCell]; exact h1.2
theorem Row.new (w : World) (vs : List Value) (t : TypeId) : Row (w.alloc (.cells vs.toArray t)) w.heap.size vs := by
  refine ⟨fun i v hv => ?_, by simp⟩
  have hb : (w.alloc (.cells vs.toArray t)).heap[w.heap.size]? = some (.cells vs.toArray t (0, 0)) := heap_alloc_new w _
  refine ⟨?_, ?_⟩
  · unfold World.cell?
    rw [hb]
    simpa using hv
  · unfold World.frozen?
    rw [hb]
    simp
theorem Row.new' {w : World} {b : Nat} (vs : List Value) (t : TypeId) (hb : b = w.heap.size) : Row (w.alloc (.cells vs.toArray t)) b vs := by subst hb; exact Row.new w vs t
theorem Row.put2 {w : World} {b : Nat} (v0 v1 : Value) (h : Row w b [.int .u64 0, .string ⟨#[]⟩]) :
    Row ((w.setCell ⟨b, 0, none⟩ v0).setCell ⟨b, 1, none⟩ v1) b [v0, v1] := Row.put (Row.put h v0 (by simp)) v1 (by simp)
theorem Row.put3 {w : World} {b : Nat} (v0 v1 v2 : Value) (h : Row w b [.bool false, .int .u64 0, .string ⟨#[]⟩]) :
    Row (((w.setCell ⟨b, 0, none⟩ v0).setCell ⟨b, 1, none⟩ v1).setCell ⟨b, 2, none⟩ v2) b [v0, v1, v2] := Row.put (Row.put (Row.put h v0 (by simp)) v1 (by simp)) v2 (by simp)
theorem Row.put5 {w : World} {b : Nat} (v0 v1 v2 v3 v4 : Value) (h : Row w b [.bool false, .int .u64 0, .string ⟨#[]⟩, .int .u64 0, .string ⟨#[]⟩]) :
    Row (((((w.setCell ⟨b, 0, none⟩ v0).setCell ⟨b, 1, none⟩ v1).setCell ⟨b, 2, none⟩ v2).setCell ⟨b, 3, none⟩ v3).setCell ⟨b, 4, none⟩ v4) b [v0, v1, v2, v3, v4] :=
  Row.put (Row.put (Row.put (Row.put (Row.put h v0 (by simp)) v1 (by simp)) v2 (by simp)) v3 (by simp)) v4 (by simp)
theorem Row.allocFar {w : World} {b : Nat} {vs : List Value} (o : Obj) (h : Row w b vs) : Row (w.alloc o) b vs := h.ext ((Ext.refl _).alloc _)
end Go.Proofs.YtmkonbkdjmfjhaaGreatDoor
