/- Plain definitions and lemmas on numbers: signs, sizes, fractions, and on worlds that only grow. No program in sight. -/
import Derived.Below
import Derived.WalkKit
import Derived.Lib.Hide
import Derived.Deep.Draws
namespace Go.Proofs.YtmkonbkdjmfjhaaGreatDoor
open Go.RowKit

/-- The world has only grown: what lay there lies there unchanged. -/
def Ext (w w' : World) : Prop := Below w.heap.size w w'
theorem Ext.refl (w : World) : Ext w w := Below.refl _ _
theorem Ext.trans {a b c : World} (h : Ext a b) (k : Ext b c) : Ext a c := Below.trans h (Below.mono k h.size)
theorem Ext.alloc {a w : World} (h : Ext a w) (o : Obj) : Ext a (w.alloc o) := Below.alloc h h.size o
theorem Ext.drew {a w : World} (h : Ext a w) : Ext a w.drew := Below.drew h
theorem Ext.drewN {a w : World} (h : Ext a w) (n : Nat) : Ext a (w.drewN n) := ⟨h.os, h.tape, h.output, h.size, h.block⟩
theorem Ext.setCell {a w : World} (h : Ext a w) {p : Addr} (hp : a.heap.size ≤ p.block) (u : Value) : Ext a (w.setCell p u) := Below.setCell h hp u
theorem Ext.size {a w : World} (h : Ext a w) : a.heap.size ≤ w.heap.size := Below.size h
theorem Ext.cell {a w : World} (h : Ext a w) {p : Addr} (hp : p.block < a.heap.size) : w.cell? p = a.cell? p := Below.cell h hp
theorem Ext.frozen {a w : World} (h : Ext a w) {p : Addr} (hp : p.block < a.heap.size) : w.frozen? p = a.frozen? p := Below.frozen h hp

theorem Ext.some {a w : World} (h : Ext a w) {p : Addr} {v : Value} (hc : a.cell? p = .some v) : w.cell? p = .some v := by
  rcases Nat.lt_or_ge p.block a.heap.size with hl | hl
  · rw [h.cell hl]; exact hc
  · unfold World.cell? at hc
    rw [Array.getElem?_eq_none hl] at hc
    cases hc
theorem Ext.live {a w : World} (h : Ext a w) {p : Addr} {v : Value} (hc : a.cell? p = .some v) (hf : a.frozen? p = false) : w.frozen? p = false := by
  rcases Nat.lt_or_ge p.block a.heap.size with hl | hl
  · rw [h.frozen hl]; exact hf
  · unfold World.cell? at hc
    rw [Array.getElem?_eq_none hl] at hc
    cases hc
theorem Ext.both {a w : World} (h : Ext a w) {p : Addr} {v : Value} (hc : a.cell? p = .some v) (hf : a.frozen? p = false) : w.cell? p = .some v ∧ w.frozen? p = false := ⟨h.some hc, h.live hc hf⟩
theorem cell_set_ne (w : World) {b b' o o' : Nat} {v : Value} (h : b ≠ b') : (w.setCell ⟨b', o', .none⟩ v).cell? ⟨b, o, .none⟩ = w.cell? ⟨b, o, .none⟩ :=
  World.cell?_setCell_other w ⟨b', o', .none⟩ ⟨b, o, .none⟩ v (fun e => h (by injection e with e1; exact e1.symm))

def ineg (z : Int) : Bool := decide (z < 0)
def iabs (z : Int) : Nat := z.natAbs
/-- The denominator as the program keeps it: 0 stands for 1. -/
def qd (q : Rat) : Nat := if q.den = 1 then 0 else q.den
def sgn (neg : Bool) (a : Nat) : Int := if neg then -(a : Int) else a
theorem ineg_sgn (neg : Bool) (a : Nat) : ineg (sgn neg a) = (neg && decide (0 < a)) := by cases neg <;> simp [ineg, sgn] <;> omega
theorem iabs_sgn (neg : Bool) (a : Nat) : iabs (sgn neg a) = a := by cases neg <;> simp [iabs, sgn]
theorem sgn_self (z : Int) : sgn (ineg z) (iabs z) = z := by unfold sgn ineg iabs; by_cases h : z < 0 <;> simp [h] <;> omega
theorem sgn_not (z : Int) : sgn (!ineg z) (iabs z) = -z := by unfold sgn ineg iabs; by_cases h : z < 0 <;> simp [h] <;> omega
theorem ineg_true {z : Int} (h : ineg z = true) : z < 0 := by simpa [ineg] using h
theorem ineg_false {z : Int} (h : ineg z = false) : 0 ≤ z := by simpa [ineg] using h
end Go.Proofs.YtmkonbkdjmfjhaaGreatDoor
