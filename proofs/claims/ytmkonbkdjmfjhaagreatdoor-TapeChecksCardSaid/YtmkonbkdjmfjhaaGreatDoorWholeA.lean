/- Contract of whole.Int.Add for numbers of one word. -/
import Derived.Test.YtmkonbkdjmfjhaaGreatDoorWholeS
namespace Go.Proofs.YtmkonbkdjmfjhaaGreatDoor
open Go.RowKit
attribute [local go_sem ↓] Go.wp_at_zero Go.wp_at_succ

theorem sgn_add (p : Bool) (a b : Nat) : sgn p (a + b) = sgn p a + sgn p b := by cases p <;> simp [sgn] <;> omega
theorem sgn_sub (p q : Bool) (h : p ≠ q) (a b : Nat) (hb : b ≤ a) : sgn p (a - b) = sgn p a + sgn q b := by
  cases p <;> cases q <;> simp [sgn] at * <;> omega
theorem sgn_sub' (p q : Bool) (h : p ≠ q) (a b : Nat) (hb : a < b) : sgn q (b - a) = sgn p a + sgn q b := by
  cases p <;> cases q <;> simp [sgn] at * <;> omega

set_option maxHeartbeats 400000 in
theorem wholeAdd_same (p : Bool) (a b : Nat) (h : a + b < 18446744073709551616) (w : World) :
    Calls Tryz.prog 60 #[.agg #[.bool p, .int .u64 (a : Int), .string ⟨#[]⟩], .agg #[.bool p, .int .u64 (b : Int), .string ⟨#[]⟩]] w fun e w' => e = .returned (.agg #[.bool (ineg (sgn p a + sgn p b)), .int .u64 ((iabs (sgn p a + sgn p b) : Nat) : Int), .string ⟨#[]⟩]) ∧ Ext w w' := by
  have M := Lib.hid (natAdd a b h)
  have F := Lib.hid (wholeFrom p (a + b) h)
  rw [sgn_add p a b] at F
  clear h
  generalize a + b = m at *
  generalize ineg (sgn p a + sgn p b) = n2 at *
  generalize iabs (sgn p a + sgn p b) = a2 at *
  go_enter Tryz.func60, Tryz.ntmps60
  go_wp2
  go_region_held3 (fun w' => w'.cell? ⟨w.heap.size, 0, none⟩ = some (.bool p) ∧ w'.cell? ⟨w.heap.size, 1, none⟩ = some (.int .u64 (a : Int)) ∧ w'.cell? ⟨w.heap.size, 2, none⟩ = some (.string ⟨#[]⟩) ∧ w'.cell? ⟨w.heap.size + 1, 1, none⟩ = some (.int .u64 (b : Int)) ∧ w'.cell? ⟨w.heap.size + 1, 2, none⟩ = some (.string ⟨#[]⟩)) ((go_split_ands; refine ⟨?_, ?_, ?_, ?_, ?_⟩ <;> (first | (with_reducible exact Ext.some hx (by assumption)) | (with_reducible exact Ext.some ((Ext.refl _).alloc _) (by assumption)) | ((repeat rw [cell_set_ne _ (by omega)]); with_reducible assumption) | (go_simp; done) | go_keep))) ((first | (go_at_call 87; refine (M.out _).mono ?_; rintro e w1 ⟨rfl, hx⟩; obtain ⟨r0, zf0⟩ := Ext.both hx (p := ⟨w.heap.size + 1 + 1, 0, none⟩) (v := .bool false) (by first | with_reducible assumption | (simp [go_sem]; done) | (simp [go_sem, *]; done)) (by first | with_reducible assumption | (simp [go_sem]; done) | (simp [go_sem, *]; done)); obtain ⟨r1, zf1⟩ := Ext.both hx (p := ⟨w.heap.size + 1 + 1, 1, none⟩) (v := .int .u64 0) (by first | with_reducible assumption | (simp [go_sem]; done) | (simp [go_sem, *]; done)) (by first | with_reducible assumption | (simp [go_sem]; done) | (simp [go_sem, *]; done)); obtain ⟨r2, zf2⟩ := Ext.both hx (p := ⟨w.heap.size + 1 + 1, 2, none⟩) (v := .string ⟨#[]⟩) (by first | with_reducible assumption | (simp [go_sem]; done) | (simp [go_sem, *]; done)) (by first | with_reducible assumption | (simp [go_sem]; done) | (simp [go_sem, *]; done))) | (go_at_call 33; refine (F.out _).mono ?_; rintro e w2 ⟨rfl, hx⟩; obtain ⟨r0, zf0⟩ := Ext.both hx (p := ⟨w.heap.size + 1 + 1, 0, none⟩) (v := .bool false) (by first | with_reducible assumption | (simp [go_sem]; done) | (simp [go_sem, *]; done)) (by first | with_reducible assumption | (simp [go_sem]; done) | (simp [go_sem, *]; done)); obtain ⟨r1, zf1⟩ := Ext.both hx (p := ⟨w.heap.size + 1 + 1, 1, none⟩) (v := .int .u64 0) (by first | with_reducible assumption | (simp [go_sem]; done) | (simp [go_sem, *]; done)) (by first | with_reducible assumption | (simp [go_sem]; done) | (simp [go_sem, *]; done)); obtain ⟨r2, zf2⟩ := Ext.both hx (p := ⟨w.heap.size + 1 + 1, 2, none⟩) (v := .string ⟨#[]⟩) (by first | with_reducible assumption | (simp [go_sem]; done) | (simp [go_sem, *]; done)) (by first | with_reducible assumption | (simp [go_sem]; done) | (simp [go_sem, *]; done)))))
  go_wp2
  refine bodyPost_ret (v := .agg #[.bool n2, .int .u64 (a2 : Int), .string ⟨#[]⟩]) (by simp [results, Tryz.results60, go_sem, r0, r1, r2]) rfl ⟨rfl, ?_⟩
  (repeat' (first | with_reducible exact Ext.refl _ | with_reducible refine Ext.setCell ?_ ?_ _ | with_reducible refine Ext.alloc ?_ _ | with_reducible refine Ext.drew ?_ | with_reducible refine Ext.drewN ?_ _ | with_reducible assumption | with_reducible refine Ext.trans ?_ (by assumption))) <;> (first | (simp; done) | (simp; omega) | omega)

set_option maxHeartbeats 400000 in
theorem wholeAdd_ge (p q : Bool) (hpq : p ≠ q) (a b : Nat) (hb : b ≤ a) (h : a < 18446744073709551616) (w : World) :
    Calls Tryz.prog 60 #[.agg #[.bool p, .int .u64 (a : Int), .string ⟨#[]⟩], .agg #[.bool q, .int .u64 (b : Int), .string ⟨#[]⟩]] w fun e w' => e = .returned (.agg #[.bool (ineg (sgn p a + sgn q b)), .int .u64 ((iabs (sgn p a + sgn q b) : Nat) : Int), .string ⟨#[]⟩]) ∧ Ext w w' := by
  have M := Lib.hid (natSub a b hb h)
  have F := Lib.hid (wholeFrom p (a - b) (by omega))
  rw [sgn_sub p q hpq a b hb] at F
  have hne : (p == q) = false := by simpa using hpq
  clear h hb hpq
  generalize a - b = m at *
  generalize ineg (sgn p a + sgn q b) = n2 at *
  generalize iabs (sgn p a + sgn q b) = a2 at *
  go_enter Tryz.func60, Tryz.ntmps60
  go_wp2_with fail
  refine (M.out _).mono ?_
  rintro e w1 ⟨rfl, hx⟩
  have lw10 : w.heap.size < w1.heap.size := (by have hz := Ext.size hx; (try simp at hz); omega); have lw11 : w.heap.size + 1 < w1.heap.size := (by have hz := Ext.size hx; (try simp at hz); omega); have lw12 : w.heap.size + 1 + 1 < w1.heap.size := (by have hz := Ext.size hx; (try simp at hz); omega)
  obtain ⟨ra0, zfa0⟩ := Ext.both hx (p := ⟨w.heap.size, 0, none⟩) (v := .bool p) (by first | with_reducible assumption | (simp [go_sem]; done) | (simp [go_sem, *]; done)) (by first | with_reducible assumption | (simp [go_sem]; done) | (simp [go_sem, *]; done))
  obtain ⟨r0, zf0⟩ := Ext.both hx (p := ⟨w.heap.size + 1 + 1, 0, none⟩) (v := .bool false) (by first | with_reducible assumption | (simp [go_sem]; done) | (simp [go_sem, *]; done)) (by first | with_reducible assumption | (simp [go_sem]; done) | (simp [go_sem, *]; done)); obtain ⟨r1, zf1⟩ := Ext.both hx (p := ⟨w.heap.size + 1 + 1, 1, none⟩) (v := .int .u64 0) (by first | with_reducible assumption | (simp [go_sem]; done) | (simp [go_sem, *]; done)) (by first | with_reducible assumption | (simp [go_sem]; done) | (simp [go_sem, *]; done)); obtain ⟨r2, zf2⟩ := Ext.both hx (p := ⟨w.heap.size + 1 + 1, 2, none⟩) (v := .string ⟨#[]⟩) (by first | with_reducible assumption | (simp [go_sem]; done) | (simp [go_sem, *]; done)) (by first | with_reducible assumption | (simp [go_sem]; done) | (simp [go_sem, *]; done))
  go_wp2_with fail
  refine (F.out _).mono ?_
  rintro e w2 ⟨rfl, hx2⟩
  obtain ⟨r0, zf0⟩ := Ext.both hx2 (p := ⟨w.heap.size + 1 + 1, 0, none⟩) (v := .bool false) (by first | with_reducible assumption | (simp [go_sem]; done) | (simp [go_sem, *]; done)) (by first | with_reducible assumption | (simp [go_sem]; done) | (simp [go_sem, *]; done)); obtain ⟨r1, zf1⟩ := Ext.both hx2 (p := ⟨w.heap.size + 1 + 1, 1, none⟩) (v := .int .u64 0) (by first | with_reducible assumption | (simp [go_sem]; done) | (simp [go_sem, *]; done)) (by first | with_reducible assumption | (simp [go_sem]; done) | (simp [go_sem, *]; done)); obtain ⟨r2, zf2⟩ := Ext.both hx2 (p := ⟨w.heap.size + 1 + 1, 2, none⟩) (v := .string ⟨#[]⟩) (by first | with_reducible assumption | (simp [go_sem]; done) | (simp [go_sem, *]; done)) (by first | with_reducible assumption | (simp [go_sem]; done) | (simp [go_sem, *]; done))
  go_wp2
  refine bodyPost_ret (v := .agg #[.bool n2, .int .u64 (a2 : Int), .string ⟨#[]⟩]) (by simp [results, Tryz.results60, go_sem, r0, r1, r2]) rfl ⟨rfl, ?_⟩
  (repeat' (first | with_reducible exact Ext.refl _ | with_reducible refine Ext.setCell ?_ ?_ _ | with_reducible refine Ext.alloc ?_ _ | with_reducible refine Ext.drew ?_ | with_reducible refine Ext.drewN ?_ _ | with_reducible assumption | with_reducible refine Ext.trans ?_ (by assumption))) <;> (first | (simp; done) | (simp; omega) | omega)

set_option maxHeartbeats 400000 in
theorem wholeAdd_lt (p q : Bool) (hpq : p ≠ q) (a b : Nat) (hb : a < b) (h : b < 18446744073709551616) (w : World) :
    Calls Tryz.prog 60 #[.agg #[.bool p, .int .u64 (a : Int), .string ⟨#[]⟩], .agg #[.bool q, .int .u64 (b : Int), .string ⟨#[]⟩]] w fun e w' => e = .returned (.agg #[.bool (ineg (sgn p a + sgn q b)), .int .u64 ((iabs (sgn p a + sgn q b) : Nat) : Int), .string ⟨#[]⟩]) ∧ Ext w w' := by
  have M0 := Lib.hid (natSub_no a b hb)
  have M := Lib.hid (natSub b a (by omega) h)
  have F := Lib.hid (wholeFrom q (b - a) (by omega))
  rw [sgn_sub' p q hpq a b hb] at F
  have hne : (p == q) = false := by simpa using hpq
  clear h hb hpq
  generalize b - a = m at *
  generalize ineg (sgn p a + sgn q b) = n2 at *
  generalize iabs (sgn p a + sgn q b) = a2 at *
  go_enter Tryz.func60, Tryz.ntmps60
  go_wp2_with fail
  refine (M0.out _).mono ?_
  rintro e w1 ⟨rfl, hx⟩
  have lw10 : w.heap.size < w1.heap.size := (by have hz := Ext.size hx; (try simp at hz); omega); have lw11 : w.heap.size + 1 < w1.heap.size := (by have hz := Ext.size hx; (try simp at hz); omega); have lw12 : w.heap.size + 1 + 1 < w1.heap.size := (by have hz := Ext.size hx; (try simp at hz); omega)
  obtain ⟨ra0, zfa0⟩ := Ext.both hx (p := ⟨w.heap.size, 0, none⟩) (v := .bool p) (by first | with_reducible assumption | (simp [go_sem]; done) | (simp [go_sem, *]; done)) (by first | with_reducible assumption | (simp [go_sem]; done) | (simp [go_sem, *]; done)); obtain ⟨ra1, zfa1⟩ := Ext.both hx (p := ⟨w.heap.size, 1, none⟩) (v := .int .u64 (a : Int)) (by first | with_reducible assumption | (simp [go_sem]; done) | (simp [go_sem, *]; done)) (by first | with_reducible assumption | (simp [go_sem]; done) | (simp [go_sem, *]; done)); obtain ⟨ra2, zfa2⟩ := Ext.both hx (p := ⟨w.heap.size, 2, none⟩) (v := .string ⟨#[]⟩) (by first | with_reducible assumption | (simp [go_sem]; done) | (simp [go_sem, *]; done)) (by first | with_reducible assumption | (simp [go_sem]; done) | (simp [go_sem, *]; done))
  obtain ⟨rb0, zfb0⟩ := Ext.both hx (p := ⟨w.heap.size + 1, 0, none⟩) (v := .bool q) (by first | with_reducible assumption | (simp [go_sem]; done) | (simp [go_sem, *]; done)) (by first | with_reducible assumption | (simp [go_sem]; done) | (simp [go_sem, *]; done)); obtain ⟨rb1, zfb1⟩ := Ext.both hx (p := ⟨w.heap.size + 1, 1, none⟩) (v := .int .u64 (b : Int)) (by first | with_reducible assumption | (simp [go_sem]; done) | (simp [go_sem, *]; done)) (by first | with_reducible assumption | (simp [go_sem]; done) | (simp [go_sem, *]; done)); obtain ⟨rb2, zfb2⟩ := Ext.both hx (p := ⟨w.heap.size + 1, 2, none⟩) (v := .string ⟨#[]⟩) (by first | with_reducible assumption | (simp [go_sem]; done) | (simp [go_sem, *]; done)) (by first | with_reducible assumption | (simp [go_sem]; done) | (simp [go_sem, *]; done))
  obtain ⟨r0, zf0⟩ := Ext.both hx (p := ⟨w.heap.size + 1 + 1, 0, none⟩) (v := .bool false) (by first | with_reducible assumption | (simp [go_sem]; done) | (simp [go_sem, *]; done)) (by first | with_reducible assumption | (simp [go_sem]; done) | (simp [go_sem, *]; done)); obtain ⟨r1, zf1⟩ := Ext.both hx (p := ⟨w.heap.size + 1 + 1, 1, none⟩) (v := .int .u64 0) (by first | with_reducible assumption | (simp [go_sem]; done) | (simp [go_sem, *]; done)) (by first | with_reducible assumption | (simp [go_sem]; done) | (simp [go_sem, *]; done)); obtain ⟨r2, zf2⟩ := Ext.both hx (p := ⟨w.heap.size + 1 + 1, 2, none⟩) (v := .string ⟨#[]⟩) (by first | with_reducible assumption | (simp [go_sem]; done) | (simp [go_sem, *]; done)) (by first | with_reducible assumption | (simp [go_sem]; done) | (simp [go_sem, *]; done))
  go_wp2_with fail
  refine (M.out _).mono ?_
  rintro e w2 ⟨rfl, hx2⟩
  have l2 : w1.heap.size + 1 ≤ w2.heap.size := by have hz := Ext.size hx2; simp at hz; omega
  have l20 : w.heap.size + 1 < w2.heap.size := by omega
  have l21 : w.heap.size + 1 + 1 < w2.heap.size := by omega
  obtain ⟨rb0, zfb0⟩ := Ext.both hx2 (p := ⟨w.heap.size + 1, 0, none⟩) (v := .bool q) (by first | with_reducible assumption | (simp [go_sem]; done) | (simp [go_sem, *]; done)) (by first | with_reducible assumption | (simp [go_sem]; done) | (simp [go_sem, *]; done))
  obtain ⟨r0, zf0⟩ := Ext.both hx2 (p := ⟨w.heap.size + 1 + 1, 0, none⟩) (v := .bool false) (by first | with_reducible assumption | (simp [go_sem]; done) | (simp [go_sem, *]; done)) (by first | with_reducible assumption | (simp [go_sem]; done) | (simp [go_sem, *]; done)); obtain ⟨r1, zf1⟩ := Ext.both hx2 (p := ⟨w.heap.size + 1 + 1, 1, none⟩) (v := .int .u64 0) (by first | with_reducible assumption | (simp [go_sem]; done) | (simp [go_sem, *]; done)) (by first | with_reducible assumption | (simp [go_sem]; done) | (simp [go_sem, *]; done)); obtain ⟨r2, zf2⟩ := Ext.both hx2 (p := ⟨w.heap.size + 1 + 1, 2, none⟩) (v := .string ⟨#[]⟩) (by first | with_reducible assumption | (simp [go_sem]; done) | (simp [go_sem, *]; done)) (by first | with_reducible assumption | (simp [go_sem]; done) | (simp [go_sem, *]; done))
  go_wp2_with fail
  refine (F.out _).mono ?_
  rintro e w3 ⟨rfl, hx3⟩
  obtain ⟨r0, zf0⟩ := Ext.both hx3 (p := ⟨w.heap.size + 1 + 1, 0, none⟩) (v := .bool false) (by first | with_reducible assumption | (simp [go_sem]; done) | (simp [go_sem, *]; done)) (by first | with_reducible assumption | (simp [go_sem]; done) | (simp [go_sem, *]; done)); obtain ⟨r1, zf1⟩ := Ext.both hx3 (p := ⟨w.heap.size + 1 + 1, 1, none⟩) (v := .int .u64 0) (by first | with_reducible assumption | (simp [go_sem]; done) | (simp [go_sem, *]; done)) (by first | with_reducible assumption | (simp [go_sem]; done) | (simp [go_sem, *]; done)); obtain ⟨r2, zf2⟩ := Ext.both hx3 (p := ⟨w.heap.size + 1 + 1, 2, none⟩) (v := .string ⟨#[]⟩) (by first | with_reducible assumption | (simp [go_sem]; done) | (simp [go_sem, *]; done)) (by first | with_reducible assumption | (simp [go_sem]; done) | (simp [go_sem, *]; done))
  go_wp2
  refine bodyPost_ret (v := .agg #[.bool n2, .int .u64 (a2 : Int), .string ⟨#[]⟩]) (by simp [results, Tryz.results60, go_sem, r0, r1, r2]) rfl ⟨rfl, ?_⟩
  (repeat' (first | with_reducible exact Ext.refl _ | with_reducible refine Ext.setCell ?_ ?_ _ | with_reducible refine Ext.alloc ?_ _ | with_reducible refine Ext.drew ?_ | with_reducible refine Ext.drewN ?_ _ | with_reducible assumption | with_reducible refine Ext.trans ?_ (by assumption))) <;> (first | (simp; done) | (simp; omega) | omega)

theorem wholeAdd (x y : Int) (hx : iabs x < 18446744073709551616) (hy : iabs y < 18446744073709551616) (h : iabs x + iabs y < 18446744073709551616) (w : World) :
    Calls Tryz.prog 60 #[.agg #[.bool (ineg x), .int .u64 ((iabs x : Nat) : Int), .string ⟨#[]⟩], .agg #[.bool (ineg y), .int .u64 ((iabs y : Nat) : Int), .string ⟨#[]⟩]] w fun e w' => e = .returned (.agg #[.bool (ineg (x + y)), .int .u64 ((iabs (x + y) : Nat) : Int), .string ⟨#[]⟩]) ∧ Ext w w' := by
  have ex := sgn_self x
  have ey := sgn_self y
  generalize ineg x = p at *
  generalize ineg y = q at *
  generalize iabs x = a at *
  generalize iabs y = b at *
  subst ex ey
  by_cases hpq : p = q
  · subst hpq; exact wholeAdd_same p a b h w
  · rcases Nat.lt_or_ge a b with hl | hl
    · exact wholeAdd_lt p q hpq a b hl hy w
    · exact wholeAdd_ge p q hpq a b hl hx w
end Go.Proofs.YtmkonbkdjmfjhaaGreatDoor
