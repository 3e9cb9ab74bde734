/- Contracts of package frac's small functions: isWhole, Den, Num, Sign, Of, Neg, Abs. -/
import Derived.Test.YtmkonbkdjmfjhaaGreatDoorFracA
namespace Go.Proofs.YtmkonbkdjmfjhaaGreatDoor
open Go.RowKit
attribute [local go_sem ↓] Go.wp_at_zero Go.wp_at_succ

theorem bitLen_eq00 (n : Nat) : ((Lib.bitLen n : Int) == 0) = decide (n = 0) := bitLen_eq0 n
theorem qd_zero (q : Rat) : decide (qd q = 0) = decide (q.den = 1) := by
  unfold qd
  have := q.den_pos
  by_cases h : q.den = 1
  · simp [h]
  · have e : q.den ≠ 0 := by omega
    simp [h, e]
theorem qd_le (q : Rat) : qd q ≤ q.den := by unfold qd; split <;> omega

set_option maxHeartbeats 400000 in
theorem fracIsWhole (q : Rat) (hd : q.den < 18446744073709551616) (w : World) :
    Calls Tryz.prog 59 #[.agg #[.bool (ineg (q).num), .int .u64 ((iabs (q).num : Nat) : Int), .string ⟨#[]⟩, .int .u64 ((qd (q) : Nat) : Int), .string ⟨#[]⟩]] w fun e w' => e = .returned (.bool (decide (q.den = 1))) ∧ Ext w w' := by
  have HB := Lib.hid (natBits (qd q) (Nat.lt_of_le_of_lt (qd_le q) hd))
  have hb := bitLen_eq0 (qd q)
  rw [qd_zero q] at hb
  have HE := Lib.hid hb
  clear hb hd
  generalize Lib.bitLen (qd q) = L at *
  generalize qd q = d at *
  generalize decide (q.den = 1) = r at *
  go_enter Tryz.func59, Tryz.ntmps59
  go_wp2_with (go_at_call 54; refine (HB.out _).mono ?_; rintro e w1 ⟨rfl, hx⟩)
  go_ret
  exact ⟨by rw [← HE.out]; rfl, by (repeat' (first | with_reducible exact Ext.refl _ | with_reducible refine Ext.setCell ?_ ?_ _ | with_reducible refine Ext.alloc ?_ _ | with_reducible refine Ext.drew ?_ | with_reducible refine Ext.drewN ?_ _ | with_reducible assumption | with_reducible refine Ext.trans ?_ (by assumption))) <;> (first | (simp; done) | (simp; omega) | omega)⟩

set_option maxHeartbeats 400000 in
theorem fracDen (q : Rat) (hd : q.den < 18446744073709551616) (w : World) :
    Calls Tryz.prog 62 #[.agg #[.bool (ineg (q).num), .int .u64 ((iabs (q).num : Nat) : Int), .string ⟨#[]⟩, .int .u64 ((qd (q) : Nat) : Int), .string ⟨#[]⟩]] w fun e w' => e = .returned (.agg #[.int .u64 ((q.den : Nat) : Int), .string ⟨#[]⟩]) ∧ Ext w w' := by
  have HB := Lib.hid (fracIsWhole q hd)
  by_cases h1 : q.den = 1
  · have e1 : decide (q.den = 1) = true := by simp [h1]
    rw [e1] at HB
    rw [h1]
    clear e1 h1 hd
    go_enter Tryz.func62, Tryz.ntmps62
    go_wp2_with fail
    refine (HB.out _).mono ?_
    rintro e w1 ⟨rfl, hx⟩
    obtain ⟨hc, hf, hl⟩ := bext hx
    go_wp2_with fail
    refine (natOf 1 _).mono ?_
    rintro e w2 ⟨rfl, hx2⟩
    obtain ⟨r0, zf0⟩ := Ext.both hx (p := ⟨w.heap.size + 1, 0, none⟩) (v := .int .u64 0) (by first | with_reducible assumption | (simp [go_sem]; done) | (simp [go_sem, *]; done)) (by first | with_reducible assumption | (simp [go_sem]; done) | (simp [go_sem, *]; done)); obtain ⟨r1, zf1⟩ := Ext.both hx (p := ⟨w.heap.size + 1, 1, none⟩) (v := .string ⟨#[]⟩) (by first | with_reducible assumption | (simp [go_sem]; done) | (simp [go_sem, *]; done)) (by first | with_reducible assumption | (simp [go_sem]; done) | (simp [go_sem, *]; done))
    obtain ⟨r0, zf0⟩ := Ext.both hx2 (p := ⟨w.heap.size + 1, 0, none⟩) (v := .int .u64 0) (by first | with_reducible assumption | (simp [go_sem]; done) | (simp [go_sem, *]; done)) (by first | with_reducible assumption | (simp [go_sem]; done) | (simp [go_sem, *]; done)); obtain ⟨r1, zf1⟩ := Ext.both hx2 (p := ⟨w.heap.size + 1, 1, none⟩) (v := .string ⟨#[]⟩) (by first | with_reducible assumption | (simp [go_sem]; done) | (simp [go_sem, *]; done)) (by first | with_reducible assumption | (simp [go_sem]; done) | (simp [go_sem, *]; done))
    go_wp2
    refine bodyPost_ret (v := .agg #[.int .u64 ((1 : Nat) : Int), .string ⟨#[]⟩]) (by simp [results, Tryz.results62, go_sem, r0, r1]) rfl ⟨rfl, ?_⟩
    (repeat' (first | with_reducible exact Ext.refl _ | with_reducible refine Ext.setCell ?_ ?_ _ | with_reducible refine Ext.alloc ?_ _ | with_reducible refine Ext.drew ?_ | with_reducible refine Ext.drewN ?_ _ | with_reducible assumption | with_reducible refine Ext.trans ?_ (by assumption))) <;> (first | (simp; done) | (simp; omega) | omega)
  · have e1 : decide (q.den = 1) = false := by simp [h1]
    have e2 : qd q = q.den := if_neg h1
    rw [e1] at HB
    rw [e2] at HB ⊢
    clear e1 h1 hd e2
    go_enter Tryz.func62, Tryz.ntmps62
    go_wp2_with fail
    refine (HB.out _).mono ?_
    rintro e w1 ⟨rfl, hx⟩
    obtain ⟨ra3, zfa3⟩ := Ext.both hx (p := ⟨w.heap.size, 3, none⟩) (v := .int .u64 (q.den : Int)) (by first | with_reducible assumption | (simp [go_sem]; done) | (simp [go_sem, *]; done)) (by first | with_reducible assumption | (simp [go_sem]; done) | (simp [go_sem, *]; done)); obtain ⟨ra4, zfa4⟩ := Ext.both hx (p := ⟨w.heap.size, 4, none⟩) (v := .string ⟨#[]⟩) (by first | with_reducible assumption | (simp [go_sem]; done) | (simp [go_sem, *]; done)) (by first | with_reducible assumption | (simp [go_sem]; done) | (simp [go_sem, *]; done))
    obtain ⟨r0, zf0⟩ := Ext.both hx (p := ⟨w.heap.size + 1, 0, none⟩) (v := .int .u64 0) (by first | with_reducible assumption | (simp [go_sem]; done) | (simp [go_sem, *]; done)) (by first | with_reducible assumption | (simp [go_sem]; done) | (simp [go_sem, *]; done)); obtain ⟨r1, zf1⟩ := Ext.both hx (p := ⟨w.heap.size + 1, 1, none⟩) (v := .string ⟨#[]⟩) (by first | with_reducible assumption | (simp [go_sem]; done) | (simp [go_sem, *]; done)) (by first | with_reducible assumption | (simp [go_sem]; done) | (simp [go_sem, *]; done))
    go_wp2
    refine bodyPost_ret (v := .agg #[.int .u64 ((q.den : Nat) : Int), .string ⟨#[]⟩]) (by simp [results, Tryz.results62, go_sem, r0, r1]) rfl ⟨rfl, ?_⟩
    (repeat' (first | with_reducible exact Ext.refl _ | with_reducible refine Ext.setCell ?_ ?_ _ | with_reducible refine Ext.alloc ?_ _ | with_reducible refine Ext.drew ?_ | with_reducible refine Ext.drewN ?_ _ | with_reducible assumption | with_reducible refine Ext.trans ?_ (by assumption))) <;> (first | (simp; done) | (simp; omega) | omega)

set_option maxHeartbeats 400000 in
theorem fracSign (q : Rat) (h : iabs q.num < 18446744073709551616) (w : World) :
    Calls Tryz.prog 37 #[.agg #[.bool (ineg (q).num), .int .u64 ((iabs (q).num : Nat) : Int), .string ⟨#[]⟩, .int .u64 ((qd (q) : Nat) : Int), .string ⟨#[]⟩]] w fun e w' => e = .returned (.int .i64 q.num.sign) ∧ Ext w w' := by
  have H := Lib.hid (wholeSign q.num h)
  clear h
  generalize q.num.sign = s at *
  go_enter Tryz.func37, Tryz.ntmps37
  go_wp2_with (go_at_call 50; refine (H.out _).mono ?_; rintro e w1 ⟨rfl, hx⟩)
  go_ret
  exact ⟨rfl, by (repeat' (first | with_reducible exact Ext.refl _ | with_reducible refine Ext.setCell ?_ ?_ _ | with_reducible refine Ext.alloc ?_ _ | with_reducible refine Ext.drew ?_ | with_reducible refine Ext.drewN ?_ _ | with_reducible assumption | with_reducible refine Ext.trans ?_ (by assumption))) <;> (first | (simp; done) | (simp; omega) | omega)⟩

set_option maxHeartbeats 400000 in
theorem fracNum (q : Rat) (w : World) :
    Calls Tryz.prog 97 #[.agg #[.bool (ineg (q).num), .int .u64 ((iabs (q).num : Nat) : Int), .string ⟨#[]⟩, .int .u64 ((qd (q) : Nat) : Int), .string ⟨#[]⟩]] w fun e w' => e = .returned (.agg #[.bool (ineg q.num), .int .u64 ((iabs q.num : Nat) : Int), .string ⟨#[]⟩]) ∧ Ext w w' := by
  go_enter Tryz.func97, Tryz.ntmps97
  go_wp2
  refine bodyPost_ret (v := .agg #[.bool (ineg q.num), .int .u64 ((iabs q.num : Nat) : Int), .string ⟨#[]⟩]) (by simp [results, Tryz.results97, go_sem]) rfl ⟨rfl, ?_⟩
  (repeat' (first | with_reducible exact Ext.refl _ | with_reducible refine Ext.setCell ?_ ?_ _ | with_reducible refine Ext.alloc ?_ _ | with_reducible refine Ext.drew ?_ | with_reducible refine Ext.drewN ?_ _ | with_reducible assumption | with_reducible refine Ext.trans ?_ (by assumption))) <;> (first | (simp; done) | (simp; omega) | omega)

theorem qd_int (z : Int) : qd (z : Rat) = 0 := rfl
set_option maxHeartbeats 400000 in
theorem fracOf (n : Int) (h0 : -9223372036854775808 ≤ n) (h1 : n ≤ 9223372036854775807) (w : World) :
    Calls Tryz.prog 18 #[.int .i64 n] w fun e w' => e = .returned (.agg #[.bool (ineg ((n : Rat)).num), .int .u64 ((iabs ((n : Rat)).num : Nat) : Int), .string ⟨#[]⟩, .int .u64 ((qd ((n : Rat)) : Nat) : Int), .string ⟨#[]⟩]) ∧ Ext w w' := by
  have H := Lib.hid (wholeOf n h0 h1)
  rw [qd_int, Rat.num_intCast]
  clear h0 h1
  go_enter Tryz.func18, Tryz.ntmps18
  go_wp2_with fail
  refine (H.out _).mono ?_
  rintro e w1 ⟨rfl, hx⟩
  obtain ⟨r0, zf0⟩ := Ext.both hx (p := ⟨w.heap.size, 0, none⟩) (v := .bool false) (by first | with_reducible assumption | (simp [go_sem]; done) | (simp [go_sem, *]; done)) (by first | with_reducible assumption | (simp [go_sem]; done) | (simp [go_sem, *]; done)); obtain ⟨r1, zf1⟩ := Ext.both hx (p := ⟨w.heap.size, 1, none⟩) (v := .int .u64 0) (by first | with_reducible assumption | (simp [go_sem]; done) | (simp [go_sem, *]; done)) (by first | with_reducible assumption | (simp [go_sem]; done) | (simp [go_sem, *]; done)); obtain ⟨r2, zf2⟩ := Ext.both hx (p := ⟨w.heap.size, 2, none⟩) (v := .string ⟨#[]⟩) (by first | with_reducible assumption | (simp [go_sem]; done) | (simp [go_sem, *]; done)) (by first | with_reducible assumption | (simp [go_sem]; done) | (simp [go_sem, *]; done)); obtain ⟨r3, zf3⟩ := Ext.both hx (p := ⟨w.heap.size, 3, none⟩) (v := .int .u64 0) (by first | with_reducible assumption | (simp [go_sem]; done) | (simp [go_sem, *]; done)) (by first | with_reducible assumption | (simp [go_sem]; done) | (simp [go_sem, *]; done)); obtain ⟨r4, zf4⟩ := Ext.both hx (p := ⟨w.heap.size, 4, none⟩) (v := .string ⟨#[]⟩) (by first | with_reducible assumption | (simp [go_sem]; done) | (simp [go_sem, *]; done)) (by first | with_reducible assumption | (simp [go_sem]; done) | (simp [go_sem, *]; done))
  go_wp2
  refine bodyPost_ret (v := .agg #[.bool (ineg n), .int .u64 ((iabs n : Nat) : Int), .string ⟨#[]⟩, .int .u64 0, .string ⟨#[]⟩]) (by simp [results, Tryz.results18, go_sem, r0, r1, r2, r3, r4]) rfl ⟨rfl, ?_⟩
  (repeat' (first | with_reducible exact Ext.refl _ | with_reducible refine Ext.setCell ?_ ?_ _ | with_reducible refine Ext.alloc ?_ _ | with_reducible refine Ext.drew ?_ | with_reducible refine Ext.drewN ?_ _ | with_reducible assumption | with_reducible refine Ext.trans ?_ (by assumption))) <;> (first | (simp; done) | (simp; omega) | omega)

set_option maxHeartbeats 1000000 in
theorem fracNeg (q : Rat) (h : iabs q.num < 18446744073709551616) (w : World) :
    Calls Tryz.prog 68 #[.agg #[.bool (ineg (q).num), .int .u64 ((iabs (q).num : Nat) : Int), .string ⟨#[]⟩, .int .u64 ((qd (q) : Nat) : Int), .string ⟨#[]⟩]] w fun e w' => e = .returned (.agg #[.bool (ineg (-q).num), .int .u64 ((iabs (-q).num : Nat) : Int), .string ⟨#[]⟩, .int .u64 ((qd (-q) : Nat) : Int), .string ⟨#[]⟩]) ∧ Ext w w' := by
  have H := Lib.hid (wholeNeg q.num h)
  have e1 : (-q).num = -q.num := rfl
  have e2 : qd (-q) = qd q := rfl
  rw [e1, e2]
  clear h e1 e2
  generalize -q.num = z2 at *
  go_enter Tryz.func68, Tryz.ntmps68
  go_wp2
  go_region_held3 (fun w' => w'.cell? ⟨w.heap.size, 0, none⟩ = some (.bool (ineg (q).num)) ∧ w'.cell? ⟨w.heap.size, 1, none⟩ = some (.int .u64 ((iabs (q).num : Nat) : Int)) ∧ w'.cell? ⟨w.heap.size, 2, none⟩ = some (.string ⟨#[]⟩) ∧ w'.cell? ⟨w.heap.size, 3, none⟩ = some (.int .u64 ((qd (q) : Nat) : Int)) ∧ w'.cell? ⟨w.heap.size, 4, none⟩ = some (.string ⟨#[]⟩)) ((go_split_ands; refine ⟨?_, ?_, ?_, ?_, ?_⟩ <;> (first | (with_reducible exact Ext.some hx (by assumption)) | (with_reducible exact Ext.some ((Ext.refl _).alloc _) (by assumption)) | ((repeat rw [cell_set_ne _ (by omega)]); with_reducible assumption) | (go_simp; done) | go_keep))) ((first | (go_at_call 51; (with_reducible refine (H.out _).mono ?_); rintro e w1 ⟨rfl, hx⟩; obtain ⟨r0, zf0⟩ := Ext.both hx (p := ⟨w.heap.size + 1, 0, none⟩) (v := .bool false) (by first | with_reducible assumption | (simp [go_sem]; done) | (simp [go_sem, *]; done)) (by first | with_reducible assumption | (simp [go_sem]; done) | (simp [go_sem, *]; done)); obtain ⟨r1, zf1⟩ := Ext.both hx (p := ⟨w.heap.size + 1, 1, none⟩) (v := .int .u64 0) (by first | with_reducible assumption | (simp [go_sem]; done) | (simp [go_sem, *]; done)) (by first | with_reducible assumption | (simp [go_sem]; done) | (simp [go_sem, *]; done)); obtain ⟨r2, zf2⟩ := Ext.both hx (p := ⟨w.heap.size + 1, 2, none⟩) (v := .string ⟨#[]⟩) (by first | with_reducible assumption | (simp [go_sem]; done) | (simp [go_sem, *]; done)) (by first | with_reducible assumption | (simp [go_sem]; done) | (simp [go_sem, *]; done)); obtain ⟨r3, zf3⟩ := Ext.both hx (p := ⟨w.heap.size + 1, 3, none⟩) (v := .int .u64 0) (by first | with_reducible assumption | (simp [go_sem]; done) | (simp [go_sem, *]; done)) (by first | with_reducible assumption | (simp [go_sem]; done) | (simp [go_sem, *]; done)); obtain ⟨r4, zf4⟩ := Ext.both hx (p := ⟨w.heap.size + 1, 4, none⟩) (v := .string ⟨#[]⟩) (by first | with_reducible assumption | (simp [go_sem]; done) | (simp [go_sem, *]; done)) (by first | with_reducible assumption | (simp [go_sem]; done) | (simp [go_sem, *]; done)))))
  go_wp2
  refine bodyPost_ret (v := .agg #[.bool (ineg z2), .int .u64 ((iabs z2 : Nat) : Int), .string ⟨#[]⟩, .int .u64 ((qd q : Nat) : Int), .string ⟨#[]⟩]) (by simp [results, Tryz.results68, go_sem, r0, r1, r2, r3, r4]) rfl ⟨rfl, ?_⟩
  (repeat' (first | with_reducible exact Ext.refl _ | with_reducible refine Ext.setCell ?_ ?_ _ | with_reducible refine Ext.alloc ?_ _ | with_reducible refine Ext.drew ?_ | with_reducible refine Ext.drewN ?_ _ | with_reducible assumption | with_reducible refine Ext.trans ?_ (by assumption))) <;> (first | (simp; done) | (simp; omega) | omega)

end Go.Proofs.YtmkonbkdjmfjhaaGreatDoor
