/- Contracts of package frac's functions, for fractions whose numerator and denominator are below 2^31 (all on one word). -/
import Derived.Test.YtmkonbkdjmfjhaaGreatDoorWholeA
import Derived.Test.YtmkonbkdjmfjhaaGreatDoorWholeG
import Derived.Test.YtmkonbkdjmfjhaaGreatDoorRatL
namespace Go.Proofs.YtmkonbkdjmfjhaaGreatDoor
open Go.RowKit
attribute [local go_sem ↓] Go.wp_at_zero Go.wp_at_succ

theorem bitLen_one (n : Nat) (h : n < 18446744073709551616) : ((Lib.bitLen n : Int) == 1) = decide (n = 1) := by
  rcases Nat.lt_or_ge n 2 with h2 | h2
  · have : n = 0 ∨ n = 1 := by omega
    rcases this with rfl | rfl <;> decide +kernel
  · have e := Lib.bitLen_shift 1 n (by omega) (by omega)
    have p : 0 < n / 2 := by omega
    have := bitLen_pos p
    have e2 : n / 2 ^ 1 = n / 2 := rfl
    rw [e2] at e
    have d1 : decide (n = 1) = false := by simp; omega
    rw [d1]
    simp; omega

set_option maxHeartbeats 400000 in
theorem fracPack1 (p : Bool) (a D : Nat) (hd : D < 18446744073709551616) (h1 : D = 1) (w : World) :
    Calls Tryz.prog 65 #[.agg #[.bool p, .int .u64 (a : Int), .string ⟨#[]⟩], .agg #[.int .u64 ((D : Nat) : Int), .string ⟨#[]⟩]] w fun e w' => e = .returned (.agg #[.bool p, .int .u64 (a : Int), .string ⟨#[]⟩, .int .u64 0, .string ⟨#[]⟩]) ∧ Ext w w' := by
  have HB := Lib.hid (natBits D hd)
  have hb : ((Lib.bitLen D : Int) == 1) = true := by rw [bitLen_one D hd]; simp [h1]
  generalize Lib.bitLen D = L at *
  clear h1 hd
  go_enter Tryz.func65, Tryz.ntmps65
  go_wp2_with fail
  refine (HB.out _).mono ?_
  rintro e w1 ⟨rfl, hx⟩
  obtain ⟨ra0, zfa0⟩ := Ext.both hx (p := ⟨w.heap.size, 0, none⟩) (v := .bool p) (by first | with_reducible assumption | (simp [go_sem]; done) | (simp [go_sem, *]; done)) (by first | with_reducible assumption | (simp [go_sem]; done) | (simp [go_sem, *]; done)); obtain ⟨ra1, zfa1⟩ := Ext.both hx (p := ⟨w.heap.size, 1, none⟩) (v := .int .u64 (a : Int)) (by first | with_reducible assumption | (simp [go_sem]; done) | (simp [go_sem, *]; done)) (by first | with_reducible assumption | (simp [go_sem]; done) | (simp [go_sem, *]; done)); obtain ⟨ra2, zfa2⟩ := Ext.both hx (p := ⟨w.heap.size, 2, none⟩) (v := .string ⟨#[]⟩) (by first | with_reducible assumption | (simp [go_sem]; done) | (simp [go_sem, *]; done)) (by first | with_reducible assumption | (simp [go_sem]; done) | (simp [go_sem, *]; done))
  obtain ⟨r0, zf0⟩ := Ext.both hx (p := ⟨w.heap.size + 1 + 1, 0, none⟩) (v := .bool false) (by first | with_reducible assumption | (simp [go_sem]; done) | (simp [go_sem, *]; done)) (by first | with_reducible assumption | (simp [go_sem]; done) | (simp [go_sem, *]; done)); obtain ⟨r1, zf1⟩ := Ext.both hx (p := ⟨w.heap.size + 1 + 1, 1, none⟩) (v := .int .u64 0) (by first | with_reducible assumption | (simp [go_sem]; done) | (simp [go_sem, *]; done)) (by first | with_reducible assumption | (simp [go_sem]; done) | (simp [go_sem, *]; done)); obtain ⟨r2, zf2⟩ := Ext.both hx (p := ⟨w.heap.size + 1 + 1, 2, none⟩) (v := .string ⟨#[]⟩) (by first | with_reducible assumption | (simp [go_sem]; done) | (simp [go_sem, *]; done)) (by first | with_reducible assumption | (simp [go_sem]; done) | (simp [go_sem, *]; done)); obtain ⟨r3, zf3⟩ := Ext.both hx (p := ⟨w.heap.size + 1 + 1, 3, none⟩) (v := .int .u64 0) (by first | with_reducible assumption | (simp [go_sem]; done) | (simp [go_sem, *]; done)) (by first | with_reducible assumption | (simp [go_sem]; done) | (simp [go_sem, *]; done)); obtain ⟨r4, zf4⟩ := Ext.both hx (p := ⟨w.heap.size + 1 + 1, 4, none⟩) (v := .string ⟨#[]⟩) (by first | with_reducible assumption | (simp [go_sem]; done) | (simp [go_sem, *]; done)) (by first | with_reducible assumption | (simp [go_sem]; done) | (simp [go_sem, *]; done))
  go_wp2
  refine bodyPost_ret (v := .agg #[.bool p, .int .u64 (a : Int), .string ⟨#[]⟩, .int .u64 0, .string ⟨#[]⟩]) (by simp [results, Tryz.results65, go_sem, r0, r1, r2, r3, r4]) rfl ⟨rfl, ?_⟩
  (repeat' (first | with_reducible exact Ext.refl _ | with_reducible refine Ext.setCell ?_ ?_ _ | with_reducible refine Ext.alloc ?_ _ | with_reducible refine Ext.drew ?_ | with_reducible refine Ext.drewN ?_ _ | with_reducible assumption | with_reducible refine Ext.trans ?_ (by assumption))) <;> (first | (simp; done) | (simp; omega) | omega)
set_option maxHeartbeats 400000 in
theorem fracPack2 (p : Bool) (a D : Nat) (hd : D < 18446744073709551616) (h1 : D ≠ 1) (w : World) :
    Calls Tryz.prog 65 #[.agg #[.bool p, .int .u64 (a : Int), .string ⟨#[]⟩], .agg #[.int .u64 ((D : Nat) : Int), .string ⟨#[]⟩]] w fun e w' => e = .returned (.agg #[.bool p, .int .u64 (a : Int), .string ⟨#[]⟩, .int .u64 (D : Int), .string ⟨#[]⟩]) ∧ Ext w w' := by
  have HB := Lib.hid (natBits D hd)
  have hb : ((Lib.bitLen D : Int) == 1) = false := by rw [bitLen_one D hd]; simp [h1]
  generalize Lib.bitLen D = L at *
  clear h1 hd
  go_enter Tryz.func65, Tryz.ntmps65
  go_wp2_with fail
  refine (HB.out _).mono ?_
  rintro e w1 ⟨rfl, hx⟩
  obtain ⟨ra0, zfa0⟩ := Ext.both hx (p := ⟨w.heap.size, 0, none⟩) (v := .bool p) (by first | with_reducible assumption | (simp [go_sem]; done) | (simp [go_sem, *]; done)) (by first | with_reducible assumption | (simp [go_sem]; done) | (simp [go_sem, *]; done)); obtain ⟨ra1, zfa1⟩ := Ext.both hx (p := ⟨w.heap.size, 1, none⟩) (v := .int .u64 (a : Int)) (by first | with_reducible assumption | (simp [go_sem]; done) | (simp [go_sem, *]; done)) (by first | with_reducible assumption | (simp [go_sem]; done) | (simp [go_sem, *]; done)); obtain ⟨ra2, zfa2⟩ := Ext.both hx (p := ⟨w.heap.size, 2, none⟩) (v := .string ⟨#[]⟩) (by first | with_reducible assumption | (simp [go_sem]; done) | (simp [go_sem, *]; done)) (by first | with_reducible assumption | (simp [go_sem]; done) | (simp [go_sem, *]; done))
  obtain ⟨rb0, zfb0⟩ := Ext.both hx (p := ⟨w.heap.size + 1, 0, none⟩) (v := .int .u64 (D : Int)) (by first | with_reducible assumption | (simp [go_sem]; done) | (simp [go_sem, *]; done)) (by first | with_reducible assumption | (simp [go_sem]; done) | (simp [go_sem, *]; done)); obtain ⟨rb1, zfb1⟩ := Ext.both hx (p := ⟨w.heap.size + 1, 1, none⟩) (v := .string ⟨#[]⟩) (by first | with_reducible assumption | (simp [go_sem]; done) | (simp [go_sem, *]; done)) (by first | with_reducible assumption | (simp [go_sem]; done) | (simp [go_sem, *]; done))
  obtain ⟨r0, zf0⟩ := Ext.both hx (p := ⟨w.heap.size + 1 + 1, 0, none⟩) (v := .bool false) (by first | with_reducible assumption | (simp [go_sem]; done) | (simp [go_sem, *]; done)) (by first | with_reducible assumption | (simp [go_sem]; done) | (simp [go_sem, *]; done)); obtain ⟨r1, zf1⟩ := Ext.both hx (p := ⟨w.heap.size + 1 + 1, 1, none⟩) (v := .int .u64 0) (by first | with_reducible assumption | (simp [go_sem]; done) | (simp [go_sem, *]; done)) (by first | with_reducible assumption | (simp [go_sem]; done) | (simp [go_sem, *]; done)); obtain ⟨r2, zf2⟩ := Ext.both hx (p := ⟨w.heap.size + 1 + 1, 2, none⟩) (v := .string ⟨#[]⟩) (by first | with_reducible assumption | (simp [go_sem]; done) | (simp [go_sem, *]; done)) (by first | with_reducible assumption | (simp [go_sem]; done) | (simp [go_sem, *]; done)); obtain ⟨r3, zf3⟩ := Ext.both hx (p := ⟨w.heap.size + 1 + 1, 3, none⟩) (v := .int .u64 0) (by first | with_reducible assumption | (simp [go_sem]; done) | (simp [go_sem, *]; done)) (by first | with_reducible assumption | (simp [go_sem]; done) | (simp [go_sem, *]; done)); obtain ⟨r4, zf4⟩ := Ext.both hx (p := ⟨w.heap.size + 1 + 1, 4, none⟩) (v := .string ⟨#[]⟩) (by first | with_reducible assumption | (simp [go_sem]; done) | (simp [go_sem, *]; done)) (by first | with_reducible assumption | (simp [go_sem]; done) | (simp [go_sem, *]; done))
  go_wp2
  refine bodyPost_ret (v := .agg #[.bool p, .int .u64 (a : Int), .string ⟨#[]⟩, .int .u64 (D : Int), .string ⟨#[]⟩]) (by simp [results, Tryz.results65, go_sem, r0, r1, r2, r3, r4]) rfl ⟨rfl, ?_⟩
  (repeat' (first | with_reducible exact Ext.refl _ | with_reducible refine Ext.setCell ?_ ?_ _ | with_reducible refine Ext.alloc ?_ _ | with_reducible refine Ext.drew ?_ | with_reducible refine Ext.drewN ?_ _ | with_reducible assumption | with_reducible refine Ext.trans ?_ (by assumption))) <;> (first | (simp; done) | (simp; omega) | omega)
theorem fracPack (q : Rat) (hd : q.den < 18446744073709551616) (w : World) :
    Calls Tryz.prog 65 #[.agg #[.bool (ineg q.num), .int .u64 ((iabs q.num : Nat) : Int), .string ⟨#[]⟩], .agg #[.int .u64 ((q.den : Nat) : Int), .string ⟨#[]⟩]] w fun e w' => e = .returned (.agg #[.bool (ineg (q).num), .int .u64 ((iabs (q).num : Nat) : Int), .string ⟨#[]⟩, .int .u64 ((qd (q) : Nat) : Int), .string ⟨#[]⟩]) ∧ Ext w w' := by
  by_cases h1 : q.den = 1
  · have e : qd q = 0 := if_pos h1
    rw [e]; exact fracPack1 _ _ _ hd h1 w
  · have e : qd q = q.den := if_neg h1
    rw [e]; exact fracPack2 _ _ _ hd h1 w

set_option maxHeartbeats 400000 in
theorem fracOver (a b : Nat) (ha : a < 18446744073709551616) (hb : b < 18446744073709551616) (h : 0 < b) (w : World) :
    Calls Tryz.prog 63 #[.agg #[.int .u64 ((a : Nat) : Int), .string ⟨#[]⟩], .agg #[.int .u64 ((b : Nat) : Int), .string ⟨#[]⟩]] w fun e w' => e = .returned (.agg #[.int .u64 ((a / b : Nat) : Int), .string ⟨#[]⟩]) ∧ Ext w w' := by
  have HB := Lib.hid (natBits b hb)
  have h1 := bitLen_one b hb
  have HD := Lib.hid (natDiv a b ha hb h)
  generalize Lib.bitLen b = L at *
  by_cases hb1 : b = 1
  · have h1' : ((L : Int) == 1) = true := by rw [h1]; simp [hb1]
    have HQ := Lib.hid (show a / b = a by rw [hb1]; simp)
    clear h1 hb1 h ha hb HD
    go_enter Tryz.func63, Tryz.ntmps63
    go_wp2_with (go_at_call 54; refine (HB.out _).mono ?_; rintro e w1 ⟨rfl, hx⟩; obtain ⟨ra0, zfa0⟩ := Ext.both hx (p := ⟨w.heap.size, 0, none⟩) (v := .int .u64 (a : Int)) (by first | with_reducible assumption | (simp [go_sem]; done) | (simp [go_sem, *]; done)) (by first | with_reducible assumption | (simp [go_sem]; done) | (simp [go_sem, *]; done)); obtain ⟨ra1, zfa1⟩ := Ext.both hx (p := ⟨w.heap.size, 1, none⟩) (v := .string ⟨#[]⟩) (by first | with_reducible assumption | (simp [go_sem]; done) | (simp [go_sem, *]; done)) (by first | with_reducible assumption | (simp [go_sem]; done) | (simp [go_sem, *]; done)); obtain ⟨r0, zf0⟩ := Ext.both hx (p := ⟨w.heap.size + 1 + 1, 0, none⟩) (v := .int .u64 0) (by first | with_reducible assumption | (simp [go_sem]; done) | (simp [go_sem, *]; done)) (by first | with_reducible assumption | (simp [go_sem]; done) | (simp [go_sem, *]; done)); obtain ⟨r1, zf1⟩ := Ext.both hx (p := ⟨w.heap.size + 1 + 1, 1, none⟩) (v := .string ⟨#[]⟩) (by first | with_reducible assumption | (simp [go_sem]; done) | (simp [go_sem, *]; done)) (by first | with_reducible assumption | (simp [go_sem]; done) | (simp [go_sem, *]; done)))
    refine bodyPost_ret (v := .agg #[.int .u64 ((a : Nat) : Int), .string ⟨#[]⟩]) (by simp [results, Tryz.results63, go_sem, r0, r1]) rfl ⟨by rw [HQ.out], ?_⟩
    (repeat' (first | with_reducible exact Ext.refl _ | with_reducible refine Ext.setCell ?_ ?_ _ | with_reducible refine Ext.alloc ?_ _ | with_reducible refine Ext.drew ?_ | with_reducible refine Ext.drewN ?_ _ | with_reducible assumption | with_reducible refine Ext.trans ?_ (by assumption))) <;> (first | (simp; done) | (simp; omega) | omega)
  · have h1' : ((L : Int) == 1) = false := by rw [h1]; simp [hb1]
    clear h1 hb1 h ha hb
    generalize a / b = q at *
    generalize a % b = m at *
    go_enter Tryz.func63, Tryz.ntmps63
    go_wp2_with fail
    refine (HB.out _).mono ?_
    rintro e w1 ⟨rfl, hx⟩
    obtain ⟨ra0, zfa0⟩ := Ext.both hx (p := ⟨w.heap.size, 0, none⟩) (v := .int .u64 (a : Int)) (by first | with_reducible assumption | (simp [go_sem]; done) | (simp [go_sem, *]; done)) (by first | with_reducible assumption | (simp [go_sem]; done) | (simp [go_sem, *]; done)); obtain ⟨ra1, zfa1⟩ := Ext.both hx (p := ⟨w.heap.size, 1, none⟩) (v := .string ⟨#[]⟩) (by first | with_reducible assumption | (simp [go_sem]; done) | (simp [go_sem, *]; done)) (by first | with_reducible assumption | (simp [go_sem]; done) | (simp [go_sem, *]; done))
    obtain ⟨rb0, zfb0⟩ := Ext.both hx (p := ⟨w.heap.size + 1, 0, none⟩) (v := .int .u64 (b : Int)) (by first | with_reducible assumption | (simp [go_sem]; done) | (simp [go_sem, *]; done)) (by first | with_reducible assumption | (simp [go_sem]; done) | (simp [go_sem, *]; done)); obtain ⟨rb1, zfb1⟩ := Ext.both hx (p := ⟨w.heap.size + 1, 1, none⟩) (v := .string ⟨#[]⟩) (by first | with_reducible assumption | (simp [go_sem]; done) | (simp [go_sem, *]; done)) (by first | with_reducible assumption | (simp [go_sem]; done) | (simp [go_sem, *]; done))
    obtain ⟨r0, zf0⟩ := Ext.both hx (p := ⟨w.heap.size + 1 + 1, 0, none⟩) (v := .int .u64 0) (by first | with_reducible assumption | (simp [go_sem]; done) | (simp [go_sem, *]; done)) (by first | with_reducible assumption | (simp [go_sem]; done) | (simp [go_sem, *]; done)); obtain ⟨r1, zf1⟩ := Ext.both hx (p := ⟨w.heap.size + 1 + 1, 1, none⟩) (v := .string ⟨#[]⟩) (by first | with_reducible assumption | (simp [go_sem]; done) | (simp [go_sem, *]; done)) (by first | with_reducible assumption | (simp [go_sem]; done) | (simp [go_sem, *]; done))
    have l1 : w.heap.size + 1 + 1 < w1.heap.size := by have hz := Ext.size hx; simp at hz; omega
    go_wp2_with fail
    refine (HD.out _).mono ?_
    rintro e w2 ⟨rfl, hx2⟩
    have l2 : w.heap.size + 1 + 1 < w2.heap.size := by have hz := Ext.size hx2; omega
    have l3 : w.heap.size + 1 + 1 < w2.heap.size + 1 := by omega
    obtain ⟨r0, zf0⟩ := Ext.both hx2 (p := ⟨w.heap.size + 1 + 1, 0, none⟩) (v := .int .u64 0) (by first | with_reducible assumption | (simp [go_sem]; done) | (simp [go_sem, *]; done)) (by first | with_reducible assumption | (simp [go_sem]; done) | (simp [go_sem, *]; done)); obtain ⟨r1, zf1⟩ := Ext.both hx2 (p := ⟨w.heap.size + 1 + 1, 1, none⟩) (v := .string ⟨#[]⟩) (by first | with_reducible assumption | (simp [go_sem]; done) | (simp [go_sem, *]; done)) (by first | with_reducible assumption | (simp [go_sem]; done) | (simp [go_sem, *]; done))
    go_wp2
    refine bodyPost_ret (v := .agg #[.int .u64 ((q : Nat) : Int), .string ⟨#[]⟩]) (by simp [results, Tryz.results63, go_sem, r0, r1, l2, l3]) rfl ⟨rfl, ?_⟩
    (repeat' (first | with_reducible exact Ext.refl _ | with_reducible refine Ext.setCell ?_ ?_ _ | with_reducible refine Ext.alloc ?_ _ | with_reducible refine Ext.drew ?_ | with_reducible refine Ext.drewN ?_ _ | with_reducible assumption | with_reducible refine Ext.trans ?_ (by assumption))) <;> (first | (simp; done) | (simp; omega) | omega)

set_option maxHeartbeats 1000000 in
theorem fracPart (z : Int) (b : Nat) (hz : iabs z < 18446744073709551616) (hb : b < 18446744073709551616) (h : 0 < b) (hd : (b : Int) ∣ z) (w : World) :
    Calls Tryz.prog 66 #[.agg #[.bool (ineg z), .int .u64 ((iabs z : Nat) : Int), .string ⟨#[]⟩], .agg #[.int .u64 ((b : Nat) : Int), .string ⟨#[]⟩]] w fun e w' => e = .returned (.agg #[.bool (ineg (z / b)), .int .u64 ((iabs (z / b) : Nat) : Int), .string ⟨#[]⟩]) ∧ Ext w w' := by
  have H1 := Lib.hid (wholeSign z hz)
  have H2 := Lib.hid (wholeAbs z)
  have H3 := Lib.hid (fracOver (iabs z) b hz hb h)
  have H4 := Lib.hid (wholeFrom (decide (z.sign < 0)) (iabs z / b) (Nat.lt_of_le_of_lt (Nat.div_le_self _ _) hz))
  rw [sgn_part z b hd] at H4
  clear hz hb h hd
  generalize iabs z / b = m at *
  generalize z.sign = sg at *
  generalize z / b = z2 at *
  go_enter Tryz.func66, Tryz.ntmps66
  go_wp2
  go_region_held3 (fun w' => w'.cell? ⟨w.heap.size, 0, none⟩ = some (.bool (ineg z)) ∧ w'.cell? ⟨w.heap.size, 1, none⟩ = some (.int .u64 ((iabs z : Nat) : Int)) ∧ w'.cell? ⟨w.heap.size, 2, none⟩ = some (.string ⟨#[]⟩) ∧ w'.cell? ⟨w.heap.size + 1, 0, none⟩ = some (.int .u64 ((b : Nat) : Int)) ∧ w'.cell? ⟨w.heap.size + 1, 1, none⟩ = some (.string ⟨#[]⟩)) ((go_split_ands; refine ⟨?_, ?_, ?_, ?_, ?_⟩ <;> (first | (with_reducible exact Ext.some hx (by assumption)) | (with_reducible exact Ext.some ((Ext.refl _).alloc _) (by assumption)) | ((repeat rw [cell_set_ne _ (by omega)]); with_reducible assumption) | (go_simp; done) | go_keep))) ((first | (go_at_call 50; (with_reducible refine (H1.out _).mono ?_); rintro e w1 ⟨rfl, hx⟩; obtain ⟨r0, zf0⟩ := Ext.both hx (p := ⟨w.heap.size + 1 + 1, 0, none⟩) (v := .bool false) (by first | with_reducible assumption | (simp [go_sem]; done) | (simp [go_sem, *]; done)) (by first | with_reducible assumption | (simp [go_sem]; done) | (simp [go_sem, *]; done)); obtain ⟨r1, zf1⟩ := Ext.both hx (p := ⟨w.heap.size + 1 + 1, 1, none⟩) (v := .int .u64 0) (by first | with_reducible assumption | (simp [go_sem]; done) | (simp [go_sem, *]; done)) (by first | with_reducible assumption | (simp [go_sem]; done) | (simp [go_sem, *]; done)); obtain ⟨r2, zf2⟩ := Ext.both hx (p := ⟨w.heap.size + 1 + 1, 2, none⟩) (v := .string ⟨#[]⟩) (by first | with_reducible assumption | (simp [go_sem]; done) | (simp [go_sem, *]; done)) (by first | with_reducible assumption | (simp [go_sem]; done) | (simp [go_sem, *]; done))) | (go_at_call 53; (with_reducible refine (H2.out _).mono ?_); rintro e w2 ⟨rfl, hx⟩; obtain ⟨r0, zf0⟩ := Ext.both hx (p := ⟨w.heap.size + 1 + 1, 0, none⟩) (v := .bool false) (by first | with_reducible assumption | (simp [go_sem]; done) | (simp [go_sem, *]; done)) (by first | with_reducible assumption | (simp [go_sem]; done) | (simp [go_sem, *]; done)); obtain ⟨r1, zf1⟩ := Ext.both hx (p := ⟨w.heap.size + 1 + 1, 1, none⟩) (v := .int .u64 0) (by first | with_reducible assumption | (simp [go_sem]; done) | (simp [go_sem, *]; done)) (by first | with_reducible assumption | (simp [go_sem]; done) | (simp [go_sem, *]; done)); obtain ⟨r2, zf2⟩ := Ext.both hx (p := ⟨w.heap.size + 1 + 1, 2, none⟩) (v := .string ⟨#[]⟩) (by first | with_reducible assumption | (simp [go_sem]; done) | (simp [go_sem, *]; done)) (by first | with_reducible assumption | (simp [go_sem]; done) | (simp [go_sem, *]; done))) | (go_at_call 63; (with_reducible refine (H3.out _).mono ?_); rintro e w3 ⟨rfl, hx⟩; obtain ⟨r0, zf0⟩ := Ext.both hx (p := ⟨w.heap.size + 1 + 1, 0, none⟩) (v := .bool false) (by first | with_reducible assumption | (simp [go_sem]; done) | (simp [go_sem, *]; done)) (by first | with_reducible assumption | (simp [go_sem]; done) | (simp [go_sem, *]; done)); obtain ⟨r1, zf1⟩ := Ext.both hx (p := ⟨w.heap.size + 1 + 1, 1, none⟩) (v := .int .u64 0) (by first | with_reducible assumption | (simp [go_sem]; done) | (simp [go_sem, *]; done)) (by first | with_reducible assumption | (simp [go_sem]; done) | (simp [go_sem, *]; done)); obtain ⟨r2, zf2⟩ := Ext.both hx (p := ⟨w.heap.size + 1 + 1, 2, none⟩) (v := .string ⟨#[]⟩) (by first | with_reducible assumption | (simp [go_sem]; done) | (simp [go_sem, *]; done)) (by first | with_reducible assumption | (simp [go_sem]; done) | (simp [go_sem, *]; done))) | (go_at_call 33; (with_reducible refine (H4.out _).mono ?_); rintro e w4 ⟨rfl, hx⟩; obtain ⟨r0, zf0⟩ := Ext.both hx (p := ⟨w.heap.size + 1 + 1, 0, none⟩) (v := .bool false) (by first | with_reducible assumption | (simp [go_sem]; done) | (simp [go_sem, *]; done)) (by first | with_reducible assumption | (simp [go_sem]; done) | (simp [go_sem, *]; done)); obtain ⟨r1, zf1⟩ := Ext.both hx (p := ⟨w.heap.size + 1 + 1, 1, none⟩) (v := .int .u64 0) (by first | with_reducible assumption | (simp [go_sem]; done) | (simp [go_sem, *]; done)) (by first | with_reducible assumption | (simp [go_sem]; done) | (simp [go_sem, *]; done)); obtain ⟨r2, zf2⟩ := Ext.both hx (p := ⟨w.heap.size + 1 + 1, 2, none⟩) (v := .string ⟨#[]⟩) (by first | with_reducible assumption | (simp [go_sem]; done) | (simp [go_sem, *]; done)) (by first | with_reducible assumption | (simp [go_sem]; done) | (simp [go_sem, *]; done)))))
  go_wp2
  refine bodyPost_ret (v := .agg #[.bool (ineg z2), .int .u64 ((iabs z2 : Nat) : Int), .string ⟨#[]⟩]) (by simp [results, Tryz.results66, go_sem, r0, r1, r2]) rfl ⟨rfl, ?_⟩
  (repeat' (first | with_reducible exact Ext.refl _ | with_reducible refine Ext.setCell ?_ ?_ _ | with_reducible refine Ext.alloc ?_ _ | with_reducible refine Ext.drew ?_ | with_reducible refine Ext.drewN ?_ _ | with_reducible assumption | with_reducible refine Ext.trans ?_ (by assumption))) <;> (first | (simp; done) | (simp; omega) | omega)

set_option maxHeartbeats 1000000 in
theorem fracTimes (z : Int) (d : Nat) (hz : iabs z < 18446744073709551616) (hd : d < 18446744073709551616) (h : iabs z * d < 18446744073709551616) (w : World) :
    Calls Tryz.prog 64 #[.agg #[.bool (ineg z), .int .u64 ((iabs z : Nat) : Int), .string ⟨#[]⟩], .agg #[.int .u64 ((d : Nat) : Int), .string ⟨#[]⟩]] w fun e w' => e = .returned (.agg #[.bool (ineg (z * d)), .int .u64 ((iabs (z * d) : Nat) : Int), .string ⟨#[]⟩]) ∧ Ext w w' := by
  have H1 := Lib.hid (wholeFrom false d hd)
  have e1 : iabs (sgn false d) = d := iabs_sgn _ _
  have H2 := Lib.hid (wholeMul z (sgn false d) hz (by rw [e1]; exact hd) (by rw [e1]; exact h))
  have e2 : z * sgn false d = z * d := by simp [sgn]
  rw [e2] at H2
  clear hz hd h e1 e2
  generalize z * d = z2 at *
  generalize sgn false d = s at *
  go_enter Tryz.func64, Tryz.ntmps64
  go_wp2
  go_region_held3 (fun w' => w'.cell? ⟨w.heap.size, 0, none⟩ = some (.bool (ineg z)) ∧ w'.cell? ⟨w.heap.size, 1, none⟩ = some (.int .u64 ((iabs z : Nat) : Int)) ∧ w'.cell? ⟨w.heap.size, 2, none⟩ = some (.string ⟨#[]⟩) ∧ w'.cell? ⟨w.heap.size + 1, 0, none⟩ = some (.int .u64 ((d : Nat) : Int)) ∧ w'.cell? ⟨w.heap.size + 1, 1, none⟩ = some (.string ⟨#[]⟩)) ((go_split_ands; refine ⟨?_, ?_, ?_, ?_, ?_⟩ <;> (first | (with_reducible exact Ext.some hx (by assumption)) | (with_reducible exact Ext.some ((Ext.refl _).alloc _) (by assumption)) | ((repeat rw [cell_set_ne _ (by omega)]); with_reducible assumption) | (go_simp; done) | go_keep))) ((first | (go_at_call 33; (with_reducible refine (H1.out _).mono ?_); rintro e w1 ⟨rfl, hx⟩; obtain ⟨r0, zf0⟩ := Ext.both hx (p := ⟨w.heap.size + 1 + 1, 0, none⟩) (v := .bool false) (by first | with_reducible assumption | (simp [go_sem]; done) | (simp [go_sem, *]; done)) (by first | with_reducible assumption | (simp [go_sem]; done) | (simp [go_sem, *]; done)); obtain ⟨r1, zf1⟩ := Ext.both hx (p := ⟨w.heap.size + 1 + 1, 1, none⟩) (v := .int .u64 0) (by first | with_reducible assumption | (simp [go_sem]; done) | (simp [go_sem, *]; done)) (by first | with_reducible assumption | (simp [go_sem]; done) | (simp [go_sem, *]; done)); obtain ⟨r2, zf2⟩ := Ext.both hx (p := ⟨w.heap.size + 1 + 1, 2, none⟩) (v := .string ⟨#[]⟩) (by first | with_reducible assumption | (simp [go_sem]; done) | (simp [go_sem, *]; done)) (by first | with_reducible assumption | (simp [go_sem]; done) | (simp [go_sem, *]; done))) | (go_at_call 72; (with_reducible refine (H2.out _).mono ?_); rintro e w2 ⟨rfl, hx⟩; obtain ⟨r0, zf0⟩ := Ext.both hx (p := ⟨w.heap.size + 1 + 1, 0, none⟩) (v := .bool false) (by first | with_reducible assumption | (simp [go_sem]; done) | (simp [go_sem, *]; done)) (by first | with_reducible assumption | (simp [go_sem]; done) | (simp [go_sem, *]; done)); obtain ⟨r1, zf1⟩ := Ext.both hx (p := ⟨w.heap.size + 1 + 1, 1, none⟩) (v := .int .u64 0) (by first | with_reducible assumption | (simp [go_sem]; done) | (simp [go_sem, *]; done)) (by first | with_reducible assumption | (simp [go_sem]; done) | (simp [go_sem, *]; done)); obtain ⟨r2, zf2⟩ := Ext.both hx (p := ⟨w.heap.size + 1 + 1, 2, none⟩) (v := .string ⟨#[]⟩) (by first | with_reducible assumption | (simp [go_sem]; done) | (simp [go_sem, *]; done)) (by first | with_reducible assumption | (simp [go_sem]; done) | (simp [go_sem, *]; done)))))
  go_wp2
  refine bodyPost_ret (v := .agg #[.bool (ineg z2), .int .u64 ((iabs z2 : Nat) : Int), .string ⟨#[]⟩]) (by simp [results, Tryz.results64, go_sem, r0, r1, r2]) rfl ⟨rfl, ?_⟩
  (repeat' (first | with_reducible exact Ext.refl _ | with_reducible refine Ext.setCell ?_ ?_ _ | with_reducible refine Ext.alloc ?_ _ | with_reducible refine Ext.drew ?_ | with_reducible refine Ext.drewN ?_ _ | with_reducible assumption | with_reducible refine Ext.trans ?_ (by assumption))) <;> (first | (simp; done) | (simp; omega) | omega)
end Go.Proofs.YtmkonbkdjmfjhaaGreatDoor
