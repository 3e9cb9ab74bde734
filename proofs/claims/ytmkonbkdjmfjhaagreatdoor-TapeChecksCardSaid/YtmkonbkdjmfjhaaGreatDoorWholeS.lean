/- Contracts of package whole's functions for numbers of one word. -/
import Derived.Test.YtmkonbkdjmfjhaaGreatDoorNatS
import Derived.Deep.RegionHeld3
import Derived.Deep.DrawnRows
namespace Go.Proofs.YtmkonbkdjmfjhaaGreatDoor
open Go.RowKit
attribute [local go_sem ↓] Go.wp_at_zero Go.wp_at_succ

theorem bitLen_gt (n : Nat) : decide (0 < Lib.bitLen n) = decide (0 < n) := by
  rcases Nat.eq_zero_or_pos n with h | h
  · subst h; decide +kernel
  · have := bitLen_pos h
    simp; omega

set_option maxHeartbeats 400000 in
theorem wholeFrom_pos (a : Nat) (w : World) :
    Calls Tryz.prog 33 #[.bool false, .agg #[.int .u64 ((a : Nat) : Int), .string ⟨#[]⟩]] w fun e w' => e = .returned (.agg #[.bool false, .int .u64 (a : Int), .string ⟨#[]⟩]) ∧ Ext w w' := by
  go_enter Tryz.func33, Tryz.ntmps33
  go_wp2
  go_region
  go_wp2
  refine bodyPost_ret (v := .agg #[.bool false, .int .u64 (a : Int), .string ⟨#[]⟩]) (by simp [results, Tryz.results33, go_sem]) rfl ⟨rfl, ?_⟩
  (repeat' (first | with_reducible exact Ext.refl _ | with_reducible refine Ext.setCell ?_ ?_ _ | with_reducible refine Ext.alloc ?_ _ | with_reducible refine Ext.drew ?_ | with_reducible refine Ext.drewN ?_ _ | with_reducible assumption | with_reducible refine Ext.trans ?_ (by assumption))) <;> (first | (simp; done) | (simp; omega) | omega)
set_option maxHeartbeats 400000 in
theorem wholeFrom_neg (a : Nat) (h : a < 18446744073709551616) (w : World) :
    Calls Tryz.prog 33 #[.bool true, .agg #[.int .u64 ((a : Nat) : Int), .string ⟨#[]⟩]] w fun e w' => e = .returned (.agg #[.bool (decide (0 < a)), .int .u64 (a : Int), .string ⟨#[]⟩]) ∧ Ext w w' := by
  have HB := Lib.hid (bitLen_gt a)
  have HN := Lib.hid (natBits a h)
  clear h
  generalize Lib.bitLen a = L at *
  go_enter Tryz.func33, Tryz.ntmps33
  go_wp2
  go_region_held3 (fun w' => w'.cell? ⟨w.heap.size, 0, none⟩ = some (.int .u64 ((a : Nat) : Int)) ∧ w'.cell? ⟨w.heap.size, 1, none⟩ = some (.string ⟨#[]⟩)) ((go_split_ands; refine ⟨?_, ?_⟩ <;> (first | (with_reducible exact Ext.some hx (by assumption)) | (with_reducible exact Ext.some ((Ext.refl _).alloc _) (by assumption)) | ((repeat rw [cell_set_ne _ (by omega)]); with_reducible assumption) | (go_simp; done) | go_keep))) ((go_at_call 54; refine (HN.out _).mono ?_; rintro e w1 ⟨rfl, hx⟩; obtain ⟨hc, hf⟩ := bcell hx))
  go_wp2
  refine bodyPost_ret (v := .agg #[.bool (decide (0 < L)), .int .u64 (a : Int), .string ⟨#[]⟩]) (by simp [results, Tryz.results33, go_sem, hc]) rfl ⟨by rw [HB.out], ?_⟩
  (repeat' (first | with_reducible exact Ext.refl _ | with_reducible refine Ext.setCell ?_ ?_ _ | with_reducible refine Ext.alloc ?_ _ | with_reducible refine Ext.drew ?_ | with_reducible refine Ext.drewN ?_ _ | with_reducible assumption | with_reducible refine Ext.trans ?_ (by assumption))) <;> (first | (simp; done) | (simp; omega) | omega)
theorem wholeFrom (neg : Bool) (a : Nat) (h : a < 18446744073709551616) (w : World) :
    Calls Tryz.prog 33 #[.bool neg, .agg #[.int .u64 ((a : Nat) : Int), .string ⟨#[]⟩]] w fun e w' => e = .returned (.agg #[.bool (ineg (sgn neg a)), .int .u64 ((iabs (sgn neg a) : Nat) : Int), .string ⟨#[]⟩]) ∧ Ext w w' := by
  rw [ineg_sgn, iabs_sgn]
  cases neg
  · exact wholeFrom_pos a w
  · exact wholeFrom_neg a h w

set_option maxHeartbeats 400000 in
theorem wholeOf (n : Int) (h0 : -9223372036854775808 ≤ n) (h1 : n ≤ 9223372036854775807) (w : World) :
    Calls Tryz.prog 42 #[.int .i64 n] w fun e w' => e = .returned (.agg #[.bool (ineg n), .int .u64 ((iabs n : Nat) : Int), .string ⟨#[]⟩]) ∧ Ext w w' := by
  by_cases hn : n < 0
  · have e1 : ineg n = true := by simp [ineg, hn]
    have e2 : IntKind.u64.wrap (-(IntKind.u64.wrap n)) = ((iabs n : Nat) : Int) := by rw [IntKind.wrap_u64, IntKind.wrap_u64]; unfold iabs; omega
    have H1 := Lib.hid e1
    have H2 := Lib.hid e2
    clear e1 e2
    go_enter Tryz.func42, Tryz.ntmps42
    go_wp2_with fail
    rw [H2.out]
    refine (natOf (iabs n) _).mono ?_
    rintro e w1 ⟨rfl, hx⟩
    obtain ⟨hc, hf⟩ := bcell hx
    go_wp2
    refine bodyPost_ret (v := .agg #[.bool true, .int .u64 ((iabs n : Nat) : Int), .string ⟨#[]⟩]) (by simp [results, Tryz.results42, go_sem, hc]) rfl ⟨by rw [H1.out], ?_⟩
    (repeat' (first | with_reducible exact Ext.refl _ | with_reducible refine Ext.setCell ?_ ?_ _ | with_reducible refine Ext.alloc ?_ _ | with_reducible refine Ext.drew ?_ | with_reducible refine Ext.drewN ?_ _ | with_reducible assumption | with_reducible refine Ext.trans ?_ (by assumption))) <;> (first | (simp; done) | (simp; omega) | omega)
  · have e1 : ineg n = false := by simp [ineg, hn]
    have H1 := Lib.hid e1
    clear e1
    obtain ⟨k, rfl⟩ := Int.eq_ofNat_of_zero_le (by omega : 0 ≤ n)
    have e2 : iabs (k : Int) = k := by simp [iabs]
    have H2 := Lib.hid e2
    clear e2
    go_enter Tryz.func42, Tryz.ntmps42
    go_wp2_with fail
    refine (natOf k _).mono ?_
    rintro e w1 ⟨rfl, hx⟩
    obtain ⟨hc, hf⟩ := bcell hx
    go_wp2
    refine bodyPost_ret (v := .agg #[.bool false, .int .u64 (k : Int), .string ⟨#[]⟩]) (by simp [results, Tryz.results42, go_sem, hc]) rfl ⟨by rw [H1.out, H2.out], ?_⟩
    (repeat' (first | with_reducible exact Ext.refl _ | with_reducible refine Ext.setCell ?_ ?_ _ | with_reducible refine Ext.alloc ?_ _ | with_reducible refine Ext.drew ?_ | with_reducible refine Ext.drewN ?_ _ | with_reducible assumption | with_reducible refine Ext.trans ?_ (by assumption))) <;> (first | (simp; done) | (simp; omega) | omega)

set_option maxHeartbeats 400000 in
theorem wholeSign (z : Int) (h : iabs z < 18446744073709551616) (w : World) :
    Calls Tryz.prog 50 #[.agg #[.bool (ineg z), .int .u64 ((iabs z : Nat) : Int), .string ⟨#[]⟩]] w fun e w' => e = .returned (.int .i64 z.sign) ∧ Ext w w' := by
  rcases hn : ineg z with _ | _
  · have hg := bitLen_gt (iabs z)
    have H := Lib.hid (natBits (iabs z) h)
    have hz := ineg_false hn
    by_cases h0 : 0 < iabs z
    · have hs : z.sign = 1 := Int.sign_eq_one_of_pos (by unfold iabs at h0; omega)
      have hd : decide (0 < Lib.bitLen (iabs z)) = true := by rw [hg]; simpa using h0
      rw [hs]
      clear hg hs hz h hn h0
      generalize Lib.bitLen (iabs z) = L at *
      generalize iabs z = a at *
      go_enter Tryz.func50, Tryz.ntmps50
      go_wp2_with (go_at_call 54; refine (H.out _).mono ?_; rintro e w1 ⟨rfl, hx⟩)
      go_ret
      exact ⟨rfl, by (repeat' (first | with_reducible exact Ext.refl _ | with_reducible refine Ext.setCell ?_ ?_ _ | with_reducible refine Ext.alloc ?_ _ | with_reducible refine Ext.drew ?_ | with_reducible refine Ext.drewN ?_ _ | with_reducible assumption | with_reducible refine Ext.trans ?_ (by assumption))) <;> (first | (simp; done) | (simp; omega) | omega)⟩
    · have hs : z.sign = 0 := by rw [Int.sign_eq_zero_iff_zero]; unfold iabs at h0; omega
      have hd : decide (0 < Lib.bitLen (iabs z)) = false := by rw [hg]; simpa using h0
      rw [hs]
      clear hg hs hz h hn h0
      generalize Lib.bitLen (iabs z) = L at *
      generalize iabs z = a at *
      go_enter Tryz.func50, Tryz.ntmps50
      go_wp2_with (go_at_call 54; refine (H.out _).mono ?_; rintro e w1 ⟨rfl, hx⟩)
      go_ret
      exact ⟨rfl, by (repeat' (first | with_reducible exact Ext.refl _ | with_reducible refine Ext.setCell ?_ ?_ _ | with_reducible refine Ext.alloc ?_ _ | with_reducible refine Ext.drew ?_ | with_reducible refine Ext.drewN ?_ _ | with_reducible assumption | with_reducible refine Ext.trans ?_ (by assumption))) <;> (first | (simp; done) | (simp; omega) | omega)⟩
  · have hs : z.sign = -1 := Int.sign_eq_neg_one_of_neg (ineg_true hn)
    rw [hs]
    clear hs h hn
    generalize iabs z = a at *
    go_enter Tryz.func50, Tryz.ntmps50
    go_wp2
    go_ret
    exact ⟨rfl, by (repeat' (first | with_reducible exact Ext.refl _ | with_reducible refine Ext.setCell ?_ ?_ _ | with_reducible refine Ext.alloc ?_ _ | with_reducible refine Ext.drew ?_ | with_reducible refine Ext.drewN ?_ _ | with_reducible assumption | with_reducible refine Ext.trans ?_ (by assumption))) <;> (first | (simp; done) | (simp; omega) | omega)⟩

set_option maxHeartbeats 400000 in
theorem wholeNeg (z : Int) (h : iabs z < 18446744073709551616) (w : World) :
    Calls Tryz.prog 51 #[.agg #[.bool (ineg z), .int .u64 ((iabs z : Nat) : Int), .string ⟨#[]⟩]] w fun e w' => e = .returned (.agg #[.bool (ineg (-z)), .int .u64 ((iabs (-z) : Nat) : Int), .string ⟨#[]⟩]) ∧ Ext w w' := by
  have H := Lib.hid (wholeFrom (!ineg z) (iabs z) h)
  rw [sgn_not z] at H
  clear h
  generalize ineg (-z) = n2 at *
  generalize iabs (-z) = a2 at *
  generalize ineg z = n1 at *
  generalize iabs z = a1 at *
  go_enter Tryz.func51, Tryz.ntmps51
  go_wp2_with (go_at_call 33; refine (H.out _).mono ?_; rintro e w1 ⟨rfl, hx⟩; obtain ⟨hc, hf⟩ := bcell hx)
  refine bodyPost_ret (v := .agg #[.bool n2, .int .u64 ((a2 : Nat) : Int), .string ⟨#[]⟩]) (by simp [results, Tryz.results51, go_sem, hc]) rfl ⟨rfl, ?_⟩
  (repeat' (first | with_reducible exact Ext.refl _ | with_reducible refine Ext.setCell ?_ ?_ _ | with_reducible refine Ext.alloc ?_ _ | with_reducible refine Ext.drew ?_ | with_reducible refine Ext.drewN ?_ _ | with_reducible assumption | with_reducible refine Ext.trans ?_ (by assumption))) <;> (first | (simp; done) | (simp; omega) | omega)

set_option maxHeartbeats 400000 in
theorem wholeAbs (z : Int) (w : World) :
    Calls Tryz.prog 53 #[.agg #[.bool (ineg z), .int .u64 ((iabs z : Nat) : Int), .string ⟨#[]⟩]] w fun e w' => e = .returned (.agg #[.int .u64 ((iabs z : Nat) : Int), .string ⟨#[]⟩]) ∧ Ext w w' := by
  generalize ineg z = n1 at *
  generalize iabs z = a1 at *
  go_enter Tryz.func53, Tryz.ntmps53
  go_wp2
  refine bodyPost_ret (v := .agg #[.int .u64 ((a1 : Nat) : Int), .string ⟨#[]⟩]) (by simp [results, Tryz.results53, go_sem]) rfl ⟨rfl, ?_⟩
  (repeat' (first | with_reducible exact Ext.refl _ | with_reducible refine Ext.setCell ?_ ?_ _ | with_reducible refine Ext.alloc ?_ _ | with_reducible refine Ext.drew ?_ | with_reducible refine Ext.drewN ?_ _ | with_reducible assumption | with_reducible refine Ext.trans ?_ (by assumption))) <;> (first | (simp; done) | (simp; omega) | omega)

def cmpI (x y : Int) : Int := if x < y then -1 else if y < x then 1 else 0
theorem cmpI_nn {x y : Int} (hx : ineg x = true) (hy : ineg y = true) : cmpN (iabs y) (iabs x) = cmpI x y := by
  have := ineg_true hx; have := ineg_true hy
  unfold cmpN cmpI iabs
  repeat' split
  all_goals omega
theorem cmpI_pp {x y : Int} (hx : ineg x = false) (hy : ineg y = false) : cmpN (iabs x) (iabs y) = cmpI x y := by
  have := ineg_false hx; have := ineg_false hy
  unfold cmpN cmpI iabs
  repeat' split
  all_goals omega

set_option maxHeartbeats 400000 in
theorem wholeCmp (x y : Int) (w : World) :
    Calls Tryz.prog 77 #[.agg #[.bool (ineg x), .int .u64 ((iabs x : Nat) : Int), .string ⟨#[]⟩], .agg #[.bool (ineg y), .int .u64 ((iabs y : Nat) : Int), .string ⟨#[]⟩]] w fun e w' => e = .returned (.int .i64 (cmpI x y)) ∧ Ext w w' := by
  rcases hx : ineg x with _ | _
  all_goals rcases hy : ineg y with _ | _
  · have C := fun w => natCmp (iabs x) (iabs y) w
    rw [cmpI_pp hx hy] at C
    have HC := Lib.hid C
    clear C hx hy
    generalize cmpI x y = c at *
    generalize iabs x = a at *
    generalize iabs y = b at *
    go_enter Tryz.func77, Tryz.ntmps77
    go_wp2_with (go_at_call 89; refine (HC.out _).mono ?_; rintro e w1 ⟨rfl, hx⟩)
    go_ret
    exact ⟨rfl, by (repeat' (first | with_reducible exact Ext.refl _ | with_reducible refine Ext.setCell ?_ ?_ _ | with_reducible refine Ext.alloc ?_ _ | with_reducible refine Ext.drew ?_ | with_reducible refine Ext.drewN ?_ _ | with_reducible assumption | with_reducible refine Ext.trans ?_ (by assumption))) <;> (first | (simp; done) | (simp; omega) | omega)⟩
  · have hc : cmpI x y = 1 := by
      have := ineg_false hx; have := ineg_true hy
      unfold cmpI; rw [if_neg (by omega), if_pos (by omega)]
    rw [hc]
    clear hc hx hy
    go_enter Tryz.func77, Tryz.ntmps77
    go_wp2
    go_ret
    exact ⟨rfl, by (repeat' (first | with_reducible exact Ext.refl _ | with_reducible refine Ext.setCell ?_ ?_ _ | with_reducible refine Ext.alloc ?_ _ | with_reducible refine Ext.drew ?_ | with_reducible refine Ext.drewN ?_ _ | with_reducible assumption | with_reducible refine Ext.trans ?_ (by assumption))) <;> (first | (simp; done) | (simp; omega) | omega)⟩
  · have hc : cmpI x y = -1 := by
      have := ineg_true hx; have := ineg_false hy
      unfold cmpI; rw [if_pos (by omega)]
    rw [hc]
    clear hc hx hy
    go_enter Tryz.func77, Tryz.ntmps77
    go_wp2
    go_ret
    exact ⟨rfl, by (repeat' (first | with_reducible exact Ext.refl _ | with_reducible refine Ext.setCell ?_ ?_ _ | with_reducible refine Ext.alloc ?_ _ | with_reducible refine Ext.drew ?_ | with_reducible refine Ext.drewN ?_ _ | with_reducible assumption | with_reducible refine Ext.trans ?_ (by assumption))) <;> (first | (simp; done) | (simp; omega) | omega)⟩
  · have C := fun w => natCmp (iabs y) (iabs x) w
    rw [cmpI_nn hx hy] at C
    have HC := Lib.hid C
    clear C hx hy
    generalize cmpI x y = c at *
    generalize iabs x = a at *
    generalize iabs y = b at *
    go_enter Tryz.func77, Tryz.ntmps77
    go_wp2_with (go_at_call 89; refine (HC.out _).mono ?_; rintro e w1 ⟨rfl, hx⟩)
    go_ret
    exact ⟨rfl, by (repeat' (first | with_reducible exact Ext.refl _ | with_reducible refine Ext.setCell ?_ ?_ _ | with_reducible refine Ext.alloc ?_ _ | with_reducible refine Ext.drew ?_ | with_reducible refine Ext.drewN ?_ _ | with_reducible assumption | with_reducible refine Ext.trans ?_ (by assumption))) <;> (first | (simp; done) | (simp; omega) | omega)⟩

theorem sgn_mul (x y : Int) : sgn (ineg x != ineg y) (iabs x * iabs y) = x * y := by
  have h : ∀ z : Int, z = if ineg z then -(iabs z : Int) else iabs z := fun z => by unfold ineg iabs; by_cases h : z < 0 <;> simp [h] <;> omega
  have hx := h x
  have hy := h y
  generalize ineg x = p at *
  generalize ineg y = q at *
  generalize iabs x = a at *
  generalize iabs y = b at *
  subst hx hy
  cases p <;> cases q <;> simp [sgn] <;> grind

set_option maxHeartbeats 2000000 in
theorem wholeMul (x y : Int) (hx : iabs x < 18446744073709551616) (hy : iabs y < 18446744073709551616) (h : iabs x * iabs y < 18446744073709551616) (w : World) :
    Calls Tryz.prog 72 #[.agg #[.bool (ineg x), .int .u64 ((iabs x : Nat) : Int), .string ⟨#[]⟩], .agg #[.bool (ineg y), .int .u64 ((iabs y : Nat) : Int), .string ⟨#[]⟩]] w fun e w' => e = .returned (.agg #[.bool (ineg (x * y)), .int .u64 ((iabs (x * y) : Nat) : Int), .string ⟨#[]⟩]) ∧ Ext w w' := by
  have M := Lib.hid (natMul (iabs x) (iabs y) hx hy h)
  have F := Lib.hid (wholeFrom (ineg x != ineg y) (iabs x * iabs y) h)
  rw [sgn_mul x y] at F
  clear h hx hy
  generalize iabs x * iabs y = m at *
  generalize ineg (x * y) = n2 at *
  generalize iabs (x * y) = a2 at *
  generalize ineg x = p at *
  generalize ineg y = q at *
  generalize iabs x = a at *
  generalize iabs y = b at *
  go_enter Tryz.func72, Tryz.ntmps72
  go_wp2
  go_region_held3 (fun w' => w'.cell? ⟨w.heap.size, 0, none⟩ = some (.bool p) ∧ w'.cell? ⟨w.heap.size, 1, none⟩ = some (.int .u64 (a : Int)) ∧ w'.cell? ⟨w.heap.size, 2, none⟩ = some (.string ⟨#[]⟩) ∧ w'.cell? ⟨w.heap.size + 1, 0, none⟩ = some (.bool q) ∧ w'.cell? ⟨w.heap.size + 1, 1, none⟩ = some (.int .u64 (b : Int)) ∧ w'.cell? ⟨w.heap.size + 1, 2, none⟩ = some (.string ⟨#[]⟩)) ((go_split_ands; refine ⟨?_, ?_, ?_, ?_, ?_, ?_⟩ <;> (first | (with_reducible exact Ext.some hx (by assumption)) | (with_reducible exact Ext.some ((Ext.refl _).alloc _) (by assumption)) | ((repeat rw [cell_set_ne _ (by omega)]); with_reducible assumption) | (go_simp; done) | go_keep))) ((first | (go_at_call 67; refine (M.out _).mono ?_; rintro e w1 ⟨rfl, hx⟩; obtain ⟨r0, zf0⟩ := Ext.both hx (p := ⟨w.heap.size + 1 + 1, 0, none⟩) (v := .bool false) (by first | with_reducible assumption | (simp [go_sem]; done) | (simp [go_sem, *]; done)) (by first | with_reducible assumption | (simp [go_sem]; done) | (simp [go_sem, *]; done)); obtain ⟨r1, zf1⟩ := Ext.both hx (p := ⟨w.heap.size + 1 + 1, 1, none⟩) (v := .int .u64 0) (by first | with_reducible assumption | (simp [go_sem]; done) | (simp [go_sem, *]; done)) (by first | with_reducible assumption | (simp [go_sem]; done) | (simp [go_sem, *]; done)); obtain ⟨r2, zf2⟩ := Ext.both hx (p := ⟨w.heap.size + 1 + 1, 2, none⟩) (v := .string ⟨#[]⟩) (by first | with_reducible assumption | (simp [go_sem]; done) | (simp [go_sem, *]; done)) (by first | with_reducible assumption | (simp [go_sem]; done) | (simp [go_sem, *]; done))) | (go_at_call 33; refine (F.out _).mono ?_; rintro e w2 ⟨rfl, hx⟩; obtain ⟨r0, zf0⟩ := Ext.both hx (p := ⟨w.heap.size + 1 + 1, 0, none⟩) (v := .bool false) (by first | with_reducible assumption | (simp [go_sem]; done) | (simp [go_sem, *]; done)) (by first | with_reducible assumption | (simp [go_sem]; done) | (simp [go_sem, *]; done)); obtain ⟨r1, zf1⟩ := Ext.both hx (p := ⟨w.heap.size + 1 + 1, 1, none⟩) (v := .int .u64 0) (by first | with_reducible assumption | (simp [go_sem]; done) | (simp [go_sem, *]; done)) (by first | with_reducible assumption | (simp [go_sem]; done) | (simp [go_sem, *]; done)); obtain ⟨r2, zf2⟩ := Ext.both hx (p := ⟨w.heap.size + 1 + 1, 2, none⟩) (v := .string ⟨#[]⟩) (by first | with_reducible assumption | (simp [go_sem]; done) | (simp [go_sem, *]; done)) (by first | with_reducible assumption | (simp [go_sem]; done) | (simp [go_sem, *]; done)))))
  go_wp2
  refine bodyPost_ret (v := .agg #[.bool n2, .int .u64 (a2 : Int), .string ⟨#[]⟩]) (by simp [results, Tryz.results72, go_sem, r0, r1, r2]) rfl ⟨rfl, ?_⟩
  (repeat' (first | with_reducible exact Ext.refl _ | with_reducible refine Ext.setCell ?_ ?_ _ | with_reducible refine Ext.alloc ?_ _ | with_reducible refine Ext.drew ?_ | with_reducible refine Ext.drewN ?_ _ | with_reducible assumption | with_reducible refine Ext.trans ?_ (by assumption))) <;> (first | (simp; done) | (simp; omega) | omega)
end Go.Proofs.YtmkonbkdjmfjhaaGreatDoor
