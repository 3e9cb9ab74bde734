/- Contracts of package nat's functions for numbers of one word. -/
import Derived.Test.YtmkonbkdjmfjhaaGreatDoorProg
import Derived.Test.YtmkonbkdjmfjhaaGreatDoorNum
import Derived.Test.YtmkonbkdjmfjhaaGreatDoorShelf
import Derived.WalkKit
import Derived.WalkSpells
import Derived.WalkLawsBesides
import Derived.Lib.Hide
import Derived.Lib.Mul64
import Derived.Lib.BitFns
namespace Go.Proofs.YtmkonbkdjmfjhaaGreatDoor
open Go.RowKit

theorem callAdd64 (x y c : Nat) (hc : c ≤ 1) (w : World) :
    (callFunc 106 #[.int .u64 x, .int .u64 y, .int .u64 c]).run Tryz.prog w =
      .ok (.value (.tuple #[.int .u64 (((x + y + c) % 18446744073709551616 : Nat) : Int), .int .u64 (((x + y + c) / 18446744073709551616 : Nat) : Int)])) w := by
  rw [run_callFunc_extern Tryz.func106 (by kernel_rfl) (by kernel_rfl) (by kernel_rfl) (e := add64Entry) (by kernel_rfl), run_add64 x y c (by omega) (by omega) (by omega) (by omega)]
  simp only [Result.andThen]
  congr 5 <;> omega
theorem callAdd64s (x y : Nat) (h : x + y < 18446744073709551616) (w : World) :
    (callFunc 106 #[.int .u64 x, .int .u64 y, .int .u64 0]).run Tryz.prog w =
      .ok (.value (.tuple #[.int .u64 ((x + y : Nat) : Int), .int .u64 0])) w := by
  have := callAdd64 x y 0 (by omega) w
  rw [show (x + y + 0) % 18446744073709551616 = x + y from by omega, show (x + y + 0) / 18446744073709551616 = 0 from by omega] at this
  exact this

theorem len64 (n : Nat) (h : n < 18446744073709551616) (w : World) :
    Calls Tryz.prog 80 #[.int .u64 n] w fun e w' => e = .returned (.int .i64 (Lib.bitLen n)) ∧ w = w' :=
  (Tryz.bits_Len64 n w (by omega) (by omega)).mono fun _ _ ⟨he, hw⟩ => ⟨he, hw.symm⟩

theorem mul64s (x y : Nat) (hx : x < 18446744073709551616) (hy : y < 18446744073709551616) (h : x * y < 18446744073709551616) (w : World) :
    Calls Tryz.prog 93 #[.int .u64 x, .int .u64 y] w fun e w' => e = .returned (.tuple #[.int .u64 0, .int .u64 ((x * y : Nat) : Int)]) ∧ w = w' := by
  refine (Tryz.bits_Mul64 x y hx hy w).mono fun _ _ ⟨he, hw⟩ => ⟨?_, hw.symm⟩
  rw [he, Nat.div_eq_of_lt h, Nat.mod_eq_of_lt h]; rfl

set_option maxHeartbeats 400000 in
theorem natOf (n : Nat) (w : World) :
    Calls Tryz.prog 73 #[.int .u64 n] w fun e w' => e = .returned (.agg #[.int .u64 ((n : Nat) : Int), .string ⟨#[]⟩]) ∧ Ext w w' := by
  go_enter Tryz.func73, Tryz.ntmps73
  go_wp2
  refine bodyPost_ret (v := .agg #[.int .u64 ((n : Nat) : Int), .string ⟨#[]⟩]) (by simp [results, Tryz.results73, go_sem]) rfl ⟨rfl, ?_⟩
  exact (Ext.refl _).alloc _

set_option maxHeartbeats 400000 in
theorem natBits (n : Nat) (h : n < 18446744073709551616) (w : World) :
    Calls Tryz.prog 54 #[.agg #[.int .u64 ((n : Nat) : Int), .string ⟨#[]⟩]] w fun e w' => e = .returned (.int .i64 (Lib.bitLen n)) ∧ Ext w w' := by
  go_enter Tryz.func54, Tryz.ntmps54
  go_wp2_with (go_at_call 80; refine (len64 n h _).mono ?_; rintro e w' ⟨rfl, rfl⟩)
  go_ret
  exact ⟨rfl, (Ext.refl _).alloc _⟩

set_option maxHeartbeats 400000 in
theorem natSmall (n : Nat) (w : World) :
    Calls Tryz.prog 91 #[.agg #[.int .u64 ((n : Nat) : Int), .string ⟨#[]⟩]] w fun e w' => e = .returned (.tuple #[.int .u64 n, .bool true]) ∧ Ext w w' := by
  go_enter Tryz.func91, Tryz.ntmps91
  go_wp2
  go_ret2
  exact ⟨rfl, (Ext.refl _).alloc _⟩

def cmpN (a b : Nat) : Int := if a < b then -1 else if b < a then 1 else 0

set_option maxHeartbeats 400000 in
theorem cmpWord (a b : Nat) (w : World) :
    Calls Tryz.prog 108 #[.int .u64 a, .int .u64 b] w fun e w' => e = .returned (.int .i64 (cmpN a b)) ∧ w = w' := by
  rcases Nat.lt_trichotomy a b with h | h | h
  · have HC : cmpN a b = -1 := by simp [cmpN, h]
    rw [HC]
    go_enter Tryz.func108, Tryz.ntmps108
    go_wp2
    go_ret
    exact ⟨rfl, rfl⟩
  · subst h
    have HC : cmpN a a = 0 := by simp [cmpN]
    rw [HC]
    go_enter Tryz.func108, Tryz.ntmps108
    go_wp2
    go_ret
    exact ⟨rfl, rfl⟩
  · have h2 : ¬ a < b := by omega
    have HC : cmpN a b = 1 := by simp [cmpN, h, h2]
    rw [HC]
    go_enter Tryz.func108, Tryz.ntmps108
    go_wp2
    go_ret
    exact ⟨rfl, rfl⟩

set_option maxHeartbeats 400000 in
theorem natCmp (a b : Nat) (w : World) :
    Calls Tryz.prog 89 #[.agg #[.int .u64 ((a : Nat) : Int), .string ⟨#[]⟩], .agg #[.int .u64 ((b : Nat) : Int), .string ⟨#[]⟩]] w fun e w' => e = .returned (.int .i64 (cmpN a b)) ∧ Ext w w' := by
  go_enter Tryz.func89, Tryz.ntmps89
  go_wp2_with fail
  refine wp_loop_rounds 1 ?_
  rw [rounds_succ]
  go_wp2_with (go_at_call 108; refine (cmpWord a b _).mono ?_; rintro e w' ⟨rfl, rfl⟩)
  go_ret
  exact ⟨rfl, ((Ext.refl _).alloc _).alloc _⟩

set_option maxHeartbeats 400000 in
theorem natAdd (a b : Nat) (h : a + b < 18446744073709551616) (w : World) :
    Calls Tryz.prog 87 #[.agg #[.int .u64 ((a : Nat) : Int), .string ⟨#[]⟩], .agg #[.int .u64 ((b : Nat) : Int), .string ⟨#[]⟩]] w fun e w' => e = .returned (.agg #[.int .u64 ((a + b : Nat) : Int), .string ⟨#[]⟩]) ∧ Ext w w' := by
  have hA := callAdd64s a b h
  generalize a + b = s at *
  clear h
  go_enter Tryz.func87, Tryz.ntmps87
  go_wp2
  refine bodyPost_ret (v := .agg #[.int .u64 ((s : Nat) : Int), .string ⟨#[]⟩]) (by simp [results, Tryz.results87, go_sem]) rfl ⟨rfl, ?_⟩
  exact (((Ext.refl _).alloc _).alloc _).alloc _

theorem cmpN_lt {a b : Nat} (h : a < b) : cmpN a b = -1 := by simp [cmpN, h]
theorem cmpN_ge {a b : Nat} (h : b ≤ a) : cmpN a b = 0 ∨ cmpN a b = 1 := by
  unfold cmpN
  rw [if_neg (by omega)]
  split <;> simp

theorem bcell {W w1 : World} (hb : Ext W w1) : (∀ b o, b < W.heap.size → w1.cell? ⟨b, o, none⟩ = W.cell? ⟨b, o, none⟩) ∧ (∀ b o, b < W.heap.size → w1.frozen? ⟨b, o, none⟩ = W.frozen? ⟨b, o, none⟩) :=
  ⟨fun b o h => hb.cell (p := ⟨b, o, none⟩) h, fun b o h => hb.frozen (p := ⟨b, o, none⟩) h⟩

set_option maxHeartbeats 400000 in
theorem natSub_no (a b : Nat) (h : a < b) (w : World) :
    Calls Tryz.prog 88 #[.agg #[.int .u64 ((a : Nat) : Int), .string ⟨#[]⟩], .agg #[.int .u64 ((b : Nat) : Int), .string ⟨#[]⟩]] w fun e w' => e = .returned (.tuple #[.agg #[.int .u64 ((0 : Nat) : Int), .string ⟨#[]⟩], .bool false]) ∧ Ext w w' := by
  go_enter Tryz.func88, Tryz.ntmps88
  go_wp2_with fail
  refine (natCmp a b _).mono ?_
  rintro e w1 ⟨rfl, hx⟩
  obtain ⟨hc, hf⟩ := bcell hx
  rw [cmpN_lt h]
  clear h
  go_wp2
  refine bodyPost_ret (v := .tuple #[.agg #[.int .u64 ((0 : Nat) : Int), .string ⟨#[]⟩], .bool false]) (by simp [results, Tryz.results88, go_sem, hc]) rfl ⟨rfl, ?_⟩
  (repeat' (first | with_reducible exact Ext.refl _ | with_reducible refine Ext.setCell ?_ ?_ _ | with_reducible refine Ext.alloc ?_ _ | with_reducible refine Ext.drew ?_ | with_reducible refine Ext.drewN ?_ _ | with_reducible assumption | with_reducible refine Ext.trans ?_ (by assumption))) <;> (simp; omega)

set_option maxHeartbeats 400000 in
theorem natSub (a b : Nat) (h : b ≤ a) (ha : a < 18446744073709551616) (w : World) :
    Calls Tryz.prog 88 #[.agg #[.int .u64 ((a : Nat) : Int), .string ⟨#[]⟩], .agg #[.int .u64 ((b : Nat) : Int), .string ⟨#[]⟩]] w fun e w' => e = .returned (.tuple #[.agg #[.int .u64 ((a - b : Nat) : Int), .string ⟨#[]⟩], .bool true]) ∧ Ext w w' := by
  have hs : IntKind.u64.wrap ((a : Int) - (b : Int)) = ((a - b : Nat) : Int) := by rw [IntKind.wrap_u64]; omega
  go_enter Tryz.func88, Tryz.ntmps88
  go_wp2_with fail
  refine (natCmp a b _).mono ?_
  rintro e w1 ⟨rfl, hx⟩
  obtain ⟨hc, hf⟩ := bcell hx
  rcases cmpN_ge h with e0 | e0
  all_goals
    rw [e0]
    go_wp2
    refine bodyPost_ret (v := .tuple #[.agg #[.int .u64 ((a - b : Nat) : Int), .string ⟨#[]⟩], .bool true]) (by simp [results, Tryz.results88, go_sem, hc]) rfl ⟨rfl, ?_⟩
    (repeat' (first | with_reducible exact Ext.refl _ | with_reducible refine Ext.setCell ?_ ?_ _ | with_reducible refine Ext.alloc ?_ _ | with_reducible refine Ext.drew ?_ | with_reducible refine Ext.drewN ?_ _ | with_reducible assumption | with_reducible refine Ext.trans ?_ (by assumption))) <;> (simp; omega)

set_option maxHeartbeats 400000 in
theorem natMul (a b : Nat) (ha : a < 18446744073709551616) (hb : b < 18446744073709551616) (h : a * b < 18446744073709551616) (w : World) :
    Calls Tryz.prog 67 #[.agg #[.int .u64 ((a : Nat) : Int), .string ⟨#[]⟩], .agg #[.int .u64 ((b : Nat) : Int), .string ⟨#[]⟩]] w fun e w' => e = .returned (.agg #[.int .u64 ((a * b : Nat) : Int), .string ⟨#[]⟩]) ∧ Ext w w' := by
  have M := Lib.hid (fun w => mul64s a b ha hb h w)
  generalize a * b = s at *
  clear h ha hb
  go_enter Tryz.func67, Tryz.ntmps67
  go_wp2_with (go_at_call 93; refine (M.out _).mono ?_; rintro e w' ⟨rfl, rfl⟩)
  refine bodyPost_ret (v := .agg #[.int .u64 ((s : Nat) : Int), .string ⟨#[]⟩]) (by simp [results, Tryz.results67, go_sem]) rfl ⟨rfl, ?_⟩
  (repeat' (first | with_reducible exact Ext.refl _ | with_reducible refine Ext.setCell ?_ ?_ _ | with_reducible refine Ext.alloc ?_ _ | with_reducible refine Ext.drew ?_ | with_reducible refine Ext.drewN ?_ _ | with_reducible assumption | with_reducible refine Ext.trans ?_ (by assumption))) <;> (simp; omega)

theorem bitLen_pos {b : Nat} (h : 0 < b) : Lib.bitLen b ≠ 0 := by
  unfold Lib.bitLen
  intro h0
  unfold Lib.bitLenAux at h0
  split at h0 <;> omega

set_option maxHeartbeats 400000 in
theorem natDiv (a b : Nat) (ha : a < 18446744073709551616) (hb : b < 18446744073709551616) (h : 0 < b) (w : World) :
    Calls Tryz.prog 90 #[.agg #[.int .u64 ((a : Nat) : Int), .string ⟨#[]⟩], .agg #[.int .u64 ((b : Nat) : Int), .string ⟨#[]⟩]] w fun e w' => e = .returned (.tuple #[.agg #[.int .u64 ((a / b : Nat) : Int), .string ⟨#[]⟩], .agg #[.int .u64 ((a % b : Nat) : Int), .string ⟨#[]⟩], .bool true]) ∧ Ext w w' := by
  have hp := bitLen_pos h
  have hq0 : IntKind.u64.wrap ((a : Int) / (b : Int)) = ((a / b : Nat) : Int) := by
    rw [IntKind.wrap_u64]
    have : a / b ≤ a := Nat.div_le_self a b
    have e : (a : Int) / (b : Int) = ((a / b : Nat) : Int) := by simp
    rw [e]
    generalize a / b = q at *
    omega
  have hr0 : (a : Int) % (b : Int) = ((a % b : Nat) : Int) := by simp
  have hq := Lib.hid hq0
  have hr := Lib.hid hr0
  clear hq0 hr0
  go_enter Tryz.func90, Tryz.ntmps90
  go_wp2_with fail
  refine (natBits b hb _).mono ?_
  rintro e w1 ⟨rfl, hx⟩
  obtain ⟨hc, hf⟩ := bcell hx
  have hp' : ((Lib.bitLen b : Int) == 0) = false := by simp [hp]
  have hbz : ((b : Int) == 0) = false := by simp; omega
  generalize Lib.bitLen b = L at *
  go_wp2
  go_region
  go_wp2
  refine bodyPost_ret (v := .tuple #[.agg #[.int .u64 (IntKind.u64.wrap ((a : Int) / (b : Int))), .string ⟨#[]⟩], .agg #[.int .u64 ((a : Int) % (b : Int)), .string ⟨#[]⟩], .bool true]) (by simp [results, Tryz.results90, go_sem, hc]) rfl ⟨by rw [hq.out, hr.out], ?_⟩
  (repeat' (first | with_reducible exact Ext.refl _ | with_reducible refine Ext.setCell ?_ ?_ _ | with_reducible refine Ext.alloc ?_ _ | with_reducible refine Ext.drew ?_ | with_reducible refine Ext.drewN ?_ _ | with_reducible assumption | with_reducible refine Ext.trans ?_ (by assumption))) <;> (simp; omega)
end Go.Proofs.YtmkonbkdjmfjhaaGreatDoor
