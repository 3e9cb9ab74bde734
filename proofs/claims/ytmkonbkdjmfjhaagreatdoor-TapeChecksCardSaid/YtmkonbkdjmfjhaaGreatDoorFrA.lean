/- Contracts of the program's fractions, for small ones, in the engine's words: Cmp, Max, Sub. -/
import Derived.Test.YtmkonbkdjmfjhaaGreatDoorVals
namespace Go.Proofs.YtmkonbkdjmfjhaaGreatDoor
open Go.RowKit


theorem rat_bd_add (a b : Rat) (ha : Sm a) (hb : Sm b) : iabs (a + b).num < 18446744073709551616 ∧ (a + b).den < 18446744073709551616 := by
  obtain ⟨a1, a2⟩ := ha
  obtain ⟨b1, b2⟩ := hb
  have hpos : 0 < a.den * b.den := Nat.mul_pos a.den_pos b.den_pos
  have e : a + b = mkRat (a.num * b.den + b.num * a.den) (a.den * b.den) := by rw [Rat.add_def, Rat.normalize_eq_mkRat]
  obtain ⟨p1, p2, p3, p4⟩ := mkRat_parts (a.num * b.den + b.num * a.den) (a.den * b.den) hpos
  rw [e, p1, p2]
  have q1 := iabs_div_le _ _ p3
  have q2 : a.den * b.den / Nat.gcd (iabs (a.num * b.den + b.num * a.den)) (a.den * b.den) ≤ a.den * b.den := Nat.div_le_self _ _
  have m1 : a.den * b.den ≤ 2147483648 * 2147483648 := Nat.mul_le_mul (by omega) (by omega)
  have m2 : iabs (a.num * b.den + b.num * a.den) ≤ 2147483648 * 2147483648 + 2147483648 * 2147483648 := by
    unfold iabs at *
    have t1 : (a.num * b.den).natAbs ≤ 2147483648 * 2147483648 := by rw [Int.natAbs_mul]; exact Nat.mul_le_mul (by omega) (by simp; omega)
    have t2 : (b.num * a.den).natAbs ≤ 2147483648 * 2147483648 := by rw [Int.natAbs_mul]; exact Nat.mul_le_mul (by omega) (by simp; omega)
    have := Int.natAbs_add_le (a.num * b.den) (b.num * a.den)
    omega
  omega
theorem rat_bd_mul (a b : Rat) (ha : Sm a) (hb : Sm b) : iabs (a * b).num < 18446744073709551616 ∧ (a * b).den < 18446744073709551616 := by
  obtain ⟨a1, a2⟩ := ha
  obtain ⟨b1, b2⟩ := hb
  have hpos : 0 < a.den * b.den := Nat.mul_pos a.den_pos b.den_pos
  have e : a * b = mkRat (a.num * b.num) (a.den * b.den) := by rw [Rat.mul_def, Rat.normalize_eq_mkRat]
  obtain ⟨p1, p2, p3, p4⟩ := mkRat_parts (a.num * b.num) (a.den * b.den) hpos
  rw [e, p1, p2]
  have q1 := iabs_div_le _ _ p3
  have q2 : a.den * b.den / Nat.gcd (iabs (a.num * b.num)) (a.den * b.den) ≤ a.den * b.den := Nat.div_le_self _ _
  have m1 : a.den * b.den ≤ 2147483648 * 2147483648 := Nat.mul_le_mul (by omega) (by omega)
  have m2 : iabs (a.num * b.num) ≤ 2147483648 * 2147483648 := by
    unfold iabs at *
    rw [Int.natAbs_mul]; exact Nat.mul_le_mul (by omega) (by omega)
  omega
theorem cAdd (a b : Rat) (ha : Sm a) (hb : Sm b) (w : World) : Calls Tryz.prog 36 #[qv a, qv b] w fun e w' => e = .returned (qv (a + b)) ∧ Ext w w' := by
  obtain ⟨b1, b2⟩ := rat_bd_add a b ha hb
  rw [ha.v, hb.v, qv_small b1 b2]
  by_cases h : a.den = 1 ∧ b.den = 1
  · exact fracAdd_whole a b ha hb h.1 h.2 w
  · exact fracAdd_gen a b ha hb h w
theorem cMul (a b : Rat) (ha : Sm a) (hb : Sm b) (w : World) : Calls Tryz.prog 40 #[qv a, qv b] w fun e w' => e = .returned (qv (a * b)) ∧ Ext w w' := by
  obtain ⟨b1, b2⟩ := rat_bd_mul a b ha hb
  rw [ha.v, hb.v, qv_small b1 b2]
  by_cases h : a.den = 1 ∧ b.den = 1
  · exact fracMul_whole a b ha hb h.1 h.2 w
  · exact fracMul_gen a b ha hb h w
theorem cIsWhole (a : Rat) (ha : Sm a) (w : World) : Calls Tryz.prog 59 #[qv a] w fun e w' => e = .returned (.bool (decide (a.den = 1))) ∧ Ext w w' := by
  rw [ha.v]; exact fracIsWhole a (by have := ha.2; omega) w
theorem cSign (a : Rat) (ha : Sm a) (w : World) : Calls Tryz.prog 37 #[qv a] w fun e w' => e = .returned (.int .i64 a.num.sign) ∧ Ext w w' := by
  rw [ha.v]; exact fracSign a (by have := ha.1; omega) w
theorem cDen (a : Rat) (ha : Sm a) (w : World) : Calls Tryz.prog 62 #[qv a] w fun e w' => e = .returned (nv a.den) ∧ Ext w w' := by
  rw [ha.v, nv_small (by have := ha.2; omega)]; exact fracDen a (by have := ha.2; omega) w
theorem cTimes (z : Int) (d : Nat) (hz : iabs z < 2147483648) (hd : d < 2147483648) (w : World) : Calls Tryz.prog 64 #[iv z, nv d] w fun e w' => e = .returned (iv (z * d)) ∧ Ext w w' := by
  have m : iabs z * d ≤ 2147483648 * 2147483648 := Nat.mul_le_mul (by omega) (by omega)
  have m2 : iabs (z * d) = iabs z * d := by unfold iabs; rw [Int.natAbs_mul]; simp
  rw [iv_small (by omega), nv_small (by omega), iv_small (by omega)]
  exact fracTimes z d (by omega) (by omega) (by omega) w
theorem cWCmp (x y : Int) (hx : iabs x < 18446744073709551616) (hy : iabs y < 18446744073709551616) (w : World) : Calls Tryz.prog 77 #[iv x, iv y] w fun e w' => e = .returned (.int .i64 (cmpI x y)) ∧ Ext w w' := by
  rw [iv_small hx, iv_small hy]; exact wholeCmp x y w
/-- How two fractions compare. -/
def cmpR (a b : Rat) : Int := cmpI (a.num * b.den) (b.num * a.den)
theorem cmpR_whole {a b : Rat} (h1 : a.den = 1) (h2 : b.den = 1) : cmpI a.num b.num = cmpR a b := by unfold cmpR; rw [h1, h2]; simp
theorem cmpR_sign {a b : Rat} (h : (a.num.sign != b.num.sign) = true) : cmpI a.num b.num = cmpR a b := by
  have h : a.num.sign ≠ b.num.sign := by simpa using h
  have ha := a.den_pos
  have hb := b.den_pos
  unfold cmpR cmpI
  rcases Int.lt_trichotomy a.num 0 with p | p | p <;> rcases Int.lt_trichotomy b.num 0 with q | q | q
  · exact absurd (by rw [Int.sign_eq_neg_one_of_neg p, Int.sign_eq_neg_one_of_neg q]) h
  · have : a.num * (b.den : Int) < 0 := Int.mul_neg_of_neg_of_pos p (by omega)
    rw [q]; simp; rw [if_pos p, if_pos this]
  · have t1 : a.num * (b.den : Int) < 0 := Int.mul_neg_of_neg_of_pos p (by omega)
    have t2 : 0 < b.num * (a.den : Int) := Int.mul_pos q (by omega)
    rw [if_pos (by omega), if_pos (by omega)]
  · have : b.num * (a.den : Int) < 0 := Int.mul_neg_of_neg_of_pos q (by omega)
    rw [p]; simp; rw [if_neg (by omega), if_pos q, if_neg (by omega), if_pos this]
  · exact absurd (by rw [p, q]) h
  · have : 0 < b.num * (a.den : Int) := Int.mul_pos q (by omega)
    rw [p]; simp; rw [if_pos q, if_pos this]
  · have t1 : 0 < a.num * (b.den : Int) := Int.mul_pos p (by omega)
    have t2 : b.num * (a.den : Int) < 0 := Int.mul_neg_of_neg_of_pos q (by omega)
    rw [if_neg (by omega), if_pos (by omega), if_neg (by omega), if_pos (by omega)]
  · have : 0 < a.num * (b.den : Int) := Int.mul_pos p (by omega)
    rw [q]; simp; rw [if_neg (by omega), if_pos p, if_neg (by omega), if_pos this]
  · exact absurd (by rw [Int.sign_eq_one_of_pos p, Int.sign_eq_one_of_pos q]) h

set_option maxRecDepth 100000 in
set_option maxHeartbeats 600000 in
theorem cCmp (a b : Rat) (ha : Sm a) (hb : Sm b) (w : World) (h : Hp) (g : G w h) :
    Calls Tryz.prog 46 #[qv a, qv b] w (Ret w h fun v _ => v = .int .i64 (cmpR a b)) := by
  have hs := St.start g
  have ha1 := ha.1; have ha2 := ha.2; have hb1 := hb.1; have hb2 := hb.2
  have m1 : iabs (a.num * (b.den : Nat)) < 18446744073709551616 := by unfold iabs at *; rw [Int.natAbs_mul]; have := Nat.mul_le_mul (Nat.le_of_lt ha1) (Nat.le_of_lt hb2); simp at this ⊢; omega
  have m2 : iabs (b.num * (a.den : Nat)) < 18446744073709551616 := by unfold iabs at *; rw [Int.natAbs_mul]; have := Nat.mul_le_mul (Nat.le_of_lt hb1) (Nat.le_of_lt ha2); simp at this ⊢; omega
  refine enter (n := 34) Tryz.func46 rfl rfl (Nat.le_of_ble_eq_true (by kernel_rfl)) [(0, qv a), (1, qv b)] rfl ?_
  refine CG.seq ?_
  refine CG.listed ?_
  refine LG.var 2 60 (qc a) hs (by kernel_rfl) (by kernel_rfl) (by kernel_rfl) (fun b1 w2 h3 nb_ u4 hs => ?_)
  refine LG.var 3 60 (qc b) hs (by kernel_rfl) (by kernel_rfl) (by kernel_rfl) (fun b5 w6 h7 nb_ u8 hs => ?_)
  refine LG.val 4 (.int .i64 0) w6 (by kernel_rfl) (by kernel_rfl) (by kernel_rfl) ?_
  refine LG.next (by kernel_rfl) ?_
  refine CG.seq ?_
  refine CG.seq ?_
  have hsr := hs
  refine CG.region ⟨[], none⟩ 13 [] mixed (by kernel_rfl) hs.g al_nil (fun _ hb => by cases hb) ?_
  refine Rg.own 0 5 [(1, 0, 5)] (qv a) hs (by kernel_rfl) (by kernel_rfl) (fun _ _ => List.not_mem_nil) (by kernel_rfl) (by kernel_rfl) ?_
  refine Rg.call 1 6 59 #[qv a] (by kernel_rfl) (by kernel_rfl) (fun _ => by kernel_rfl) (fun w12 h13 u14 => ?_)
  replace hs := hs.step u14
  refine (Ret.of_ext hs.g (cIsWhole a ha w12)).mono ?_
  rintro _ w9 ⟨vu11, h10, rfl, u11, rfl⟩
  refine ⟨_, h10, rfl, u11.m _, ?_⟩
  replace hs := hs.step u11
  cases hb15 : (decide (a.den = 1))
  ·
    have phb15 := of_decide_eq_false hb15
    refine Rg.pure 2 7 (.bool false) (by kernel_rfl) (by kernel_rfl) (fun _ => by kernel_rfl) ?_
    refine Rg.skip 3 8 (by kernel_rfl) (by kernel_rfl) ?_
    refine Rg.skip 4 9 (by kernel_rfl) (by kernel_rfl) ?_
    refine Rg.pure 5 10 (.bool false) (by kernel_rfl) (by kernel_rfl) (fun _ => by kernel_rfl) ?_
    refine Rg.pure 6 11 (.bool false) (by kernel_rfl) (by kernel_rfl) (fun _ => by kernel_rfl) ?_
    refine Rg.own 7 12 [(1, 0, 5)] (qv a) hs (by kernel_rfl) (by kernel_rfl) (fun _ _ => List.not_mem_nil) (by kernel_rfl) (by kernel_rfl) ?_
    refine Rg.own 9 14 [(0, 0, 5)] (qv b) hs (by kernel_rfl) (by kernel_rfl) (fun _ _ => List.not_mem_nil) (by kernel_rfl) (by kernel_rfl) ?_
    refine Rg.call 8 13 37 #[qv a] (by kernel_rfl) (by kernel_rfl) (fun _ => by kernel_rfl) (fun w19 h20 u21 => ?_)
    replace hs := hs.step u21
    refine (Ret.of_ext hs.g (cSign a ha w19)).mono ?_
    rintro _ w16 ⟨vu18, h17, rfl, u18, rfl⟩
    refine ⟨_, h17, rfl, u18.m _, ?_⟩
    replace hs := hs.step u18
    refine Rg.call 10 15 37 #[qv b] (by kernel_rfl) (by kernel_rfl) (fun _ => by kernel_rfl) (fun w25 h26 u27 => ?_)
    replace hs := hs.step u27
    refine (Ret.of_ext hs.g (cSign b hb w25)).mono ?_
    rintro _ w22 ⟨vu24, h23, rfl, u24, rfl⟩
    refine ⟨_, h23, rfl, u24.m _, ?_⟩
    replace hs := hs.step u24
    cases hb28 : ((a.num.sign : Int) != (b.num.sign : Int))
    ·
      have phb28 := eqOfBne hb28
      refine Rg.pure 11 16 (.bool false) (by kernel_rfl) (by kernel_rfl) (fun _ => rb (by kernel_rfl) hb28) ?_
      refine Rg.pure 12 17 (.bool false) (by kernel_rfl) (by kernel_rfl) (fun _ => by kernel_rfl) ?_
      refine Rg.fin0 (by kernel_rfl) (fun w29 h30 u31 => ?_)
      replace hs := hs.step u31
      refine T.next (by kernel_rfl) ?_
      refine CG.to [(2, .pointer (some ⟨b1, 0, none⟩)), (3, .pointer (some ⟨b5, 0, none⟩)), (4, .int .i64 0), (17, .bool false)] (by kernel_rfl) ?_
      refine CG.condF (by kernel_rfl) (by kernel_rfl) ?_
      refine CG.skipN ?_
      refine CG.seq ?_
      have hsr := hs
      refine CG.region ⟨[], none⟩ 11 [] mixed (by kernel_rfl) hs.g al_nil (fun _ hb => by cases hb) ?_
      refine Rg.pure 0 23 (.pointer (some ⟨b1, 0, none⟩)) (by kernel_rfl) (by kernel_rfl) (fun _ => by kernel_rfl) ?_
      refine Rg.own 1 24 [(1, 0, 3)] (iv a.num) hs (by kernel_rfl) (by kernel_rfl) (fun _ _ => List.not_mem_nil) (by kernel_rfl) (by kernel_rfl) ?_
      refine Rg.own 2 25 [(0, 0, 5)] (qv b) hs (by kernel_rfl) (by kernel_rfl) (fun _ _ => List.not_mem_nil) (by kernel_rfl) (by kernel_rfl) ?_
      refine Rg.pure 5 28 (.pointer (some ⟨b5, 0, none⟩)) (by kernel_rfl) (by kernel_rfl) (fun _ => by kernel_rfl) ?_
      refine Rg.own 6 29 [(0, 0, 3)] (iv b.num) hs (by kernel_rfl) (by kernel_rfl) (fun _ _ => List.not_mem_nil) (by kernel_rfl) (by kernel_rfl) ?_
      refine Rg.own 7 30 [(1, 0, 5)] (qv a) hs (by kernel_rfl) (by kernel_rfl) (fun _ _ => List.not_mem_nil) (by kernel_rfl) (by kernel_rfl) ?_
      refine Rg.call 3 26 62 #[qv b] (by kernel_rfl) (by kernel_rfl) (fun _ => by kernel_rfl) (fun w35 h36 u37 => ?_)
      replace hs := hs.step u37
      refine (Ret.of_ext hs.g (cDen b hb w35)).mono ?_
      rintro _ w32 ⟨vu34, h33, rfl, u34, rfl⟩
      refine ⟨_, h33, rfl, u34.m _, ?_⟩
      replace hs := hs.step u34
      refine Rg.call 4 27 64 #[iv a.num, nv b.den] (by kernel_rfl) (by kernel_rfl) (fun _ => by kernel_rfl) (fun w41 h42 u43 => ?_)
      replace hs := hs.step u43
      refine (Ret.of_ext hs.g (cTimes (a.num) b.den (by omega) (by omega) w41)).mono ?_
      rintro _ w38 ⟨vu40, h39, rfl, u40, rfl⟩
      refine ⟨_, h39, rfl, u40.m _, ?_⟩
      replace hs := hs.step u40
      refine Rg.call 8 31 62 #[qv a] (by kernel_rfl) (by kernel_rfl) (fun _ => by kernel_rfl) (fun w47 h48 u49 => ?_)
      replace hs := hs.step u49
      refine (Ret.of_ext hs.g (cDen a ha w47)).mono ?_
      rintro _ w44 ⟨vu46, h45, rfl, u46, rfl⟩
      refine ⟨_, h45, rfl, u46.m _, ?_⟩
      replace hs := hs.step u46
      refine Rg.call 9 32 64 #[iv b.num, nv a.den] (by kernel_rfl) (by kernel_rfl) (fun _ => by kernel_rfl) (fun w53 h54 u55 => ?_)
      replace hs := hs.step u55
      refine (Ret.of_ext hs.g (cTimes (b.num) a.den (by omega) (by omega) w53)).mono ?_
      rintro _ w50 ⟨vu52, h51, rfl, u52, rfl⟩
      refine ⟨_, h51, rfl, u52.m _, ?_⟩
      replace hs := hs.step u52
      refine Rg.call 10 33 77 #[iv (a.num * (b.den : Nat)), iv (b.num * (a.den : Nat))] (by kernel_rfl) (by kernel_rfl) (fun _ => by kernel_rfl) (fun w59 h60 u61 => ?_)
      replace hs := hs.step u61
      refine (Ret.of_ext hs.g (cWCmp (a.num * (b.den : Nat)) (b.num * (a.den : Nat)) (by omega) (by omega) w59)).mono ?_
      rintro _ w56 ⟨vu58, h57, rfl, u58, rfl⟩
      refine ⟨_, h57, rfl, u58.m _, ?_⟩
      replace hs := hs.step u58
      refine Rg.fin0 (by kernel_rfl) (fun w62 h63 u64 => ?_)
      replace hs := hs.step u64
      refine T.val 11 4 (.int .i64 (cmpI (a.num * (b.den : Nat)) (b.num * (a.den : Nat)))) w62 (by kernel_rfl) (by kernel_rfl) (by kernel_rfl) ?_
      refine T.next (by kernel_rfl) ?_
      refine CG.to [(4, .int .i64 (cmpI (a.num * (b.den : Nat)) (b.num * (a.den : Nat))))] (by kernel_rfl) ?_
      refine CG.ret ?_
      exact retP hs [] (.int .i64 (cmpI (a.num * (b.den : Nat)) (b.num * (a.den : Nat)))) (by kernel_rfl) (by kernel_rfl) (congrArg (Value.int .i64) (by first | rfl | exact cmpR_whole (by simpa using ‹decide (a.den = 1) = true›) (by simpa using ‹decide (b.den = 1) = true›) | exact cmpR_sign ‹_›))
    ·
      have phb28 := neOfBne hb28
      refine Rg.pure 11 16 (.bool true) (by kernel_rfl) (by kernel_rfl) (fun _ => rb (by kernel_rfl) hb28) ?_
      refine Rg.pure 12 17 (.bool true) (by kernel_rfl) (by kernel_rfl) (fun _ => by kernel_rfl) ?_
      refine Rg.fin0 (by kernel_rfl) (fun w65 h66 u67 => ?_)
      replace hs := hs.step u67
      refine T.next (by kernel_rfl) ?_
      refine CG.to [(2, .pointer (some ⟨b1, 0, none⟩)), (3, .pointer (some ⟨b5, 0, none⟩)), (4, .int .i64 0), (17, .bool true)] (by kernel_rfl) ?_
      refine CG.condT (by kernel_rfl) (by kernel_rfl) ?_
      refine CG.seq ?_
      refine CG.listed ?_
      refine LG.val 18 (.pointer (some ⟨b1, 0, none⟩)) w65 (by kernel_rfl) (by kernel_rfl) (by kernel_rfl) ?_
      refine LG.own 19 [(1, 0, 3)] (iv a.num) hs (by kernel_rfl) (by kernel_rfl) (by kernel_rfl) (by kernel_rfl) ?_
      refine LG.val 20 (.pointer (some ⟨b5, 0, none⟩)) w65 (by kernel_rfl) (by kernel_rfl) (by kernel_rfl) ?_
      refine LG.own 21 [(0, 0, 3)] (iv b.num) hs (by kernel_rfl) (by kernel_rfl) (by kernel_rfl) (by kernel_rfl) ?_
      refine LG.call 22 77 #[iv a.num, iv b.num] (by kernel_rfl) (by kernel_rfl) (by kernel_rfl) ?_
      refine (Ret.of_ext hs.g (cWCmp (a.num) (b.num) (by omega) (by omega) w65)).mono ?_
      rintro _ w68 ⟨vu70, h69, rfl, u70, rfl⟩
      refine ⟨_, rfl, ?_⟩
      replace hs := hs.step u70
      refine LG.val 4 (.int .i64 (cmpI (a.num) (b.num))) w68 (by kernel_rfl) (by kernel_rfl) (by kernel_rfl) ?_
      refine LG.next (by kernel_rfl) ?_
      refine CG.ret ?_
      exact retP hs [] (.int .i64 (cmpI (a.num) (b.num))) (by kernel_rfl) (by kernel_rfl) (congrArg (Value.int .i64) (by first | rfl | exact cmpR_whole (by simpa using ‹decide (a.den = 1) = true›) (by simpa using ‹decide (b.den = 1) = true›) | exact cmpR_sign ‹_›))
  ·
    have phb15 := of_decide_eq_true hb15
    refine Rg.pure 2 7 (.bool true) (by kernel_rfl) (by kernel_rfl) (fun _ => by kernel_rfl) ?_
    refine Rg.own 3 8 [(0, 0, 5)] (qv b) hs (by kernel_rfl) (by kernel_rfl) (fun _ _ => List.not_mem_nil) (by kernel_rfl) (by kernel_rfl) ?_
    refine Rg.call 4 9 59 #[qv b] (by kernel_rfl) (by kernel_rfl) (fun _ => by kernel_rfl) (fun w74 h75 u76 => ?_)
    replace hs := hs.step u76
    refine (Ret.of_ext hs.g (cIsWhole b hb w74)).mono ?_
    rintro _ w71 ⟨vu73, h72, rfl, u73, rfl⟩
    refine ⟨_, h72, rfl, u73.m _, ?_⟩
    replace hs := hs.step u73
    cases hb77 : (decide (b.den = 1))
    ·
      have phb77 := of_decide_eq_false hb77
      refine Rg.pure 5 10 (.bool false) (by kernel_rfl) (by kernel_rfl) (fun _ => by kernel_rfl) ?_
      refine Rg.pure 6 11 (.bool false) (by kernel_rfl) (by kernel_rfl) (fun _ => by kernel_rfl) ?_
      refine Rg.own 7 12 [(1, 0, 5)] (qv a) hs (by kernel_rfl) (by kernel_rfl) (fun _ _ => List.not_mem_nil) (by kernel_rfl) (by kernel_rfl) ?_
      refine Rg.own 9 14 [(0, 0, 5)] (qv b) hs (by kernel_rfl) (by kernel_rfl) (fun _ _ => List.not_mem_nil) (by kernel_rfl) (by kernel_rfl) ?_
      refine Rg.call 8 13 37 #[qv a] (by kernel_rfl) (by kernel_rfl) (fun _ => by kernel_rfl) (fun w81 h82 u83 => ?_)
      replace hs := hs.step u83
      refine (Ret.of_ext hs.g (cSign a ha w81)).mono ?_
      rintro _ w78 ⟨vu80, h79, rfl, u80, rfl⟩
      refine ⟨_, h79, rfl, u80.m _, ?_⟩
      replace hs := hs.step u80
      refine Rg.call 10 15 37 #[qv b] (by kernel_rfl) (by kernel_rfl) (fun _ => by kernel_rfl) (fun w87 h88 u89 => ?_)
      replace hs := hs.step u89
      refine (Ret.of_ext hs.g (cSign b hb w87)).mono ?_
      rintro _ w84 ⟨vu86, h85, rfl, u86, rfl⟩
      refine ⟨_, h85, rfl, u86.m _, ?_⟩
      replace hs := hs.step u86
      cases hb90 : ((a.num.sign : Int) != (b.num.sign : Int))
      ·
        have phb90 := eqOfBne hb90
        refine Rg.pure 11 16 (.bool false) (by kernel_rfl) (by kernel_rfl) (fun _ => rb (by kernel_rfl) hb90) ?_
        refine Rg.pure 12 17 (.bool false) (by kernel_rfl) (by kernel_rfl) (fun _ => by kernel_rfl) ?_
        refine Rg.fin0 (by kernel_rfl) (fun w91 h92 u93 => ?_)
        replace hs := hs.step u93
        refine T.next (by kernel_rfl) ?_
        refine CG.to [(2, .pointer (some ⟨b1, 0, none⟩)), (3, .pointer (some ⟨b5, 0, none⟩)), (4, .int .i64 0), (17, .bool false)] (by kernel_rfl) ?_
        refine CG.condF (by kernel_rfl) (by kernel_rfl) ?_
        refine CG.skipN ?_
        refine CG.seq ?_
        have hsr := hs
        refine CG.region ⟨[], none⟩ 11 [] mixed (by kernel_rfl) hs.g al_nil (fun _ hb => by cases hb) ?_
        refine Rg.pure 0 23 (.pointer (some ⟨b1, 0, none⟩)) (by kernel_rfl) (by kernel_rfl) (fun _ => by kernel_rfl) ?_
        refine Rg.own 1 24 [(1, 0, 3)] (iv a.num) hs (by kernel_rfl) (by kernel_rfl) (fun _ _ => List.not_mem_nil) (by kernel_rfl) (by kernel_rfl) ?_
        refine Rg.own 2 25 [(0, 0, 5)] (qv b) hs (by kernel_rfl) (by kernel_rfl) (fun _ _ => List.not_mem_nil) (by kernel_rfl) (by kernel_rfl) ?_
        refine Rg.pure 5 28 (.pointer (some ⟨b5, 0, none⟩)) (by kernel_rfl) (by kernel_rfl) (fun _ => by kernel_rfl) ?_
        refine Rg.own 6 29 [(0, 0, 3)] (iv b.num) hs (by kernel_rfl) (by kernel_rfl) (fun _ _ => List.not_mem_nil) (by kernel_rfl) (by kernel_rfl) ?_
        refine Rg.own 7 30 [(1, 0, 5)] (qv a) hs (by kernel_rfl) (by kernel_rfl) (fun _ _ => List.not_mem_nil) (by kernel_rfl) (by kernel_rfl) ?_
        refine Rg.call 3 26 62 #[qv b] (by kernel_rfl) (by kernel_rfl) (fun _ => by kernel_rfl) (fun w97 h98 u99 => ?_)
        replace hs := hs.step u99
        refine (Ret.of_ext hs.g (cDen b hb w97)).mono ?_
        rintro _ w94 ⟨vu96, h95, rfl, u96, rfl⟩
        refine ⟨_, h95, rfl, u96.m _, ?_⟩
        replace hs := hs.step u96
        refine Rg.call 4 27 64 #[iv a.num, nv b.den] (by kernel_rfl) (by kernel_rfl) (fun _ => by kernel_rfl) (fun w103 h104 u105 => ?_)
        replace hs := hs.step u105
        refine (Ret.of_ext hs.g (cTimes (a.num) b.den (by omega) (by omega) w103)).mono ?_
        rintro _ w100 ⟨vu102, h101, rfl, u102, rfl⟩
        refine ⟨_, h101, rfl, u102.m _, ?_⟩
        replace hs := hs.step u102
        refine Rg.call 8 31 62 #[qv a] (by kernel_rfl) (by kernel_rfl) (fun _ => by kernel_rfl) (fun w109 h110 u111 => ?_)
        replace hs := hs.step u111
        refine (Ret.of_ext hs.g (cDen a ha w109)).mono ?_
        rintro _ w106 ⟨vu108, h107, rfl, u108, rfl⟩
        refine ⟨_, h107, rfl, u108.m _, ?_⟩
        replace hs := hs.step u108
        refine Rg.call 9 32 64 #[iv b.num, nv a.den] (by kernel_rfl) (by kernel_rfl) (fun _ => by kernel_rfl) (fun w115 h116 u117 => ?_)
        replace hs := hs.step u117
        refine (Ret.of_ext hs.g (cTimes (b.num) a.den (by omega) (by omega) w115)).mono ?_
        rintro _ w112 ⟨vu114, h113, rfl, u114, rfl⟩
        refine ⟨_, h113, rfl, u114.m _, ?_⟩
        replace hs := hs.step u114
        refine Rg.call 10 33 77 #[iv (a.num * (b.den : Nat)), iv (b.num * (a.den : Nat))] (by kernel_rfl) (by kernel_rfl) (fun _ => by kernel_rfl) (fun w121 h122 u123 => ?_)
        replace hs := hs.step u123
        refine (Ret.of_ext hs.g (cWCmp (a.num * (b.den : Nat)) (b.num * (a.den : Nat)) (by omega) (by omega) w121)).mono ?_
        rintro _ w118 ⟨vu120, h119, rfl, u120, rfl⟩
        refine ⟨_, h119, rfl, u120.m _, ?_⟩
        replace hs := hs.step u120
        refine Rg.fin0 (by kernel_rfl) (fun w124 h125 u126 => ?_)
        replace hs := hs.step u126
        refine T.val 11 4 (.int .i64 (cmpI (a.num * (b.den : Nat)) (b.num * (a.den : Nat)))) w124 (by kernel_rfl) (by kernel_rfl) (by kernel_rfl) ?_
        refine T.next (by kernel_rfl) ?_
        refine CG.to [(4, .int .i64 (cmpI (a.num * (b.den : Nat)) (b.num * (a.den : Nat))))] (by kernel_rfl) ?_
        refine CG.ret ?_
        exact retP hs [] (.int .i64 (cmpI (a.num * (b.den : Nat)) (b.num * (a.den : Nat)))) (by kernel_rfl) (by kernel_rfl) (congrArg (Value.int .i64) (by first | rfl | exact cmpR_whole (by simpa using ‹decide (a.den = 1) = true›) (by simpa using ‹decide (b.den = 1) = true›) | exact cmpR_sign ‹_›))
      ·
        have phb90 := neOfBne hb90
        refine Rg.pure 11 16 (.bool true) (by kernel_rfl) (by kernel_rfl) (fun _ => rb (by kernel_rfl) hb90) ?_
        refine Rg.pure 12 17 (.bool true) (by kernel_rfl) (by kernel_rfl) (fun _ => by kernel_rfl) ?_
        refine Rg.fin0 (by kernel_rfl) (fun w127 h128 u129 => ?_)
        replace hs := hs.step u129
        refine T.next (by kernel_rfl) ?_
        refine CG.to [(2, .pointer (some ⟨b1, 0, none⟩)), (3, .pointer (some ⟨b5, 0, none⟩)), (4, .int .i64 0), (17, .bool true)] (by kernel_rfl) ?_
        refine CG.condT (by kernel_rfl) (by kernel_rfl) ?_
        refine CG.seq ?_
        refine CG.listed ?_
        refine LG.val 18 (.pointer (some ⟨b1, 0, none⟩)) w127 (by kernel_rfl) (by kernel_rfl) (by kernel_rfl) ?_
        refine LG.own 19 [(1, 0, 3)] (iv a.num) hs (by kernel_rfl) (by kernel_rfl) (by kernel_rfl) (by kernel_rfl) ?_
        refine LG.val 20 (.pointer (some ⟨b5, 0, none⟩)) w127 (by kernel_rfl) (by kernel_rfl) (by kernel_rfl) ?_
        refine LG.own 21 [(0, 0, 3)] (iv b.num) hs (by kernel_rfl) (by kernel_rfl) (by kernel_rfl) (by kernel_rfl) ?_
        refine LG.call 22 77 #[iv a.num, iv b.num] (by kernel_rfl) (by kernel_rfl) (by kernel_rfl) ?_
        refine (Ret.of_ext hs.g (cWCmp (a.num) (b.num) (by omega) (by omega) w127)).mono ?_
        rintro _ w130 ⟨vu132, h131, rfl, u132, rfl⟩
        refine ⟨_, rfl, ?_⟩
        replace hs := hs.step u132
        refine LG.val 4 (.int .i64 (cmpI (a.num) (b.num))) w130 (by kernel_rfl) (by kernel_rfl) (by kernel_rfl) ?_
        refine LG.next (by kernel_rfl) ?_
        refine CG.ret ?_
        exact retP hs [] (.int .i64 (cmpI (a.num) (b.num))) (by kernel_rfl) (by kernel_rfl) (congrArg (Value.int .i64) (by first | rfl | exact cmpR_whole (by simpa using ‹decide (a.den = 1) = true›) (by simpa using ‹decide (b.den = 1) = true›) | exact cmpR_sign ‹_›))
    ·
      have phb77 := of_decide_eq_true hb77
      refine Rg.pure 5 10 (.bool true) (by kernel_rfl) (by kernel_rfl) (fun _ => by kernel_rfl) ?_
      refine Rg.pure 6 11 (.bool true) (by kernel_rfl) (by kernel_rfl) (fun _ => by kernel_rfl) ?_
      refine Rg.skip 7 12 (by kernel_rfl) (by kernel_rfl) ?_
      refine Rg.skip 8 13 (by kernel_rfl) (by kernel_rfl) ?_
      refine Rg.skip 9 14 (by kernel_rfl) (by kernel_rfl) ?_
      refine Rg.skip 10 15 (by kernel_rfl) (by kernel_rfl) ?_
      refine Rg.skip 11 16 (by kernel_rfl) (by kernel_rfl) ?_
      refine Rg.pure 12 17 (.bool true) (by kernel_rfl) (by kernel_rfl) (fun _ => by kernel_rfl) ?_
      refine Rg.fin0 (by kernel_rfl) (fun w133 h134 u135 => ?_)
      replace hs := hs.step u135
      refine T.next (by kernel_rfl) ?_
      refine CG.to [(2, .pointer (some ⟨b1, 0, none⟩)), (3, .pointer (some ⟨b5, 0, none⟩)), (4, .int .i64 0), (17, .bool true)] (by kernel_rfl) ?_
      refine CG.condT (by kernel_rfl) (by kernel_rfl) ?_
      refine CG.seq ?_
      refine CG.listed ?_
      refine LG.val 18 (.pointer (some ⟨b1, 0, none⟩)) w133 (by kernel_rfl) (by kernel_rfl) (by kernel_rfl) ?_
      refine LG.own 19 [(1, 0, 3)] (iv a.num) hs (by kernel_rfl) (by kernel_rfl) (by kernel_rfl) (by kernel_rfl) ?_
      refine LG.val 20 (.pointer (some ⟨b5, 0, none⟩)) w133 (by kernel_rfl) (by kernel_rfl) (by kernel_rfl) ?_
      refine LG.own 21 [(0, 0, 3)] (iv b.num) hs (by kernel_rfl) (by kernel_rfl) (by kernel_rfl) (by kernel_rfl) ?_
      refine LG.call 22 77 #[iv a.num, iv b.num] (by kernel_rfl) (by kernel_rfl) (by kernel_rfl) ?_
      refine (Ret.of_ext hs.g (cWCmp (a.num) (b.num) (by omega) (by omega) w133)).mono ?_
      rintro _ w136 ⟨vu138, h137, rfl, u138, rfl⟩
      refine ⟨_, rfl, ?_⟩
      replace hs := hs.step u138
      refine LG.val 4 (.int .i64 (cmpI (a.num) (b.num))) w136 (by kernel_rfl) (by kernel_rfl) (by kernel_rfl) ?_
      refine LG.next (by kernel_rfl) ?_
      refine CG.ret ?_
      exact retP hs [] (.int .i64 (cmpI (a.num) (b.num))) (by kernel_rfl) (by kernel_rfl) (congrArg (Value.int .i64) (by first | rfl | exact cmpR_whole (by simpa using ‹decide (a.den = 1) = true›) (by simpa using ‹decide (b.den = 1) = true›) | exact cmpR_sign ‹_›))

end Go.Proofs.YtmkonbkdjmfjhaaGreatDoor
