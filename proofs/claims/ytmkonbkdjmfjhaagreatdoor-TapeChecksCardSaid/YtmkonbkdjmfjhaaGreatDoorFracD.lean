/- Contract of frac.Q.Add for fractions on one word. -/
import Derived.Test.YtmkonbkdjmfjhaaGreatDoorFracB
import Derived.Test.YtmkonbkdjmfjhaaGreatDoorRowL
import Derived.Deep.DeepCutAuto
namespace Go.Proofs.YtmkonbkdjmfjhaaGreatDoor
open Go.RowKit
attribute [local go_sem ↓] Go.wp_at_zero Go.wp_at_succ

/-- A fraction whose numerator and denominator are below 2^31. -/
def Sm (q : Rat) : Prop := iabs q.num < 2147483648 ∧ q.den < 2147483648

set_option maxHeartbeats 400000 in
theorem fracAdd_whole (a b : Rat) (ha : Sm a) (hb : Sm b) (h1 : a.den = 1) (h2 : b.den = 1) (w : World) :
    Calls Tryz.prog 36 #[.agg #[.bool (ineg (a).num), .int .u64 ((iabs (a).num : Nat) : Int), .string ⟨#[]⟩, .int .u64 ((qd (a) : Nat) : Int), .string ⟨#[]⟩], .agg #[.bool (ineg (b).num), .int .u64 ((iabs (b).num : Nat) : Int), .string ⟨#[]⟩, .int .u64 ((qd (b) : Nat) : Int), .string ⟨#[]⟩]] w fun e w' => e = .returned (.agg #[.bool (ineg (a + b).num), .int .u64 ((iabs (a + b).num : Nat) : Int), .string ⟨#[]⟩, .int .u64 ((qd (a + b) : Nat) : Int), .string ⟨#[]⟩]) ∧ Ext w w' := by
  have HA := Lib.hid (fracIsWhole a (by have := ha.2; omega))
  have HB := Lib.hid (fracIsWhole b (by have := hb.2; omega))
  have HS := Lib.hid (wholeAdd a.num b.num (by have := ha.1; omega) (by have := hb.1; omega) (by have := ha.1; have := hb.1; omega))
  have d1 : decide (a.den = 1) = true := by simp [h1]
  have d2 : decide (b.den = 1) = true := by simp [h2]
  rw [d1] at HA
  rw [d2] at HB
  obtain ⟨e1, e2, _⟩ := rat_add a b _ _ _ rfl rfl rfl
  have n1 : (a + b).num = a.num + b.num := by rw [e1, h1, h2]; simp
  have n2 : qd (a + b) = 0 := by
    have : (a + b).den = 1 := by rw [e2, h1, h2]; simp
    unfold qd; rw [if_pos this]
  rw [n1, n2]
  clear e1 e2 n1 n2 d1 d2 h1 h2 ha hb
  generalize a.num + b.num = z2 at *
  go_enter Tryz.func36, Tryz.ntmps36
  go_wp2_with fail
  refine (HA.out _).mono ?_
  rintro e w1 ⟨rfl, hx1⟩
  obtain ⟨ra0, zfa0⟩ := Ext.both hx1 (p := ⟨w.heap.size, 0, none⟩) (v := .bool (ineg (a).num)) (by first | with_reducible assumption | (simp [go_sem]; done) | (simp [go_sem, *]; done)) (by first | with_reducible assumption | (simp [go_sem]; done) | (simp [go_sem, *]; done)); obtain ⟨ra1, zfa1⟩ := Ext.both hx1 (p := ⟨w.heap.size, 1, none⟩) (v := .int .u64 ((iabs (a).num : Nat) : Int)) (by first | with_reducible assumption | (simp [go_sem]; done) | (simp [go_sem, *]; done)) (by first | with_reducible assumption | (simp [go_sem]; done) | (simp [go_sem, *]; done)); obtain ⟨ra2, zfa2⟩ := Ext.both hx1 (p := ⟨w.heap.size, 2, none⟩) (v := .string ⟨#[]⟩) (by first | with_reducible assumption | (simp [go_sem]; done) | (simp [go_sem, *]; done)) (by first | with_reducible assumption | (simp [go_sem]; done) | (simp [go_sem, *]; done)); obtain ⟨ra3, zfa3⟩ := Ext.both hx1 (p := ⟨w.heap.size, 3, none⟩) (v := .int .u64 ((qd (a) : Nat) : Int)) (by first | with_reducible assumption | (simp [go_sem]; done) | (simp [go_sem, *]; done)) (by first | with_reducible assumption | (simp [go_sem]; done) | (simp [go_sem, *]; done)); obtain ⟨ra4, zfa4⟩ := Ext.both hx1 (p := ⟨w.heap.size, 4, none⟩) (v := .string ⟨#[]⟩) (by first | with_reducible assumption | (simp [go_sem]; done) | (simp [go_sem, *]; done)) (by first | with_reducible assumption | (simp [go_sem]; done) | (simp [go_sem, *]; done))
  obtain ⟨rb0, zfb0⟩ := Ext.both hx1 (p := ⟨w.heap.size + 1, 0, none⟩) (v := .bool (ineg (b).num)) (by first | with_reducible assumption | (simp [go_sem]; done) | (simp [go_sem, *]; done)) (by first | with_reducible assumption | (simp [go_sem]; done) | (simp [go_sem, *]; done)); obtain ⟨rb1, zfb1⟩ := Ext.both hx1 (p := ⟨w.heap.size + 1, 1, none⟩) (v := .int .u64 ((iabs (b).num : Nat) : Int)) (by first | with_reducible assumption | (simp [go_sem]; done) | (simp [go_sem, *]; done)) (by first | with_reducible assumption | (simp [go_sem]; done) | (simp [go_sem, *]; done)); obtain ⟨rb2, zfb2⟩ := Ext.both hx1 (p := ⟨w.heap.size + 1, 2, none⟩) (v := .string ⟨#[]⟩) (by first | with_reducible assumption | (simp [go_sem]; done) | (simp [go_sem, *]; done)) (by first | with_reducible assumption | (simp [go_sem]; done) | (simp [go_sem, *]; done)); obtain ⟨rb3, zfb3⟩ := Ext.both hx1 (p := ⟨w.heap.size + 1, 3, none⟩) (v := .int .u64 ((qd (b) : Nat) : Int)) (by first | with_reducible assumption | (simp [go_sem]; done) | (simp [go_sem, *]; done)) (by first | with_reducible assumption | (simp [go_sem]; done) | (simp [go_sem, *]; done)); obtain ⟨rb4, zfb4⟩ := Ext.both hx1 (p := ⟨w.heap.size + 1, 4, none⟩) (v := .string ⟨#[]⟩) (by first | with_reducible assumption | (simp [go_sem]; done) | (simp [go_sem, *]; done)) (by first | with_reducible assumption | (simp [go_sem]; done) | (simp [go_sem, *]; done))
  obtain ⟨r0, zf0⟩ := Ext.both hx1 (p := ⟨w.heap.size + 1 + 1, 0, none⟩) (v := .bool false) (by first | with_reducible assumption | (simp [go_sem]; done) | (simp [go_sem, *]; done)) (by first | with_reducible assumption | (simp [go_sem]; done) | (simp [go_sem, *]; done)); obtain ⟨r1, zf1⟩ := Ext.both hx1 (p := ⟨w.heap.size + 1 + 1, 1, none⟩) (v := .int .u64 0) (by first | with_reducible assumption | (simp [go_sem]; done) | (simp [go_sem, *]; done)) (by first | with_reducible assumption | (simp [go_sem]; done) | (simp [go_sem, *]; done)); obtain ⟨r2, zf2⟩ := Ext.both hx1 (p := ⟨w.heap.size + 1 + 1, 2, none⟩) (v := .string ⟨#[]⟩) (by first | with_reducible assumption | (simp [go_sem]; done) | (simp [go_sem, *]; done)) (by first | with_reducible assumption | (simp [go_sem]; done) | (simp [go_sem, *]; done)); obtain ⟨r3, zf3⟩ := Ext.both hx1 (p := ⟨w.heap.size + 1 + 1, 3, none⟩) (v := .int .u64 0) (by first | with_reducible assumption | (simp [go_sem]; done) | (simp [go_sem, *]; done)) (by first | with_reducible assumption | (simp [go_sem]; done) | (simp [go_sem, *]; done)); obtain ⟨r4, zf4⟩ := Ext.both hx1 (p := ⟨w.heap.size + 1 + 1, 4, none⟩) (v := .string ⟨#[]⟩) (by first | with_reducible assumption | (simp [go_sem]; done) | (simp [go_sem, *]; done)) (by first | with_reducible assumption | (simp [go_sem]; done) | (simp [go_sem, *]; done))
  go_wp2_with fail
  refine (HB.out _).mono ?_
  rintro e w2 ⟨rfl, hx2⟩
  obtain ⟨ra0, zfa0⟩ := Ext.both hx2 (p := ⟨w.heap.size, 0, none⟩) (v := .bool (ineg (a).num)) (by first | with_reducible assumption | (simp [go_sem]; done) | (simp [go_sem, *]; done)) (by first | with_reducible assumption | (simp [go_sem]; done) | (simp [go_sem, *]; done)); obtain ⟨ra1, zfa1⟩ := Ext.both hx2 (p := ⟨w.heap.size, 1, none⟩) (v := .int .u64 ((iabs (a).num : Nat) : Int)) (by first | with_reducible assumption | (simp [go_sem]; done) | (simp [go_sem, *]; done)) (by first | with_reducible assumption | (simp [go_sem]; done) | (simp [go_sem, *]; done)); obtain ⟨ra2, zfa2⟩ := Ext.both hx2 (p := ⟨w.heap.size, 2, none⟩) (v := .string ⟨#[]⟩) (by first | with_reducible assumption | (simp [go_sem]; done) | (simp [go_sem, *]; done)) (by first | with_reducible assumption | (simp [go_sem]; done) | (simp [go_sem, *]; done)); obtain ⟨ra3, zfa3⟩ := Ext.both hx2 (p := ⟨w.heap.size, 3, none⟩) (v := .int .u64 ((qd (a) : Nat) : Int)) (by first | with_reducible assumption | (simp [go_sem]; done) | (simp [go_sem, *]; done)) (by first | with_reducible assumption | (simp [go_sem]; done) | (simp [go_sem, *]; done)); obtain ⟨ra4, zfa4⟩ := Ext.both hx2 (p := ⟨w.heap.size, 4, none⟩) (v := .string ⟨#[]⟩) (by first | with_reducible assumption | (simp [go_sem]; done) | (simp [go_sem, *]; done)) (by first | with_reducible assumption | (simp [go_sem]; done) | (simp [go_sem, *]; done))
  obtain ⟨rb0, zfb0⟩ := Ext.both hx2 (p := ⟨w.heap.size + 1, 0, none⟩) (v := .bool (ineg (b).num)) (by first | with_reducible assumption | (simp [go_sem]; done) | (simp [go_sem, *]; done)) (by first | with_reducible assumption | (simp [go_sem]; done) | (simp [go_sem, *]; done)); obtain ⟨rb1, zfb1⟩ := Ext.both hx2 (p := ⟨w.heap.size + 1, 1, none⟩) (v := .int .u64 ((iabs (b).num : Nat) : Int)) (by first | with_reducible assumption | (simp [go_sem]; done) | (simp [go_sem, *]; done)) (by first | with_reducible assumption | (simp [go_sem]; done) | (simp [go_sem, *]; done)); obtain ⟨rb2, zfb2⟩ := Ext.both hx2 (p := ⟨w.heap.size + 1, 2, none⟩) (v := .string ⟨#[]⟩) (by first | with_reducible assumption | (simp [go_sem]; done) | (simp [go_sem, *]; done)) (by first | with_reducible assumption | (simp [go_sem]; done) | (simp [go_sem, *]; done)); obtain ⟨rb3, zfb3⟩ := Ext.both hx2 (p := ⟨w.heap.size + 1, 3, none⟩) (v := .int .u64 ((qd (b) : Nat) : Int)) (by first | with_reducible assumption | (simp [go_sem]; done) | (simp [go_sem, *]; done)) (by first | with_reducible assumption | (simp [go_sem]; done) | (simp [go_sem, *]; done)); obtain ⟨rb4, zfb4⟩ := Ext.both hx2 (p := ⟨w.heap.size + 1, 4, none⟩) (v := .string ⟨#[]⟩) (by first | with_reducible assumption | (simp [go_sem]; done) | (simp [go_sem, *]; done)) (by first | with_reducible assumption | (simp [go_sem]; done) | (simp [go_sem, *]; done))
  obtain ⟨r0, zf0⟩ := Ext.both hx2 (p := ⟨w.heap.size + 1 + 1, 0, none⟩) (v := .bool false) (by first | with_reducible assumption | (simp [go_sem]; done) | (simp [go_sem, *]; done)) (by first | with_reducible assumption | (simp [go_sem]; done) | (simp [go_sem, *]; done)); obtain ⟨r1, zf1⟩ := Ext.both hx2 (p := ⟨w.heap.size + 1 + 1, 1, none⟩) (v := .int .u64 0) (by first | with_reducible assumption | (simp [go_sem]; done) | (simp [go_sem, *]; done)) (by first | with_reducible assumption | (simp [go_sem]; done) | (simp [go_sem, *]; done)); obtain ⟨r2, zf2⟩ := Ext.both hx2 (p := ⟨w.heap.size + 1 + 1, 2, none⟩) (v := .string ⟨#[]⟩) (by first | with_reducible assumption | (simp [go_sem]; done) | (simp [go_sem, *]; done)) (by first | with_reducible assumption | (simp [go_sem]; done) | (simp [go_sem, *]; done)); obtain ⟨r3, zf3⟩ := Ext.both hx2 (p := ⟨w.heap.size + 1 + 1, 3, none⟩) (v := .int .u64 0) (by first | with_reducible assumption | (simp [go_sem]; done) | (simp [go_sem, *]; done)) (by first | with_reducible assumption | (simp [go_sem]; done) | (simp [go_sem, *]; done)); obtain ⟨r4, zf4⟩ := Ext.both hx2 (p := ⟨w.heap.size + 1 + 1, 4, none⟩) (v := .string ⟨#[]⟩) (by first | with_reducible assumption | (simp [go_sem]; done) | (simp [go_sem, *]; done)) (by first | with_reducible assumption | (simp [go_sem]; done) | (simp [go_sem, *]; done))
  go_wp2_with fail
  refine (HS.out _).mono ?_
  rintro e w3 ⟨rfl, hx3⟩
  obtain ⟨r0, zf0⟩ := Ext.both hx3 (p := ⟨w.heap.size + 1 + 1, 0, none⟩) (v := .bool false) (by first | with_reducible assumption | (simp [go_sem]; done) | (simp [go_sem, *]; done)) (by first | with_reducible assumption | (simp [go_sem]; done) | (simp [go_sem, *]; done)); obtain ⟨r1, zf1⟩ := Ext.both hx3 (p := ⟨w.heap.size + 1 + 1, 1, none⟩) (v := .int .u64 0) (by first | with_reducible assumption | (simp [go_sem]; done) | (simp [go_sem, *]; done)) (by first | with_reducible assumption | (simp [go_sem]; done) | (simp [go_sem, *]; done)); obtain ⟨r2, zf2⟩ := Ext.both hx3 (p := ⟨w.heap.size + 1 + 1, 2, none⟩) (v := .string ⟨#[]⟩) (by first | with_reducible assumption | (simp [go_sem]; done) | (simp [go_sem, *]; done)) (by first | with_reducible assumption | (simp [go_sem]; done) | (simp [go_sem, *]; done)); obtain ⟨r3, zf3⟩ := Ext.both hx3 (p := ⟨w.heap.size + 1 + 1, 3, none⟩) (v := .int .u64 0) (by first | with_reducible assumption | (simp [go_sem]; done) | (simp [go_sem, *]; done)) (by first | with_reducible assumption | (simp [go_sem]; done) | (simp [go_sem, *]; done)); obtain ⟨r4, zf4⟩ := Ext.both hx3 (p := ⟨w.heap.size + 1 + 1, 4, none⟩) (v := .string ⟨#[]⟩) (by first | with_reducible assumption | (simp [go_sem]; done) | (simp [go_sem, *]; done)) (by first | with_reducible assumption | (simp [go_sem]; done) | (simp [go_sem, *]; done))
  go_wp2
  refine bodyPost_ret (v := .agg #[.bool (ineg z2), .int .u64 ((iabs z2 : Nat) : Int), .string ⟨#[]⟩, .int .u64 0, .string ⟨#[]⟩]) (by simp [results, Tryz.results36, go_sem, r0, r1, r2, r3, r4]) rfl ⟨rfl, ?_⟩
  (repeat' (first | with_reducible exact Ext.refl _ | with_reducible refine Ext.setCell ?_ ?_ _ | with_reducible refine Ext.alloc ?_ _ | with_reducible refine Ext.drew ?_ | with_reducible refine Ext.drewN ?_ _ | with_reducible assumption | with_reducible refine Ext.trans ?_ (by assumption))) <;> (first | (simp; done) | (simp; omega) | omega)

theorem iabs_mul_le (x : Int) (n k m : Nat) (h1 : iabs x < k) (h2 : n < m) : iabs (x * n) ≤ k * m := by
  unfold iabs at *
  rw [Int.natAbs_mul, Int.natAbs_natCast]
  exact Nat.mul_le_mul (by omega) (by omega)
theorem iabs_add_le (x y : Int) : iabs (x + y) ≤ iabs x + iabs y := Int.natAbs_add_le x y
theorem iabs_nat (n : Nat) : iabs (n : Int) = n := rfl

set_option maxHeartbeats 8000000 in
theorem fracAdd_gen (a b : Rat) (ha : Sm a) (hb : Sm b) (hne : ¬ (a.den = 1 ∧ b.den = 1)) (w : World) :
    Calls Tryz.prog 36 #[.agg #[.bool (ineg (a).num), .int .u64 ((iabs (a).num : Nat) : Int), .string ⟨#[]⟩, .int .u64 ((qd (a) : Nat) : Int), .string ⟨#[]⟩], .agg #[.bool (ineg (b).num), .int .u64 ((iabs (b).num : Nat) : Int), .string ⟨#[]⟩, .int .u64 ((qd (b) : Nat) : Int), .string ⟨#[]⟩]] w fun e w' => e = .returned (.agg #[.bool (ineg (a + b).num), .int .u64 ((iabs (a + b).num : Nat) : Int), .string ⟨#[]⟩, .int .u64 ((qd (a + b) : Nat) : Int), .string ⟨#[]⟩]) ∧ Ext w w' := by
  obtain ⟨ha1, ha2⟩ := ha
  obtain ⟨hb1, hb2⟩ := hb
  obtain ⟨e1, e2, e3, e4, e5, e6⟩ := rat_add a b _ _ _ rfl rfl rfl
  have HA := Lib.hid (fracIsWhole a (by omega))
  have HB := Lib.hid (fracIsWhole b (by omega))
  have HDa := Lib.hid (fracDen a (by omega))
  have HDb := Lib.hid (fracDen b (by omega))
  have HFa := Lib.hid (wholeFrom false a.den (by omega))
  have HFb := Lib.hid (wholeFrom false b.den (by omega))
  have HG := Lib.hid (wholeGcd (sgn false a.den) (sgn false b.den) (by rw [iabs_sgn]; omega) (by rw [iabs_sgn]; omega))
  rw [show Nat.gcd (iabs (sgn false a.den)) (iabs (sgn false b.den)) = Nat.gcd a.den b.den by rw [iabs_sgn, iabs_sgn]] at HG
  have hgle : Nat.gcd a.den b.den ≤ b.den := Nat.le_of_dvd b.den_pos (Nat.gcd_dvd_right _ _)
  generalize hg : Nat.gcd a.den b.den = g at *
  have HOa := Lib.hid (fracOver a.den g (by omega) (by omega) e6)
  have HOb := Lib.hid (fracOver b.den g (by omega) (by omega) e6)
  have l1 : a.den / g ≤ a.den := Nat.div_le_self _ _
  have l2 : b.den / g ≤ b.den := Nat.div_le_self _ _
  generalize hx : a.den / g = x at *
  generalize hy : b.den / g = y at *
  have t1 := iabs_mul_le a.num y 2147483648 2147483648 ha1 (by omega)
  have t2 := iabs_mul_le b.num x 2147483648 2147483648 hb1 (by omega)
  have m1 : iabs a.num * y ≤ 2147483648 * 2147483648 := Nat.mul_le_mul (by omega) (by omega)
  have m2 : iabs b.num * x ≤ 2147483648 * 2147483648 := Nat.mul_le_mul (by omega) (by omega)
  have HTa := Lib.hid (fracTimes a.num y (by omega) (by omega) (by omega))
  have HTb := Lib.hid (fracTimes b.num x (by omega) (by omega) (by omega))
  have HS := Lib.hid (wholeAdd (a.num * y) (b.num * x) (by omega) (by omega) (by omega))
  have t3 := iabs_add_le (a.num * y) (b.num * x)
  generalize hup : a.num * (y : Int) + b.num * (x : Int) = up at *
  generalize a.num * (y : Int) = ta at *
  generalize b.num * (x : Int) = tb at *
  have HFg := Lib.hid (wholeFrom false g (by omega))
  have HH := Lib.hid (wholeGcd up (sgn false g) (by omega) (by rw [iabs_sgn]; omega))
  rw [show Nat.gcd (iabs up) (iabs (sgn false g)) = Nat.gcd (iabs up) g by rw [iabs_sgn]] at HH
  have hhle : Nat.gcd (iabs up) g ≤ g := Nat.le_of_dvd e6 (Nat.gcd_dvd_right _ _)
  generalize hh : Nat.gcd (iabs up) g = h at *
  have HP := Lib.hid (fracPart up h (by omega) (by omega) e5 e3)
  have HOh := Lib.hid (fracOver b.den h (by omega) (by omega) e5)
  have l3 : b.den / h ≤ b.den := Nat.div_le_self _ _
  have m3 : x * (b.den / h) ≤ 2147483648 * 2147483648 := Nat.mul_le_mul (by omega) (by omega)
  have HM := Lib.hid (natMul x (b.den / h) (by omega) (by omega) (by omega))
  rw [← e1] at HP
  rw [← e2] at HM
  have HK := Lib.hid (fracPack (a + b) (by rw [e2]; omega))
  have HD : Hid (¬ (a.den = 1 ∧ b.den = 1)) := hne
  clear e1 e2 e3 e4 e5 e6 ha1 ha2 hb1 hb2 hgle l1 l2 t1 t2 m1 m2 t3 hhle l3 m3 hg hx hy hup hh hne
  generalize a + b = r at *
  generalize hy2 : b.den / h = y2 at *
  clear hy2
  go_enter Tryz.func36, Tryz.ntmps36
  go_upto_region 1 with fail
  have RA : Row _ _ _ := Row.ext (Row.ext (Row.new w [.bool (ineg (a).num), .int .u64 ((iabs (a).num : Nat) : Int), .string ⟨#[]⟩, .int .u64 ((qd (a) : Nat) : Int), .string ⟨#[]⟩] 60) ((Ext.refl _).alloc (.cells (List.toArray [.bool (ineg (b).num), .int .u64 ((iabs (b).num : Nat) : Int), .string ⟨#[]⟩, .int .u64 ((qd (b) : Nat) : Int), .string ⟨#[]⟩]) 60))) ((Ext.refl _).alloc (.cells (List.toArray [.bool false, .int .u64 0, .string ⟨#[]⟩, .int .u64 0, .string ⟨#[]⟩]) 60))
  have RB : Row _ _ _ := Row.ext (Row.new (w.alloc (.cells (List.toArray [.bool (ineg (a).num), .int .u64 ((iabs (a).num : Nat) : Int), .string ⟨#[]⟩, .int .u64 ((qd (a) : Nat) : Int), .string ⟨#[]⟩]) 60)) [.bool (ineg (b).num), .int .u64 ((iabs (b).num : Nat) : Int), .string ⟨#[]⟩, .int .u64 ((qd (b) : Nat) : Int), .string ⟨#[]⟩] 60) ((Ext.refl _).alloc (.cells (List.toArray [.bool false, .int .u64 0, .string ⟨#[]⟩, .int .u64 0, .string ⟨#[]⟩]) 60))
  have RR : Row _ _ _ := Row.new ((w.alloc (.cells (List.toArray [.bool (ineg (a).num), .int .u64 ((iabs (a).num : Nat) : Int), .string ⟨#[]⟩, .int .u64 ((qd (a) : Nat) : Int), .string ⟨#[]⟩]) 60)).alloc (.cells (List.toArray [.bool (ineg (b).num), .int .u64 ((iabs (b).num : Nat) : Int), .string ⟨#[]⟩, .int .u64 ((qd (b) : Nat) : Int), .string ⟨#[]⟩]) 60)) [.bool false, .int .u64 0, .string ⟨#[]⟩, .int .u64 0, .string ⟨#[]⟩] 60
  have E0 : Ext w _ := (((Ext.refl w).alloc (.cells (List.toArray [.bool (ineg (a).num), .int .u64 ((iabs (a).num : Nat) : Int), .string ⟨#[]⟩, .int .u64 ((qd (a) : Nat) : Int), .string ⟨#[]⟩]) 60)).alloc (.cells (List.toArray [.bool (ineg (b).num), .int .u64 ((iabs (b).num : Nat) : Int), .string ⟨#[]⟩, .int .u64 ((qd (b) : Nat) : Int), .string ⟨#[]⟩]) 60)).alloc (.cells (List.toArray [.bool false, .int .u64 0, .string ⟨#[]⟩, .int .u64 0, .string ⟨#[]⟩]) 60)
  simp only [World.size_alloc] at RB RR
  generalize (((w.alloc (.cells (List.toArray [.bool (ineg (a).num), .int .u64 ((iabs (a).num : Nat) : Int), .string ⟨#[]⟩, .int .u64 ((qd (a) : Nat) : Int), .string ⟨#[]⟩]) 60)).alloc (.cells (List.toArray [.bool (ineg (b).num), .int .u64 ((iabs (b).num : Nat) : Int), .string ⟨#[]⟩, .int .u64 ((qd (b) : Nat) : Int), .string ⟨#[]⟩]) 60)).alloc (.cells (List.toArray [.bool false, .int .u64 0, .string ⟨#[]⟩, .int .u64 0, .string ⟨#[]⟩]) 60)) = W0 at *
  go_cut [15] (fun s15 wx => s15 = .bool false ∧ Row wx w.heap.size [.bool (ineg (a).num), .int .u64 ((iabs (a).num : Nat) : Int), .string ⟨#[]⟩, .int .u64 ((qd (a) : Nat) : Int), .string ⟨#[]⟩] ∧ Row wx (w.heap.size + 1) [.bool (ineg (b).num), .int .u64 ((iabs (b).num : Nat) : Int), .string ⟨#[]⟩, .int .u64 ((qd (b) : Nat) : Int), .string ⟨#[]⟩] ∧ Row wx (w.heap.size + 1 + 1) [.bool false, .int .u64 0, .string ⟨#[]⟩, .int .u64 0, .string ⟨#[]⟩] ∧ Ext W0 wx)
  case first =>
    obtain ⟨oA0, _⟩ := RA.1 0 _ rfl; obtain ⟨oA1, _⟩ := RA.1 1 _ rfl; obtain ⟨oA2, _⟩ := RA.1 2 _ rfl; obtain ⟨oA3, _⟩ := RA.1 3 _ rfl; obtain ⟨oA4, _⟩ := RA.1 4 _ rfl
    by_cases h1 : a.den = 1
    · have d1 : decide (a.den = 1) = true := by simp [h1]
      have d2 : decide (b.den = 1) = false := by have := HD.out; simp; intro h; exact this ⟨h1, h⟩
      rw [d1] at HA
      rw [d2] at HB
      clear d1 d2 h1
      go_wp2_with fail
      refine (HA.out _).mono ?_
      rintro e w1 ⟨rfl, hx⟩
      have RB1 := Row.ext RB hx
      obtain ⟨oB0, _⟩ := RB1.1 0 _ rfl; obtain ⟨oB1, _⟩ := RB1.1 1 _ rfl; obtain ⟨oB2, _⟩ := RB1.1 2 _ rfl; obtain ⟨oB3, _⟩ := RB1.1 3 _ rfl; obtain ⟨oB4, _⟩ := RB1.1 4 _ rfl
      go_wp2_with fail
      refine (HB.out _).mono ?_
      rintro e w2 ⟨rfl, hx2⟩
      go_wp2_with fail
      go_meet
      exact ⟨rfl, RA.ext (hx.trans hx2), RB.ext (hx.trans hx2), RR.ext (hx.trans hx2), hx.trans hx2⟩
    · have d1 : decide (a.den = 1) = false := by simp [h1]
      rw [d1] at HA
      clear d1 h1
      go_wp2_with fail
      refine (HA.out _).mono ?_
      rintro e w1 ⟨rfl, hx⟩
      go_wp2_with fail
      go_meet
      exact ⟨rfl, RA.ext hx, RB.ext hx, RR.ext hx, hx⟩
  case' rest =>
    obtain ⟨rfl, RA, RB, RR, hE1⟩ := hcut
  clear HA HB
  obtain ⟨wa, rfl⟩ : ∃ wa : World, wa = wc := ⟨_, rfl⟩
  go_upto_region 3 with fail
  go_cut [5] (fun s5 wx => ∃ b5 : Nat, s5 = .pointer (some ⟨b5, 0, none⟩) ∧ Row wx b5 [.int .u64 ((g : Nat) : Int), .string ⟨#[]⟩] ∧ wa.heap.size ≤ b5 ∧ Ext wa wx)
  case first =>
    obtain ⟨oRA0, qRA0⟩ := RA.1 0 _ rfl
    obtain ⟨oRA1, qRA1⟩ := RA.1 1 _ rfl
    obtain ⟨oRA2, qRA2⟩ := RA.1 2 _ rfl
    obtain ⟨oRA3, qRA3⟩ := RA.1 3 _ rfl
    obtain ⟨oRA4, qRA4⟩ := RA.1 4 _ rfl
    obtain ⟨oRB0, qRB0⟩ := RB.1 0 _ rfl
    obtain ⟨oRB1, qRB1⟩ := RB.1 1 _ rfl
    obtain ⟨oRB2, qRB2⟩ := RB.1 2 _ rfl
    obtain ⟨oRB3, qRB3⟩ := RB.1 3 _ rfl
    obtain ⟨oRB4, qRB4⟩ := RB.1 4 _ rfl
    have lRA := RA.2
    have lRB := RB.2
    have lRR := RR.2
    go_region_held3 (fun w' => w'.cell? ⟨w.heap.size, 0, none⟩ = some (.bool (ineg (a).num)) ∧ w'.cell? ⟨w.heap.size, 1, none⟩ = some (.int .u64 ((iabs (a).num : Nat) : Int)) ∧ w'.cell? ⟨w.heap.size, 2, none⟩ = some (.string ⟨#[]⟩) ∧ w'.cell? ⟨w.heap.size, 3, none⟩ = some (.int .u64 ((qd (a) : Nat) : Int)) ∧ w'.cell? ⟨w.heap.size, 4, none⟩ = some (.string ⟨#[]⟩) ∧ w'.cell? ⟨w.heap.size + 1, 0, none⟩ = some (.bool (ineg (b).num)) ∧ w'.cell? ⟨w.heap.size + 1, 1, none⟩ = some (.int .u64 ((iabs (b).num : Nat) : Int)) ∧ w'.cell? ⟨w.heap.size + 1, 2, none⟩ = some (.string ⟨#[]⟩) ∧ w'.cell? ⟨w.heap.size + 1, 3, none⟩ = some (.int .u64 ((qd (b) : Nat) : Int)) ∧ w'.cell? ⟨w.heap.size + 1, 4, none⟩ = some (.string ⟨#[]⟩)) ((go_split_ands; refine ⟨?_, ?_, ?_, ?_, ?_, ?_, ?_, ?_, ?_, ?_⟩ <;> (first | ((with_reducible refine Ext.some (a := wa) ?_ (by assumption)); ((repeat' (first | with_reducible exact Ext.refl _ | with_reducible refine Ext.setCell ?_ ?_ _ | with_reducible refine Ext.alloc ?_ _ | with_reducible refine Ext.drew ?_ | with_reducible refine Ext.drewN ?_ _ | with_reducible assumption | with_reducible refine Ext.trans ?_ (by assumption))) <;> (first | (simp; done) | (simp; omega) | omega)); done) | (with_reducible exact Ext.some hx (by assumption)) | ((repeat rw [cell_set_ne _ (by omega)]); with_reducible assumption) | (go_simp; done) | go_keep))) ((first | (go_at_call 62; (with_reducible refine (HDa.out _).mono ?_); rintro e w3_1 ⟨rfl, hx⟩; have sz := Ext.size hx; (try simp only [World.size_alloc, World.size_drew] at sz); (first | (with_reducible have A1 := Row.ext (Row.new _ [.int .u64 0, .string ⟨#[]⟩] _) hx) | (with_reducible have A1 := Row.ext (Row.drew (Row.new _ [.int .u64 0, .string ⟨#[]⟩] _)) hx) | (with_reducible have A1 := Row.ext A1 hx) | skip); (try simp only [World.size_alloc, World.size_drew] at A1); (try (obtain ⟨gA10, fA10⟩ := A1.1 0 _ rfl; obtain ⟨gA11, fA11⟩ := A1.1 1 _ rfl)); (try (have lA1 := A1.2))) | (go_at_call 33; (with_reducible refine (HFa.out _).mono ?_); rintro e w3_2 ⟨rfl, hx⟩; have sz := Ext.size hx; (try simp only [World.size_alloc, World.size_drew] at sz); (first | (with_reducible have A1 := Row.ext (Row.new _ [.int .u64 0, .string ⟨#[]⟩] _) hx) | (with_reducible have A1 := Row.ext (Row.drew (Row.new _ [.int .u64 0, .string ⟨#[]⟩] _)) hx) | (with_reducible have A1 := Row.ext A1 hx) | skip); (try simp only [World.size_alloc, World.size_drew] at A1); (try (obtain ⟨gA10, fA10⟩ := A1.1 0 _ rfl; obtain ⟨gA11, fA11⟩ := A1.1 1 _ rfl)); (try (have lA1 := A1.2))) | (go_at_call 62; (with_reducible refine (HDb.out _).mono ?_); rintro e w3_3 ⟨rfl, hx⟩; have sz := Ext.size hx; (try simp only [World.size_alloc, World.size_drew] at sz); (first | (with_reducible have A1 := Row.ext (Row.new _ [.int .u64 0, .string ⟨#[]⟩] _) hx) | (with_reducible have A1 := Row.ext (Row.drew (Row.new _ [.int .u64 0, .string ⟨#[]⟩] _)) hx) | (with_reducible have A1 := Row.ext A1 hx) | skip); (try simp only [World.size_alloc, World.size_drew] at A1); (try (obtain ⟨gA10, fA10⟩ := A1.1 0 _ rfl; obtain ⟨gA11, fA11⟩ := A1.1 1 _ rfl)); (try (have lA1 := A1.2))) | (go_at_call 33; (with_reducible refine (HFb.out _).mono ?_); rintro e w3_4 ⟨rfl, hx⟩; have sz := Ext.size hx; (try simp only [World.size_alloc, World.size_drew] at sz); (first | (with_reducible have A1 := Row.ext (Row.new _ [.int .u64 0, .string ⟨#[]⟩] _) hx) | (with_reducible have A1 := Row.ext (Row.drew (Row.new _ [.int .u64 0, .string ⟨#[]⟩] _)) hx) | (with_reducible have A1 := Row.ext A1 hx) | skip); (try simp only [World.size_alloc, World.size_drew] at A1); (try (obtain ⟨gA10, fA10⟩ := A1.1 0 _ rfl; obtain ⟨gA11, fA11⟩ := A1.1 1 _ rfl)); (try (have lA1 := A1.2))) | (go_at_call 61; (with_reducible refine (HG.out _).mono ?_); rintro e w3_5 ⟨rfl, hx⟩; have sz := Ext.size hx; (try simp only [World.size_alloc, World.size_drew] at sz); (first | (with_reducible have A1 := Row.ext (Row.new _ [.int .u64 0, .string ⟨#[]⟩] _) hx) | (with_reducible have A1 := Row.ext (Row.drew (Row.new _ [.int .u64 0, .string ⟨#[]⟩] _)) hx) | (with_reducible have A1 := Row.ext A1 hx) | skip); (try simp only [World.size_alloc, World.size_drew] at A1); (try (obtain ⟨gA10, fA10⟩ := A1.1 0 _ rfl; obtain ⟨gA11, fA11⟩ := A1.1 1 _ rfl)); (try (have lA1 := A1.2)))))
    all_goals (go_wp2_with fail; go_meet)
    all_goals refine ⟨_, rfl, ?_, ?_, ?_⟩
    all_goals first | (((repeat' (first | with_reducible exact Ext.refl _ | with_reducible refine Ext.setCell ?_ ?_ _ | with_reducible refine Ext.alloc ?_ _ | with_reducible refine Ext.drew ?_ | with_reducible refine Ext.drewN ?_ _ | with_reducible assumption | with_reducible refine Ext.trans ?_ (by assumption))) <;> (first | (simp; done) | (simp; omega) | omega)); done) | omega | ((repeat' (first | with_reducible exact Row.new _ _ _ | (with_reducible refine Row.new' _ _ (by simp; done)) | with_reducible assumption | with_reducible refine Row.drew ?_ | with_reducible refine Row.put2 _ _ ?_ | with_reducible refine Row.put3 _ _ _ ?_ | with_reducible refine Row.put5 _ _ _ _ _ ?_ | (with_reducible refine Row.far _ ?_ (by omega)) | (with_reducible refine Row.allocFar _ ?_))); done) | (simp; omega)
  case' rest =>
    obtain ⟨b5, rfl, V5, n5, hE3⟩ := hcut
    have n5RA : w.heap.size < b5 := Nat.lt_of_lt_of_le RA.2 n5
    have n5RB : w.heap.size + 1 < b5 := Nat.lt_of_lt_of_le RB.2 n5
    have n5RR : w.heap.size + 1 + 1 < b5 := Nat.lt_of_lt_of_le RR.2 n5
    replace RA := Row.ext RA hE3
    replace RB := Row.ext RB hE3
    replace RR := Row.ext RR hE3
    clear n5
  clear HFa HFb HG
  have hE := (E0.trans hE1).trans hE3
  clear E0 hE1 hE3
  obtain ⟨wb, rfl⟩ : ∃ wb : World, wb = wc := ⟨_, rfl⟩
  go_upto_region 4 with fail
  go_cut [6, 7] (fun s6 s7 wx => ∃ b6 b7 : Nat, s6 = .pointer (some ⟨b6, 0, none⟩) ∧ s7 = .pointer (some ⟨b7, 0, none⟩) ∧ Row wx b6 [.int .u64 ((x : Nat) : Int), .string ⟨#[]⟩] ∧ Row wx b7 [.int .u64 ((y : Nat) : Int), .string ⟨#[]⟩] ∧ wb.heap.size ≤ b6 ∧ wb.heap.size ≤ b7 ∧ b6 ≠ b7 ∧ Ext wb wx)
  case first =>
    obtain ⟨oRA0, qRA0⟩ := RA.1 0 _ rfl
    obtain ⟨oRA1, qRA1⟩ := RA.1 1 _ rfl
    obtain ⟨oRA2, qRA2⟩ := RA.1 2 _ rfl
    obtain ⟨oRA3, qRA3⟩ := RA.1 3 _ rfl
    obtain ⟨oRA4, qRA4⟩ := RA.1 4 _ rfl
    obtain ⟨oRB0, qRB0⟩ := RB.1 0 _ rfl
    obtain ⟨oRB1, qRB1⟩ := RB.1 1 _ rfl
    obtain ⟨oRB2, qRB2⟩ := RB.1 2 _ rfl
    obtain ⟨oRB3, qRB3⟩ := RB.1 3 _ rfl
    obtain ⟨oRB4, qRB4⟩ := RB.1 4 _ rfl
    obtain ⟨oV50, qV50⟩ := V5.1 0 _ rfl
    obtain ⟨oV51, qV51⟩ := V5.1 1 _ rfl
    have lRA := RA.2
    have lRB := RB.2
    have lRR := RR.2
    have lV5 := V5.2
    go_region_held3 (fun w' => w'.cell? ⟨w.heap.size, 0, none⟩ = some (.bool (ineg (a).num)) ∧ w'.cell? ⟨w.heap.size, 1, none⟩ = some (.int .u64 ((iabs (a).num : Nat) : Int)) ∧ w'.cell? ⟨w.heap.size, 2, none⟩ = some (.string ⟨#[]⟩) ∧ w'.cell? ⟨w.heap.size, 3, none⟩ = some (.int .u64 ((qd (a) : Nat) : Int)) ∧ w'.cell? ⟨w.heap.size, 4, none⟩ = some (.string ⟨#[]⟩) ∧ w'.cell? ⟨w.heap.size + 1, 0, none⟩ = some (.bool (ineg (b).num)) ∧ w'.cell? ⟨w.heap.size + 1, 1, none⟩ = some (.int .u64 ((iabs (b).num : Nat) : Int)) ∧ w'.cell? ⟨w.heap.size + 1, 2, none⟩ = some (.string ⟨#[]⟩) ∧ w'.cell? ⟨w.heap.size + 1, 3, none⟩ = some (.int .u64 ((qd (b) : Nat) : Int)) ∧ w'.cell? ⟨w.heap.size + 1, 4, none⟩ = some (.string ⟨#[]⟩) ∧ w'.cell? ⟨b5, 0, none⟩ = some (.int .u64 ((g : Nat) : Int)) ∧ w'.cell? ⟨b5, 1, none⟩ = some (.string ⟨#[]⟩)) ((go_split_ands; refine ⟨?_, ?_, ?_, ?_, ?_, ?_, ?_, ?_, ?_, ?_, ?_, ?_⟩ <;> (first | ((with_reducible refine Ext.some (a := wb) ?_ (by assumption)); ((repeat' (first | with_reducible exact Ext.refl _ | with_reducible refine Ext.setCell ?_ ?_ _ | with_reducible refine Ext.alloc ?_ _ | with_reducible refine Ext.drew ?_ | with_reducible refine Ext.drewN ?_ _ | with_reducible assumption | with_reducible refine Ext.trans ?_ (by assumption))) <;> (first | (simp; done) | (simp; omega) | omega)); done) | (with_reducible exact Ext.some hx (by assumption)) | ((repeat rw [cell_set_ne _ (by omega)]); with_reducible assumption) | (go_simp; done) | go_keep))) ((first | (go_at_call 62; (with_reducible refine (HDa.out _).mono ?_); rintro e w4_1 ⟨rfl, hx⟩; have sz := Ext.size hx; (try simp only [World.size_alloc, World.size_drew] at sz); (try (with_reducible have A2 := Row.ext A2 hx)); (first | ((with_reducible have A2 := Row.ext (Row.new _ [.int .u64 0, .string ⟨#[]⟩] _) hx); (with_reducible have A1 := Row.ext (Row.ext (Row.new _ [.int .u64 0, .string ⟨#[]⟩] _) ((Ext.refl _).alloc _)) hx)) | ((with_reducible have A2 := Row.ext (Row.drew (Row.new _ [.int .u64 0, .string ⟨#[]⟩] _)) hx); (with_reducible have A1 := Row.ext (Row.drew (Row.ext (Row.new _ [.int .u64 0, .string ⟨#[]⟩] _) ((Ext.refl _).alloc _))) hx)) | ((with_reducible have A2 := Row.ext (Row.new _ [.int .u64 0, .string ⟨#[]⟩] _) hx); (with_reducible have A1 := Row.ext (Row.allocFar _ A1) hx)) | ((with_reducible have A2 := Row.ext (Row.drew (Row.new _ [.int .u64 0, .string ⟨#[]⟩] _)) hx); (with_reducible have A1 := Row.ext (Row.drew (Row.allocFar _ A1)) hx)) | (with_reducible have A1 := Row.ext (Row.new _ [.int .u64 0, .string ⟨#[]⟩] _) hx) | (with_reducible have A1 := Row.ext (Row.drew (Row.new _ [.int .u64 0, .string ⟨#[]⟩] _)) hx) | (with_reducible have A1 := Row.ext A1 hx) | skip); (try simp only [World.size_alloc, World.size_drew] at A1); (try (obtain ⟨gA10, fA10⟩ := A1.1 0 _ rfl; obtain ⟨gA11, fA11⟩ := A1.1 1 _ rfl)); (try (have lA1 := A1.2)); (try simp only [World.size_alloc, World.size_drew] at A2); (try (obtain ⟨gA20, fA20⟩ := A2.1 0 _ rfl; obtain ⟨gA21, fA21⟩ := A2.1 1 _ rfl)); (try (have lA2 := A2.2))) | (go_at_call 63; (with_reducible refine (HOa.out _).mono ?_); rintro e w4_2 ⟨rfl, hx⟩; have sz := Ext.size hx; (try simp only [World.size_alloc, World.size_drew] at sz); (try (with_reducible have A2 := Row.ext A2 hx)); (first | ((with_reducible have A2 := Row.ext (Row.new _ [.int .u64 0, .string ⟨#[]⟩] _) hx); (with_reducible have A1 := Row.ext (Row.ext (Row.new _ [.int .u64 0, .string ⟨#[]⟩] _) ((Ext.refl _).alloc _)) hx)) | ((with_reducible have A2 := Row.ext (Row.drew (Row.new _ [.int .u64 0, .string ⟨#[]⟩] _)) hx); (with_reducible have A1 := Row.ext (Row.drew (Row.ext (Row.new _ [.int .u64 0, .string ⟨#[]⟩] _) ((Ext.refl _).alloc _))) hx)) | ((with_reducible have A2 := Row.ext (Row.new _ [.int .u64 0, .string ⟨#[]⟩] _) hx); (with_reducible have A1 := Row.ext (Row.allocFar _ A1) hx)) | ((with_reducible have A2 := Row.ext (Row.drew (Row.new _ [.int .u64 0, .string ⟨#[]⟩] _)) hx); (with_reducible have A1 := Row.ext (Row.drew (Row.allocFar _ A1)) hx)) | (with_reducible have A1 := Row.ext (Row.new _ [.int .u64 0, .string ⟨#[]⟩] _) hx) | (with_reducible have A1 := Row.ext (Row.drew (Row.new _ [.int .u64 0, .string ⟨#[]⟩] _)) hx) | (with_reducible have A1 := Row.ext A1 hx) | skip); (try simp only [World.size_alloc, World.size_drew] at A1); (try (obtain ⟨gA10, fA10⟩ := A1.1 0 _ rfl; obtain ⟨gA11, fA11⟩ := A1.1 1 _ rfl)); (try (have lA1 := A1.2)); (try simp only [World.size_alloc, World.size_drew] at A2); (try (obtain ⟨gA20, fA20⟩ := A2.1 0 _ rfl; obtain ⟨gA21, fA21⟩ := A2.1 1 _ rfl)); (try (have lA2 := A2.2))) | (go_at_call 62; (with_reducible refine (HDb.out _).mono ?_); rintro e w4_3 ⟨rfl, hx⟩; have sz := Ext.size hx; (try simp only [World.size_alloc, World.size_drew] at sz); (try (with_reducible have A2 := Row.ext A2 hx)); (first | ((with_reducible have A2 := Row.ext (Row.new _ [.int .u64 0, .string ⟨#[]⟩] _) hx); (with_reducible have A1 := Row.ext (Row.ext (Row.new _ [.int .u64 0, .string ⟨#[]⟩] _) ((Ext.refl _).alloc _)) hx)) | ((with_reducible have A2 := Row.ext (Row.drew (Row.new _ [.int .u64 0, .string ⟨#[]⟩] _)) hx); (with_reducible have A1 := Row.ext (Row.drew (Row.ext (Row.new _ [.int .u64 0, .string ⟨#[]⟩] _) ((Ext.refl _).alloc _))) hx)) | ((with_reducible have A2 := Row.ext (Row.new _ [.int .u64 0, .string ⟨#[]⟩] _) hx); (with_reducible have A1 := Row.ext (Row.allocFar _ A1) hx)) | ((with_reducible have A2 := Row.ext (Row.drew (Row.new _ [.int .u64 0, .string ⟨#[]⟩] _)) hx); (with_reducible have A1 := Row.ext (Row.drew (Row.allocFar _ A1)) hx)) | (with_reducible have A1 := Row.ext (Row.new _ [.int .u64 0, .string ⟨#[]⟩] _) hx) | (with_reducible have A1 := Row.ext (Row.drew (Row.new _ [.int .u64 0, .string ⟨#[]⟩] _)) hx) | (with_reducible have A1 := Row.ext A1 hx) | skip); (try simp only [World.size_alloc, World.size_drew] at A1); (try (obtain ⟨gA10, fA10⟩ := A1.1 0 _ rfl; obtain ⟨gA11, fA11⟩ := A1.1 1 _ rfl)); (try (have lA1 := A1.2)); (try simp only [World.size_alloc, World.size_drew] at A2); (try (obtain ⟨gA20, fA20⟩ := A2.1 0 _ rfl; obtain ⟨gA21, fA21⟩ := A2.1 1 _ rfl)); (try (have lA2 := A2.2))) | (go_at_call 63; (with_reducible refine (HOb.out _).mono ?_); rintro e w4_4 ⟨rfl, hx⟩; have sz := Ext.size hx; (try simp only [World.size_alloc, World.size_drew] at sz); (try (with_reducible have A2 := Row.ext A2 hx)); (first | ((with_reducible have A2 := Row.ext (Row.new _ [.int .u64 0, .string ⟨#[]⟩] _) hx); (with_reducible have A1 := Row.ext (Row.ext (Row.new _ [.int .u64 0, .string ⟨#[]⟩] _) ((Ext.refl _).alloc _)) hx)) | ((with_reducible have A2 := Row.ext (Row.drew (Row.new _ [.int .u64 0, .string ⟨#[]⟩] _)) hx); (with_reducible have A1 := Row.ext (Row.drew (Row.ext (Row.new _ [.int .u64 0, .string ⟨#[]⟩] _) ((Ext.refl _).alloc _))) hx)) | ((with_reducible have A2 := Row.ext (Row.new _ [.int .u64 0, .string ⟨#[]⟩] _) hx); (with_reducible have A1 := Row.ext (Row.allocFar _ A1) hx)) | ((with_reducible have A2 := Row.ext (Row.drew (Row.new _ [.int .u64 0, .string ⟨#[]⟩] _)) hx); (with_reducible have A1 := Row.ext (Row.drew (Row.allocFar _ A1)) hx)) | (with_reducible have A1 := Row.ext (Row.new _ [.int .u64 0, .string ⟨#[]⟩] _) hx) | (with_reducible have A1 := Row.ext (Row.drew (Row.new _ [.int .u64 0, .string ⟨#[]⟩] _)) hx) | (with_reducible have A1 := Row.ext A1 hx) | skip); (try simp only [World.size_alloc, World.size_drew] at A1); (try (obtain ⟨gA10, fA10⟩ := A1.1 0 _ rfl; obtain ⟨gA11, fA11⟩ := A1.1 1 _ rfl)); (try (have lA1 := A1.2)); (try simp only [World.size_alloc, World.size_drew] at A2); (try (obtain ⟨gA20, fA20⟩ := A2.1 0 _ rfl; obtain ⟨gA21, fA21⟩ := A2.1 1 _ rfl)); (try (have lA2 := A2.2)))))
    all_goals (go_wp2_with fail; go_meet)
    all_goals refine ⟨_, _, rfl, rfl, ?_, ?_, ?_, ?_, ?_, ?_⟩
    all_goals first | (((repeat' (first | with_reducible exact Ext.refl _ | with_reducible refine Ext.setCell ?_ ?_ _ | with_reducible refine Ext.alloc ?_ _ | with_reducible refine Ext.drew ?_ | with_reducible refine Ext.drewN ?_ _ | with_reducible assumption | with_reducible refine Ext.trans ?_ (by assumption))) <;> (first | (simp; done) | (simp; omega) | omega)); done) | omega | ((repeat' (first | with_reducible exact Row.new _ _ _ | (with_reducible refine Row.new' _ _ (by simp; done)) | with_reducible assumption | with_reducible refine Row.drew ?_ | with_reducible refine Row.put2 _ _ ?_ | with_reducible refine Row.put3 _ _ _ ?_ | with_reducible refine Row.put5 _ _ _ _ _ ?_ | (with_reducible refine Row.far _ ?_ (by omega)) | (with_reducible refine Row.allocFar _ ?_))); done) | (simp; omega)
  case' rest =>
    obtain ⟨b6, b7, rfl, rfl, V6, V7, n6, n7, nn4, hE4⟩ := hcut
    have n6RA : w.heap.size < b6 := Nat.lt_of_lt_of_le RA.2 n6
    have n6RB : w.heap.size + 1 < b6 := Nat.lt_of_lt_of_le RB.2 n6
    have n6RR : w.heap.size + 1 + 1 < b6 := Nat.lt_of_lt_of_le RR.2 n6
    have n6V5 : b5 < b6 := Nat.lt_of_lt_of_le V5.2 n6
    have n7RA : w.heap.size < b7 := Nat.lt_of_lt_of_le RA.2 n7
    have n7RB : w.heap.size + 1 < b7 := Nat.lt_of_lt_of_le RB.2 n7
    have n7RR : w.heap.size + 1 + 1 < b7 := Nat.lt_of_lt_of_le RR.2 n7
    have n7V5 : b5 < b7 := Nat.lt_of_lt_of_le V5.2 n7
    replace RA := Row.ext RA hE4
    replace RB := Row.ext RB hE4
    replace RR := Row.ext RR hE4
    replace V5 := Row.ext V5 hE4
    clear n6 n7
  have hE := hE.trans hE4
  clear hE4 HDa HOa HOb
  obtain ⟨wd, rfl⟩ : ∃ wd : World, wd = wc := ⟨_, rfl⟩
  go_upto_region 5 with fail
  go_cut [8] (fun s8 wx => ∃ b8 : Nat, s8 = .pointer (some ⟨b8, 0, none⟩) ∧ Row wx b8 [.bool (ineg up), .int .u64 ((iabs up : Nat) : Int), .string ⟨#[]⟩] ∧ wd.heap.size ≤ b8 ∧ Ext wd wx)
  case first =>
    obtain ⟨oRA0, qRA0⟩ := RA.1 0 _ rfl
    obtain ⟨oRA1, qRA1⟩ := RA.1 1 _ rfl
    obtain ⟨oRA2, qRA2⟩ := RA.1 2 _ rfl
    obtain ⟨oRA3, qRA3⟩ := RA.1 3 _ rfl
    obtain ⟨oRA4, qRA4⟩ := RA.1 4 _ rfl
    obtain ⟨oRB0, qRB0⟩ := RB.1 0 _ rfl
    obtain ⟨oRB1, qRB1⟩ := RB.1 1 _ rfl
    obtain ⟨oRB2, qRB2⟩ := RB.1 2 _ rfl
    obtain ⟨oRB3, qRB3⟩ := RB.1 3 _ rfl
    obtain ⟨oRB4, qRB4⟩ := RB.1 4 _ rfl
    obtain ⟨oV60, qV60⟩ := V6.1 0 _ rfl
    obtain ⟨oV61, qV61⟩ := V6.1 1 _ rfl
    obtain ⟨oV70, qV70⟩ := V7.1 0 _ rfl
    obtain ⟨oV71, qV71⟩ := V7.1 1 _ rfl
    have lRA := RA.2
    have lRB := RB.2
    have lRR := RR.2
    have lV5 := V5.2
    have lV6 := V6.2
    have lV7 := V7.2
    go_region_held3 (fun w' => w'.cell? ⟨w.heap.size, 0, none⟩ = some (.bool (ineg (a).num)) ∧ w'.cell? ⟨w.heap.size, 1, none⟩ = some (.int .u64 ((iabs (a).num : Nat) : Int)) ∧ w'.cell? ⟨w.heap.size, 2, none⟩ = some (.string ⟨#[]⟩) ∧ w'.cell? ⟨w.heap.size, 3, none⟩ = some (.int .u64 ((qd (a) : Nat) : Int)) ∧ w'.cell? ⟨w.heap.size, 4, none⟩ = some (.string ⟨#[]⟩) ∧ w'.cell? ⟨w.heap.size + 1, 0, none⟩ = some (.bool (ineg (b).num)) ∧ w'.cell? ⟨w.heap.size + 1, 1, none⟩ = some (.int .u64 ((iabs (b).num : Nat) : Int)) ∧ w'.cell? ⟨w.heap.size + 1, 2, none⟩ = some (.string ⟨#[]⟩) ∧ w'.cell? ⟨w.heap.size + 1, 3, none⟩ = some (.int .u64 ((qd (b) : Nat) : Int)) ∧ w'.cell? ⟨w.heap.size + 1, 4, none⟩ = some (.string ⟨#[]⟩) ∧ w'.cell? ⟨b6, 0, none⟩ = some (.int .u64 ((x : Nat) : Int)) ∧ w'.cell? ⟨b6, 1, none⟩ = some (.string ⟨#[]⟩) ∧ w'.cell? ⟨b7, 0, none⟩ = some (.int .u64 ((y : Nat) : Int)) ∧ w'.cell? ⟨b7, 1, none⟩ = some (.string ⟨#[]⟩)) ((go_split_ands; refine ⟨?_, ?_, ?_, ?_, ?_, ?_, ?_, ?_, ?_, ?_, ?_, ?_, ?_, ?_⟩ <;> (first | ((with_reducible refine Ext.some (a := wd) ?_ (by assumption)); ((repeat' (first | with_reducible exact Ext.refl _ | with_reducible refine Ext.setCell ?_ ?_ _ | with_reducible refine Ext.alloc ?_ _ | with_reducible refine Ext.drew ?_ | with_reducible refine Ext.drewN ?_ _ | with_reducible assumption | with_reducible refine Ext.trans ?_ (by assumption))) <;> (first | (simp; done) | (simp; omega) | omega)); done) | (with_reducible exact Ext.some hx (by assumption)) | ((repeat rw [cell_set_ne _ (by omega)]); with_reducible assumption) | (go_simp; done) | go_keep))) ((first | (go_at_call 64; (with_reducible refine (HTa.out _).mono ?_); rintro e w5_1 ⟨rfl, hx⟩; have sz := Ext.size hx; (try simp only [World.size_alloc, World.size_drew] at sz); (first | (with_reducible have A1 := Row.ext (Row.new _ [.bool false, .int .u64 0, .string ⟨#[]⟩] _) hx) | (with_reducible have A1 := Row.ext (Row.drew (Row.new _ [.bool false, .int .u64 0, .string ⟨#[]⟩] _)) hx) | (with_reducible have A1 := Row.ext A1 hx) | skip); (try simp only [World.size_alloc, World.size_drew] at A1); (try (obtain ⟨gA10, fA10⟩ := A1.1 0 _ rfl; obtain ⟨gA11, fA11⟩ := A1.1 1 _ rfl; obtain ⟨gA12, fA12⟩ := A1.1 2 _ rfl)); (try (have lA1 := A1.2))) | (go_at_call 64; (with_reducible refine (HTb.out _).mono ?_); rintro e w5_2 ⟨rfl, hx⟩; have sz := Ext.size hx; (try simp only [World.size_alloc, World.size_drew] at sz); (first | (with_reducible have A1 := Row.ext (Row.new _ [.bool false, .int .u64 0, .string ⟨#[]⟩] _) hx) | (with_reducible have A1 := Row.ext (Row.drew (Row.new _ [.bool false, .int .u64 0, .string ⟨#[]⟩] _)) hx) | (with_reducible have A1 := Row.ext A1 hx) | skip); (try simp only [World.size_alloc, World.size_drew] at A1); (try (obtain ⟨gA10, fA10⟩ := A1.1 0 _ rfl; obtain ⟨gA11, fA11⟩ := A1.1 1 _ rfl; obtain ⟨gA12, fA12⟩ := A1.1 2 _ rfl)); (try (have lA1 := A1.2))) | (go_at_call 60; (with_reducible refine (HS.out _).mono ?_); rintro e w5_3 ⟨rfl, hx⟩; have sz := Ext.size hx; (try simp only [World.size_alloc, World.size_drew] at sz); (first | (with_reducible have A1 := Row.ext (Row.new _ [.bool false, .int .u64 0, .string ⟨#[]⟩] _) hx) | (with_reducible have A1 := Row.ext (Row.drew (Row.new _ [.bool false, .int .u64 0, .string ⟨#[]⟩] _)) hx) | (with_reducible have A1 := Row.ext A1 hx) | skip); (try simp only [World.size_alloc, World.size_drew] at A1); (try (obtain ⟨gA10, fA10⟩ := A1.1 0 _ rfl; obtain ⟨gA11, fA11⟩ := A1.1 1 _ rfl; obtain ⟨gA12, fA12⟩ := A1.1 2 _ rfl)); (try (have lA1 := A1.2)))))
    all_goals (go_wp2_with fail; go_meet)
    all_goals refine ⟨_, rfl, ?_, ?_, ?_⟩
    all_goals first | (((repeat' (first | with_reducible exact Ext.refl _ | with_reducible refine Ext.setCell ?_ ?_ _ | with_reducible refine Ext.alloc ?_ _ | with_reducible refine Ext.drew ?_ | with_reducible refine Ext.drewN ?_ _ | with_reducible assumption | with_reducible refine Ext.trans ?_ (by assumption))) <;> (first | (simp; done) | (simp; omega) | omega)); done) | omega | ((repeat' (first | with_reducible exact Row.new _ _ _ | (with_reducible refine Row.new' _ _ (by simp; done)) | with_reducible assumption | with_reducible refine Row.drew ?_ | with_reducible refine Row.put2 _ _ ?_ | with_reducible refine Row.put3 _ _ _ ?_ | with_reducible refine Row.put5 _ _ _ _ _ ?_ | (with_reducible refine Row.far _ ?_ (by omega)) | (with_reducible refine Row.allocFar _ ?_))); done) | (simp; omega)
  case' rest =>
    obtain ⟨b8, rfl, V8, n8, hE5⟩ := hcut
    have n8RA : w.heap.size < b8 := Nat.lt_of_lt_of_le RA.2 n8
    have n8RB : w.heap.size + 1 < b8 := Nat.lt_of_lt_of_le RB.2 n8
    have n8RR : w.heap.size + 1 + 1 < b8 := Nat.lt_of_lt_of_le RR.2 n8
    have n8V5 : b5 < b8 := Nat.lt_of_lt_of_le V5.2 n8
    have n8V6 : b6 < b8 := Nat.lt_of_lt_of_le V6.2 n8
    have n8V7 : b7 < b8 := Nat.lt_of_lt_of_le V7.2 n8
    replace RA := Row.ext RA hE5
    replace RB := Row.ext RB hE5
    replace RR := Row.ext RR hE5
    replace V5 := Row.ext V5 hE5
    replace V6 := Row.ext V6 hE5
    replace V7 := Row.ext V7 hE5
    clear n8
  have hE := hE.trans hE5
  clear hE5 HTa HTb HS
  obtain ⟨we, rfl⟩ : ∃ we : World, we = wc := ⟨_, rfl⟩
  go_upto_region 6 with fail
  go_cut [9] (fun s9 wx => ∃ b9 : Nat, s9 = .pointer (some ⟨b9, 0, none⟩) ∧ Row wx b9 [.int .u64 ((h : Nat) : Int), .string ⟨#[]⟩] ∧ we.heap.size ≤ b9 ∧ Ext we wx)
  case first =>
    obtain ⟨oV50, qV50⟩ := V5.1 0 _ rfl
    obtain ⟨oV51, qV51⟩ := V5.1 1 _ rfl
    obtain ⟨oV80, qV80⟩ := V8.1 0 _ rfl
    obtain ⟨oV81, qV81⟩ := V8.1 1 _ rfl
    obtain ⟨oV82, qV82⟩ := V8.1 2 _ rfl
    have lRB := RB.2
    have lRR := RR.2
    have lV5 := V5.2
    have lV6 := V6.2
    have lV8 := V8.2
    go_region_held3 (fun w' => w'.cell? ⟨b5, 0, none⟩ = some (.int .u64 ((g : Nat) : Int)) ∧ w'.cell? ⟨b5, 1, none⟩ = some (.string ⟨#[]⟩) ∧ w'.cell? ⟨b8, 0, none⟩ = some (.bool (ineg up)) ∧ w'.cell? ⟨b8, 1, none⟩ = some (.int .u64 ((iabs up : Nat) : Int)) ∧ w'.cell? ⟨b8, 2, none⟩ = some (.string ⟨#[]⟩)) ((go_split_ands; refine ⟨?_, ?_, ?_, ?_, ?_⟩ <;> (first | ((with_reducible refine Ext.some (a := we) ?_ (by assumption)); ((repeat' (first | with_reducible exact Ext.refl _ | with_reducible refine Ext.setCell ?_ ?_ _ | with_reducible refine Ext.alloc ?_ _ | with_reducible refine Ext.drew ?_ | with_reducible refine Ext.drewN ?_ _ | with_reducible assumption | with_reducible refine Ext.trans ?_ (by assumption))) <;> (first | (simp; done) | (simp; omega) | omega)); done) | (with_reducible exact Ext.some hx (by assumption)) | ((repeat rw [cell_set_ne _ (by omega)]); with_reducible assumption) | (go_simp; done) | go_keep))) ((first | (go_at_call 33; (with_reducible refine (HFg.out _).mono ?_); rintro e w6_1 ⟨rfl, hx⟩; have sz := Ext.size hx; (try simp only [World.size_alloc, World.size_drew] at sz); (first | (with_reducible have A1 := Row.ext (Row.new _ [.int .u64 0, .string ⟨#[]⟩] _) hx) | (with_reducible have A1 := Row.ext (Row.drew (Row.new _ [.int .u64 0, .string ⟨#[]⟩] _)) hx) | (with_reducible have A1 := Row.ext A1 hx) | skip); (try simp only [World.size_alloc, World.size_drew] at A1); (try (obtain ⟨gA10, fA10⟩ := A1.1 0 _ rfl; obtain ⟨gA11, fA11⟩ := A1.1 1 _ rfl)); (try (have lA1 := A1.2))) | (go_at_call 61; (with_reducible refine (HH.out _).mono ?_); rintro e w6_2 ⟨rfl, hx⟩; have sz := Ext.size hx; (try simp only [World.size_alloc, World.size_drew] at sz); (first | (with_reducible have A1 := Row.ext (Row.new _ [.int .u64 0, .string ⟨#[]⟩] _) hx) | (with_reducible have A1 := Row.ext (Row.drew (Row.new _ [.int .u64 0, .string ⟨#[]⟩] _)) hx) | (with_reducible have A1 := Row.ext A1 hx) | skip); (try simp only [World.size_alloc, World.size_drew] at A1); (try (obtain ⟨gA10, fA10⟩ := A1.1 0 _ rfl; obtain ⟨gA11, fA11⟩ := A1.1 1 _ rfl)); (try (have lA1 := A1.2)))))
    all_goals (go_wp2_with fail; go_meet)
    all_goals refine ⟨_, rfl, ?_, ?_, ?_⟩
    all_goals first | (((repeat' (first | with_reducible exact Ext.refl _ | with_reducible refine Ext.setCell ?_ ?_ _ | with_reducible refine Ext.alloc ?_ _ | with_reducible refine Ext.drew ?_ | with_reducible refine Ext.drewN ?_ _ | with_reducible assumption | with_reducible refine Ext.trans ?_ (by assumption))) <;> (first | (simp; done) | (simp; omega) | omega)); done) | omega | ((repeat' (first | with_reducible exact Row.new _ _ _ | (with_reducible refine Row.new' _ _ (by simp; done)) | with_reducible assumption | with_reducible refine Row.drew ?_ | with_reducible refine Row.put2 _ _ ?_ | with_reducible refine Row.put3 _ _ _ ?_ | with_reducible refine Row.put5 _ _ _ _ _ ?_ | (with_reducible refine Row.far _ ?_ (by omega)) | (with_reducible refine Row.allocFar _ ?_))); done) | (simp; omega)
  case' rest =>
    obtain ⟨b9, rfl, V9, n9, hE6⟩ := hcut
    have n9RB : w.heap.size + 1 < b9 := Nat.lt_of_lt_of_le RB.2 n9
    have n9RR : w.heap.size + 1 + 1 < b9 := Nat.lt_of_lt_of_le RR.2 n9
    have n9V5 : b5 < b9 := Nat.lt_of_lt_of_le V5.2 n9
    have n9V6 : b6 < b9 := Nat.lt_of_lt_of_le V6.2 n9
    have n9V8 : b8 < b9 := Nat.lt_of_lt_of_le V8.2 n9
    replace RB := Row.ext RB hE6
    replace RR := Row.ext RR hE6
    replace V5 := Row.ext V5 hE6
    replace V6 := Row.ext V6 hE6
    replace V8 := Row.ext V8 hE6
    clear n9
  have hE := hE.trans hE6
  clear hE6 HFg HH
  obtain ⟨wf, rfl⟩ : ∃ wf : World, wf = wc := ⟨_, rfl⟩
  go_wp2_with fail
  obtain ⟨oRB0, qRB0⟩ := RB.1 0 _ rfl
  obtain ⟨oRB1, qRB1⟩ := RB.1 1 _ rfl
  obtain ⟨oRB2, qRB2⟩ := RB.1 2 _ rfl
  obtain ⟨oRB3, qRB3⟩ := RB.1 3 _ rfl
  obtain ⟨oRB4, qRB4⟩ := RB.1 4 _ rfl
  obtain ⟨oRR0, qRR0⟩ := RR.1 0 _ rfl
  obtain ⟨oRR1, qRR1⟩ := RR.1 1 _ rfl
  obtain ⟨oRR2, qRR2⟩ := RR.1 2 _ rfl
  obtain ⟨oRR3, qRR3⟩ := RR.1 3 _ rfl
  obtain ⟨oRR4, qRR4⟩ := RR.1 4 _ rfl
  obtain ⟨oV60, qV60⟩ := V6.1 0 _ rfl
  obtain ⟨oV61, qV61⟩ := V6.1 1 _ rfl
  obtain ⟨oV80, qV80⟩ := V8.1 0 _ rfl
  obtain ⟨oV81, qV81⟩ := V8.1 1 _ rfl
  obtain ⟨oV82, qV82⟩ := V8.1 2 _ rfl
  obtain ⟨oV90, qV90⟩ := V9.1 0 _ rfl
  obtain ⟨oV91, qV91⟩ := V9.1 1 _ rfl
  have lRB := RB.2
  have lRR := RR.2
  have lV6 := V6.2
  have lV8 := V8.2
  have lV9 := V9.2
  go_region_held3 (fun w' => w'.cell? ⟨w.heap.size + 1, 0, none⟩ = some (.bool (ineg (b).num)) ∧ w'.cell? ⟨w.heap.size + 1, 1, none⟩ = some (.int .u64 ((iabs (b).num : Nat) : Int)) ∧ w'.cell? ⟨w.heap.size + 1, 2, none⟩ = some (.string ⟨#[]⟩) ∧ w'.cell? ⟨w.heap.size + 1, 3, none⟩ = some (.int .u64 ((qd (b) : Nat) : Int)) ∧ w'.cell? ⟨w.heap.size + 1, 4, none⟩ = some (.string ⟨#[]⟩) ∧ w'.cell? ⟨b6, 0, none⟩ = some (.int .u64 ((x : Nat) : Int)) ∧ w'.cell? ⟨b6, 1, none⟩ = some (.string ⟨#[]⟩) ∧ w'.cell? ⟨b8, 0, none⟩ = some (.bool (ineg up)) ∧ w'.cell? ⟨b8, 1, none⟩ = some (.int .u64 ((iabs up : Nat) : Int)) ∧ w'.cell? ⟨b8, 2, none⟩ = some (.string ⟨#[]⟩) ∧ w'.cell? ⟨b9, 0, none⟩ = some (.int .u64 ((h : Nat) : Int)) ∧ w'.cell? ⟨b9, 1, none⟩ = some (.string ⟨#[]⟩)) ((go_split_ands; refine ⟨?_, ?_, ?_, ?_, ?_, ?_, ?_, ?_, ?_, ?_, ?_, ?_⟩ <;> (first | ((with_reducible refine Ext.some (a := wf) ?_ (by assumption)); ((repeat' (first | with_reducible exact Ext.refl _ | with_reducible refine Ext.setCell ?_ ?_ _ | with_reducible refine Ext.alloc ?_ _ | with_reducible refine Ext.drew ?_ | with_reducible refine Ext.drewN ?_ _ | with_reducible assumption | with_reducible refine Ext.trans ?_ (by assumption))) <;> (first | (simp; done) | (simp; omega) | omega)); done) | (with_reducible exact Ext.some hx (by assumption)) | ((repeat rw [cell_set_ne _ (by omega)]); with_reducible assumption) | (go_simp; done) | go_keep))) ((first | (go_at_call 66; (with_reducible refine (HP.out _).mono ?_); rintro e w7_1 ⟨rfl, hx⟩; have sz := Ext.size hx; (try simp only [World.size_alloc, World.size_drew] at sz); have RE := Row.ext RR (show Ext wf w7_1 by (repeat' (first | with_reducible exact Ext.refl _ | with_reducible refine Ext.setCell ?_ ?_ _ | with_reducible refine Ext.alloc ?_ _ | with_reducible refine Ext.drew ?_ | with_reducible refine Ext.drewN ?_ _ | with_reducible assumption | with_reducible refine Ext.trans ?_ (by assumption))) <;> (first | (simp; done) | (simp; omega) | omega)); obtain ⟨r0, zf0⟩ := RE.1 0 _ rfl; obtain ⟨r1, zf1⟩ := RE.1 1 _ rfl; obtain ⟨r2, zf2⟩ := RE.1 2 _ rfl; obtain ⟨r3, zf3⟩ := RE.1 3 _ rfl; obtain ⟨r4, zf4⟩ := RE.1 4 _ rfl) | (go_at_call 62; (with_reducible refine (HDb.out _).mono ?_); rintro e w7_2 ⟨rfl, hx⟩; have sz := Ext.size hx; (try simp only [World.size_alloc, World.size_drew] at sz); have RE := Row.ext RR (show Ext wf w7_2 by (repeat' (first | with_reducible exact Ext.refl _ | with_reducible refine Ext.setCell ?_ ?_ _ | with_reducible refine Ext.alloc ?_ _ | with_reducible refine Ext.drew ?_ | with_reducible refine Ext.drewN ?_ _ | with_reducible assumption | with_reducible refine Ext.trans ?_ (by assumption))) <;> (first | (simp; done) | (simp; omega) | omega)); obtain ⟨r0, zf0⟩ := RE.1 0 _ rfl; obtain ⟨r1, zf1⟩ := RE.1 1 _ rfl; obtain ⟨r2, zf2⟩ := RE.1 2 _ rfl; obtain ⟨r3, zf3⟩ := RE.1 3 _ rfl; obtain ⟨r4, zf4⟩ := RE.1 4 _ rfl) | (go_at_call 63; (with_reducible refine (HOh.out _).mono ?_); rintro e w7_3 ⟨rfl, hx⟩; have sz := Ext.size hx; (try simp only [World.size_alloc, World.size_drew] at sz); have RE := Row.ext RR (show Ext wf w7_3 by (repeat' (first | with_reducible exact Ext.refl _ | with_reducible refine Ext.setCell ?_ ?_ _ | with_reducible refine Ext.alloc ?_ _ | with_reducible refine Ext.drew ?_ | with_reducible refine Ext.drewN ?_ _ | with_reducible assumption | with_reducible refine Ext.trans ?_ (by assumption))) <;> (first | (simp; done) | (simp; omega) | omega)); obtain ⟨r0, zf0⟩ := RE.1 0 _ rfl; obtain ⟨r1, zf1⟩ := RE.1 1 _ rfl; obtain ⟨r2, zf2⟩ := RE.1 2 _ rfl; obtain ⟨r3, zf3⟩ := RE.1 3 _ rfl; obtain ⟨r4, zf4⟩ := RE.1 4 _ rfl) | (go_at_call 67; (with_reducible refine (HM.out _).mono ?_); rintro e w7_4 ⟨rfl, hx⟩; have sz := Ext.size hx; (try simp only [World.size_alloc, World.size_drew] at sz); have RE := Row.ext RR (show Ext wf w7_4 by (repeat' (first | with_reducible exact Ext.refl _ | with_reducible refine Ext.setCell ?_ ?_ _ | with_reducible refine Ext.alloc ?_ _ | with_reducible refine Ext.drew ?_ | with_reducible refine Ext.drewN ?_ _ | with_reducible assumption | with_reducible refine Ext.trans ?_ (by assumption))) <;> (first | (simp; done) | (simp; omega) | omega)); obtain ⟨r0, zf0⟩ := RE.1 0 _ rfl; obtain ⟨r1, zf1⟩ := RE.1 1 _ rfl; obtain ⟨r2, zf2⟩ := RE.1 2 _ rfl; obtain ⟨r3, zf3⟩ := RE.1 3 _ rfl; obtain ⟨r4, zf4⟩ := RE.1 4 _ rfl) | (go_at_call 65; (with_reducible refine (HK.out _).mono ?_); rintro e w7_5 ⟨rfl, hx⟩; have sz := Ext.size hx; (try simp only [World.size_alloc, World.size_drew] at sz); have RE := Row.ext RR (show Ext wf w7_5 by (repeat' (first | with_reducible exact Ext.refl _ | with_reducible refine Ext.setCell ?_ ?_ _ | with_reducible refine Ext.alloc ?_ _ | with_reducible refine Ext.drew ?_ | with_reducible refine Ext.drewN ?_ _ | with_reducible assumption | with_reducible refine Ext.trans ?_ (by assumption))) <;> (first | (simp; done) | (simp; omega) | omega)); obtain ⟨r0, zf0⟩ := RE.1 0 _ rfl; obtain ⟨r1, zf1⟩ := RE.1 1 _ rfl; obtain ⟨r2, zf2⟩ := RE.1 2 _ rfl; obtain ⟨r3, zf3⟩ := RE.1 3 _ rfl; obtain ⟨r4, zf4⟩ := RE.1 4 _ rfl)))
  go_wp2
  refine bodyPost_ret (v := .agg #[.bool (ineg (r).num), .int .u64 ((iabs (r).num : Nat) : Int), .string ⟨#[]⟩, .int .u64 ((qd (r) : Nat) : Int), .string ⟨#[]⟩]) (by simp [results, Tryz.results36, go_sem, r0, r1, r2, r3, r4]) rfl ⟨rfl, ?_⟩
  (repeat' (first | with_reducible exact Ext.refl _ | with_reducible refine Ext.setCell ?_ ?_ _ | with_reducible refine Ext.alloc ?_ _ | with_reducible refine Ext.drew ?_ | with_reducible refine Ext.drewN ?_ _ | with_reducible assumption | with_reducible refine Ext.trans ?_ (by assumption))) <;> (first | (simp; done) | (simp; omega) | omega)
end Go.Proofs.YtmkonbkdjmfjhaaGreatDoor
