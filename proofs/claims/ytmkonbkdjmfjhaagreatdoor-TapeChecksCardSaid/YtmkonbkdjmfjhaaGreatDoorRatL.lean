/- Plain lemmas on fractions: what the program's ways of adding, multiplying and reducing come to. No program in sight. -/
import Derived.Test.YtmkonbkdjmfjhaaGreatDoorNum
namespace Go.Proofs.YtmkonbkdjmfjhaaGreatDoor

theorem bext {W w1 : World} (hb : Ext W w1) : (∀ b o, b < W.heap.size → w1.cell? ⟨b, o, none⟩ = W.cell? ⟨b, o, none⟩) ∧ (∀ b o, b < W.heap.size → w1.frozen? ⟨b, o, none⟩ = W.frozen? ⟨b, o, none⟩) ∧ (∀ b, b < W.heap.size → b < w1.heap.size) :=
  ⟨fun b o h => hb.cell (p := ⟨b, o, none⟩) h, fun b o h => hb.frozen (p := ⟨b, o, none⟩) h, fun _ h => Nat.lt_of_lt_of_le h hb.size⟩

theorem sgn_part (z : Int) (b : Nat) (hd : (b : Int) ∣ z) : sgn (decide (z.sign < 0)) (iabs z / b) = z / b := by
  obtain ⟨k, rfl⟩ := hd
  rcases Nat.eq_zero_or_pos b with hb | hb
  · subst hb; simp [sgn, iabs]
  have e1 : iabs ((b : Int) * k) / b = k.natAbs := by
    unfold iabs
    rw [Int.natAbs_mul, Int.natAbs_natCast, Nat.mul_div_cancel_left _ hb]
  have e2 : ((b : Int) * k) / b = k := Int.mul_ediv_cancel_left _ (by omega)
  have e3 : ((b : Int) * k).sign = k.sign := by rw [Int.sign_mul, Int.sign_natCast_of_ne_zero (by omega), Int.one_mul]
  rw [e1, e2, e3]
  unfold sgn
  rcases Int.lt_trichotomy k 0 with h | h | h
  · rw [Int.sign_eq_neg_one_of_neg h]; simp; omega
  · subst h; simp
  · rw [Int.sign_eq_one_of_pos h]; simp; omega

theorem rat_add (a b : Rat) : ∀ g h : Nat, ∀ up : Int, g = Nat.gcd a.den b.den → up = a.num * ((b.den / g : Nat) : Int) + b.num * ((a.den / g : Nat) : Int) → h = Nat.gcd (iabs up) g →
    (a + b).num = up / h ∧ (a + b).den = (a.den / g) * (b.den / h) ∧ (h : Int) ∣ up ∧ h ∣ b.den ∧ 0 < h ∧ 0 < g := by
  intro g h up hg hup hh
  have hgp : 0 < g := by rw [hg]; exact Nat.gcd_pos_of_pos_left _ a.den_pos
  have hhp : 0 < h := by rw [hh]; exact Nat.gcd_pos_of_pos_right _ hgp
  have hga : g ∣ a.den := by rw [hg]; exact Nat.gcd_dvd_left _ _
  have hgb : g ∣ b.den := by rw [hg]; exact Nat.gcd_dvd_right _ _
  have hhg : h ∣ g := by rw [hh]; exact Nat.gcd_dvd_right _ _
  have hhu : (h : Int) ∣ up := by
    have h1 : h ∣ up.natAbs := by rw [hh]; exact Nat.gcd_dvd_left _ _
    exact Int.dvd_trans (Int.natCast_dvd_natCast.2 h1) (Int.natAbs_dvd.2 (Int.dvd_refl _))
  have hhb : h ∣ b.den := Nat.dvd_trans hhg hgb
  refine ⟨?_, ?_, hhu, hhb, hhp, hgp⟩
  · show (Rat.add a b).num = _
    delta Rat.add
    dsimp only
    split
    · rename_i h1
      have g1 : g = 1 := by rw [hg]; exact h1
      dsimp only
      clear h1 hg
      subst g1
      have hh1 : h = 1 := by rw [hh]; simp
      rw [hh1, hup]; simp
    · subst hg hup hh
      dsimp only [Rat.maybeNormalize]
      split
      · rename_i h1
        dsimp only
        unfold iabs
        rw [h1]; simp
      · dsimp only
        rw [Int.divExact_eq_ediv]
        rfl
  · show (Rat.add a b).den = _
    delta Rat.add
    dsimp only
    split
    · rename_i h1
      have g1 : g = 1 := by rw [hg]; exact h1
      dsimp only
      clear h1 hg
      subst g1
      have hh1 : h = 1 := by rw [hh]; simp
      rw [hh1]; simp
    · subst hg hup hh
      dsimp only [Rat.maybeNormalize]
      split
      · rename_i h1
        dsimp only
        unfold iabs
        rw [h1]; simp
      · dsimp only
        rw [Nat.divExact_eq_div]
        unfold iabs at *
        rw [Nat.mul_div_assoc _ hhb]

theorem rat_mul (a b : Rat) : ∀ g h : Nat, g = Nat.gcd (iabs a.num) b.den → h = Nat.gcd (iabs b.num) a.den →
    (a * b).num = (a.num / g) * (b.num / h) ∧ (a * b).den = (a.den / h) * (b.den / g) ∧ (g : Int) ∣ a.num ∧ (h : Int) ∣ b.num ∧ 0 < g ∧ 0 < h := by
  intro g h hg hh
  have hgp : 0 < g := by rw [hg]; exact Nat.gcd_pos_of_pos_right _ b.den_pos
  have hhp : 0 < h := by rw [hh]; exact Nat.gcd_pos_of_pos_right _ a.den_pos
  have d1 : (g : Int) ∣ a.num := by
    have h1 : g ∣ a.num.natAbs := by rw [hg]; exact Nat.gcd_dvd_left _ _
    exact Int.dvd_trans (Int.natCast_dvd_natCast.2 h1) (Int.natAbs_dvd.2 (Int.dvd_refl _))
  have d2 : (h : Int) ∣ b.num := by
    have h1 : h ∣ b.num.natAbs := by rw [hh]; exact Nat.gcd_dvd_left _ _
    exact Int.dvd_trans (Int.natCast_dvd_natCast.2 h1) (Int.natAbs_dvd.2 (Int.dvd_refl _))
  refine ⟨?_, ?_, d1, d2, hgp, hhp⟩
  · show (Rat.mul a b).num = _
    delta Rat.mul
    dsimp only
    rw [Int.divExact_eq_ediv, Int.divExact_eq_ediv, hg, hh]; rfl
  · show (Rat.mul a b).den = _
    delta Rat.mul
    dsimp only
    rw [Nat.divExact_eq_div, Nat.divExact_eq_div, hg, hh]; rfl

/-- n / d, reduced. -/
theorem mkRat_parts (n : Int) (d : Nat) (hd : 0 < d) : (mkRat n d).num = n / (Nat.gcd (iabs n) d : Nat) ∧ (mkRat n d).den = d / Nat.gcd (iabs n) d ∧ ((Nat.gcd (iabs n) d : Nat) : Int) ∣ n ∧ 0 < Nat.gcd (iabs n) d := by
  have d1 : ((Nat.gcd (iabs n) d : Nat) : Int) ∣ n := by
    have h1 : Nat.gcd (iabs n) d ∣ n.natAbs := Nat.gcd_dvd_left _ _
    exact Int.dvd_trans (Int.natCast_dvd_natCast.2 h1) (Int.natAbs_dvd.2 (Int.dvd_refl _))
  unfold mkRat
  rw [dif_neg (by omega), Rat.normalize_eq]
  exact ⟨rfl, rfl, d1, Nat.gcd_pos_of_pos_right _ hd⟩

def cmpQ (a b : Rat) : Int := if a < b then -1 else if b < a then 1 else 0
theorem rat_inv (b : Rat) (h : b.num ≠ 0) : (b⁻¹).num = sgn (decide (b.num.sign < 0)) b.den ∧ (b⁻¹).den = iabs b.num := by
  have e : b⁻¹ = Rat.inv b := rfl
  rw [e]
  delta Rat.inv
  split
  · rename_i h1
    rw [Int.sign_eq_neg_one_of_neg h1]; simp [sgn, iabs]
  · split
    · rename_i h1
      rw [Int.sign_eq_one_of_pos h1]; simp [sgn, iabs]
    · omega
end Go.Proofs.YtmkonbkdjmfjhaaGreatDoor
