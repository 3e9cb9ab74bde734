/- Numbers as rows of bytes, the highest first. No program in sight. -/
import Derived.Test.YtokbipmfhfmnfaaGreatDoorLim
namespace Go.Proofs.YtokbipmfhfmnfaaGreatDoor

/-- How many bits. -/
def nb (n : Nat) : Nat := if n = 0 then 0 else Nat.log2 n + 1
theorem nb_zero : nb 0 = 0 := rfl
theorem nb_spec {n : Nat} (h : 0 < n) : 2 ^ (nb n - 1) ≤ n ∧ n < 2 ^ nb n ∧ 0 < nb n := by
  unfold nb
  rw [if_neg (by omega)]
  have := (Nat.log2_eq_iff (n := n) (k := n.log2) (by omega)).1 rfl
  exact ⟨this.1, this.2, by omega⟩
theorem nb_unique {n k : Nat} (h1 : 2 ^ k ≤ n) (h2 : n < 2 ^ (k + 1)) : nb n = k + 1 := by
  have hp : 0 < 2 ^ k := Nat.two_pow_pos k
  unfold nb
  rw [if_neg (by omega), (Nat.log2_eq_iff (by omega)).2 ⟨h1, h2⟩]
theorem lt_nb (n : Nat) : n < 2 ^ nb n := by
  rcases Nat.eq_zero_or_pos n with h | h
  · subst h; simp [nb]
  · exact (nb_spec h).2.1
theorem nb_le {n k : Nat} (h : n < 2 ^ k) : nb n ≤ k := by
  rcases Nat.eq_zero_or_pos n with h0 | h0
  · subst h0; simp [nb]
  · have := nb_spec h0
    rcases Nat.lt_or_ge k (nb n) with hl | hl
    · have : 2 ^ k ≤ 2 ^ (nb n - 1) := Nat.pow_le_pow_right (by omega) (by omega)
      omega
    · exact hl
theorem nb_half {n : Nat} (h : 0 < n) : nb n = nb (n / 2) + 1 := by
  rcases Nat.lt_or_ge n 2 with h2 | h2
  · have : n = 1 := by omega
    subst this; decide
  · obtain ⟨s1, s2, s3⟩ := nb_spec (n := n / 2) (by omega)
    apply nb_unique
    · have : 2 ^ nb (n / 2) = 2 * 2 ^ (nb (n / 2) - 1) := by rw [← Nat.pow_succ', show (nb (n / 2) - 1).succ = nb (n / 2) by omega]
      omega
    · rw [Nat.pow_succ]; omega
theorem nb_top {lo top k : Nat} (hlo : lo < 2 ^ k) (ht : 0 < top) : nb (lo + 2 ^ k * top) = k + nb top := by
  obtain ⟨s1, s2, s3⟩ := nb_spec ht
  rw [show k + nb top = (k + (nb top - 1)) + 1 by omega]
  apply nb_unique
  · rw [Nat.pow_add]
    have := Nat.mul_le_mul_left (2 ^ k) s1
    omega
  · rw [show k + (nb top - 1) + 1 = k + nb top by omega, Nat.pow_add]
    have := Nat.mul_le_mul_left (2 ^ k) (show top + 1 ≤ 2 ^ nb top from s2)
    rw [Nat.mul_succ] at this
    omega
theorem nb_lim {a : Nat} (h : 0 < a) : nb a = 32 * ((lim a).length - 1) + nb ((lim a).getD ((lim a).length - 1) 0) := by
  have hp := lim_pos.2 h
  have e := nval_take_succ (l := lim a) (k := (lim a).length - 1) (by omega)
  rw [show (lim a).length - 1 + 1 = (lim a).length by omega, List.take_length, nval_lim] at e
  have hlt := nval_lt (l := (lim a).take ((lim a).length - 1)) (fun x hx => lim_lt a x (List.mem_of_mem_take hx))
  rw [List.length_take, Nat.min_eq_left (by omega)] at hlt
  have e2 : (4294967296 : Nat) ^ ((lim a).length - 1) = 2 ^ (32 * ((lim a).length - 1)) := by rw [Nat.pow_mul]
  rw [e2] at e hlt
  have hl := lim_last a h
  have := nb_top hlt (Nat.pos_of_ne_zero hl)
  rw [← e] at this
  exact this
/-- The bytes of a number, m of them, the highest first. -/
def byt (n : Nat) : Nat → List Nat
  | 0 => []
  | m + 1 => n / 256 ^ m % 256 :: byt n m
theorem byt_len (n m : Nat) : (byt n m).length = m := by induction m with | zero => rfl | succ m ih => simp [byt, ih]
theorem byt_get (n : Nat) : ∀ (m k : Nat), k < m → (byt n m).getD k 0 = n / 256 ^ (m - 1 - k) % 256
  | 0, k, h => by omega
  | m + 1, 0, h => by simp [byt]
  | m + 1, k + 1, h => by
    rw [byt, List.getD_cons_succ, byt_get n m k (by omega)]
    congr 3
    omega
theorem byt_lt (n m : Nat) : ∀ x ∈ byt n m, x < 256 := by
  induction m with
  | zero => intro x hx; cases hx
  | succ m ih =>
    intro x hx
    rw [byt] at hx
    rcases List.mem_cons.1 hx with rfl | hx
    · exact Nat.mod_lt _ (by omega)
    · exact ih x hx
theorem byt_getD_lt (n m k : Nat) : (byt n m).getD k 0 < 256 := by
  rcases Nat.lt_or_ge k m with h | h
  · rw [byt_get n m k h]; exact Nat.mod_lt _ (by omega)
  · simp [List.getElem?_eq_none (show (byt n m).length ≤ k by rw [byt_len]; exact h)]
theorem mod_step (n i : Nat) : n % 256 ^ (i + 1) = n % 256 ^ i + 256 ^ i * (n / 256 ^ i % 256) := by
  rw [Nat.pow_succ, Nat.mod_mul]
theorem nb_len (a : Nat) : nb a ≤ 32 * (lim a).length := by
  apply nb_le
  have := nval_lt (lim_lt a)
  rw [nval_lim] at this
  rw [Nat.pow_mul]
  exact this
/-- A byte of a number out of its limb. -/
theorem byte_lim (a k : Nat) : (lim a).getD (k / 4) 0 / 2 ^ (8 * (k % 4)) % 256 = a / 256 ^ k % 256 := by
  have hg : (lim a).getD (k / 4) 0 = a / 4294967296 ^ (k / 4) % 4294967296 := by
    rcases Nat.lt_or_ge (k / 4) (lim a).length with h | h
    · have e := nval_append ((lim a).take (k / 4)) ((lim a).drop (k / 4))
      rw [List.take_append_drop, nval_lim, List.length_take, Nat.min_eq_left (by omega)] at e
      have hlt := nval_lt (l := (lim a).take (k / 4)) (fun x hx => lim_lt a x (List.mem_of_mem_take hx))
      rw [List.length_take, Nat.min_eq_left (by omega)] at hlt
      have hd := nval_drop h
      have hx : (lim a).getD (k / 4) 0 < 4294967296 := by
        have := lim_lt a ((lim a)[k / 4]) (List.getElem_mem h); simpa [h] using this
      have h1 : (nval ((lim a).take (k / 4)) + 4294967296 ^ (k / 4) * nval ((lim a).drop (k / 4))) / 4294967296 ^ (k / 4) = nval ((lim a).drop (k / 4)) := by
        rw [Nat.add_mul_div_left _ _ (Nat.pow_pos (by omega)), Nat.div_eq_of_lt hlt, Nat.zero_add]
      rw [← e] at h1
      rw [h1, hd]
      omega
    · have : a < 4294967296 ^ (k / 4) := by
        have h1 := nval_lt (lim_lt a)
        rw [nval_lim] at h1
        exact Nat.lt_of_lt_of_le h1 (Nat.pow_le_pow_right (by omega) h)
      rw [Nat.div_eq_of_lt this]
      simp [List.getElem?_eq_none h]
  rw [hg]
  have e1 : (256 : Nat) ^ k = 4294967296 ^ (k / 4) * 2 ^ (8 * (k % 4)) := by
    have : k = 4 * (k / 4) + k % 4 := by omega
    conv => lhs; rw [this, Nat.pow_add, Nat.pow_mul]
    rw [Nat.pow_mul 2 8]
  rw [e1, ← Nat.div_div_eq_div_mul]
  generalize a / 4294967296 ^ (k / 4) = y
  have : k % 4 = 0 ∨ k % 4 = 1 ∨ k % 4 = 2 ∨ k % 4 = 3 := by omega
  rcases this with h | h | h | h <;> rw [h] <;> omega
theorem set_from_top {l : List Nat} {m k x : Nat} {f : Nat → Nat} (hl : l.length = m) (hk : k < m) (hv : ∀ j, j < k → l.getD (m - 1 - j) 0 = f j) (hx : x = f k := by rfl) : ∀ j, j < k + 1 → (l.set (m - 1 - k) x).getD (m - 1 - j) 0 = f j := by
  intro j hj
  by_cases e : j = k
  · subst e
    have : m - 1 - j < l.length := by omega
    simp [this, hx]
  · have hne : m - 1 - k ≠ m - 1 - j := by omega
    have := hv j (by omega)
    simp only [List.getD_eq_getElem?_getD] at this ⊢
    rw [List.getElem?_set_ne hne]; exact this
theorem eq_byt {l : List Nat} {n m : Nat} (hl : l.length = m) (hv : ∀ j, j < m → l.getD (m - 1 - j) 0 = n / 256 ^ j % 256) : l = byt n m := by
  apply List.ext_getElem
  · rw [byt_len, hl]
  · intro i h1 h2
    have hb := byt_get n m i (by omega)
    have := hv (m - 1 - i) (by omega)
    rw [show m - 1 - (m - 1 - i) = i by omega, ← hb] at this
    simpa [h1, h2] using this
/-- The limb j of a number whose k lowest bytes are struck out. -/
def lowL (n k j : Nat) : Nat := n / 256 ^ k * 256 ^ k / 4294967296 ^ j % 4294967296
theorem lowL_zero (n j : Nat) : lowL n 0 j = n / 4294967296 ^ j % 4294967296 := by unfold lowL; simp
theorem lowL_top {n k : Nat} (h : n < 256 ^ k) (j : Nat) : lowL n k j = 0 := by unfold lowL; rw [Nat.div_eq_of_lt h]; simp
theorem lowL_lt (n k j : Nat) : lowL n k j < 4294967296 := Nat.mod_lt _ (by omega)
theorem pow_split (k : Nat) : (256 : Nat) ^ k = 4294967296 ^ (k / 4) * 2 ^ (8 * (k % 4)) := by
  have : k = 4 * (k / 4) + k % 4 := by omega
  conv => lhs; rw [this, Nat.pow_add, Nat.pow_mul]
  rw [Nat.pow_mul 2 8]
/-- The limbs above the lowest of a number that is put up by limbs. -/
theorem limb_up (y q j : Nat) : y * 4294967296 ^ q / 4294967296 ^ j % 4294967296 = if j < q then 0 else y / 4294967296 ^ (j - q) % 4294967296 := by
  split
  · rename_i h
    have e : (4294967296 : Nat) ^ q = 4294967296 ^ j * (4294967296 ^ (q - j - 1) * 4294967296) := by
      rw [← Nat.pow_succ, ← Nat.pow_add]; congr 1; omega
    rw [e, ← Nat.mul_assoc, Nat.mul_comm y, Nat.mul_assoc, Nat.mul_div_cancel_left _ (Nat.pow_pos (by omega)), ← Nat.mul_assoc]
    exact Nat.mul_mod_left _ _
  · rename_i h
    have e : (4294967296 : Nat) ^ j = 4294967296 ^ q * 4294967296 ^ (j - q) := by rw [← Nat.pow_add]; congr 1; omega
    rw [e, ← Nat.div_div_eq_div_mul, Nat.mul_div_cancel _ (Nat.pow_pos (by omega))]
theorem limb_at (x b : Nat) (hb : b < 256) : ∀ r, r < 4 → (256 * x + b) * 2 ^ (8 * r) % 4294967296 = 256 * x * 2 ^ (8 * r) % 4294967296 + b * 2 ^ (8 * r) ∧ (256 * x + b) * 2 ^ (8 * r) / 4294967296 = 256 * x * 2 ^ (8 * r) / 4294967296 ∧ 256 * x * 2 ^ (8 * r) % 4294967296 % 2 ^ (8 * r + 8) = 0 ∧ b * 2 ^ (8 * r) < 4294967296 := by
  intro r hr
  have : r = 0 ∨ r = 1 ∨ r = 2 ∨ r = 3 := by omega
  rcases this with rfl | rfl | rfl | rfl <;> omega
theorem lowL_step (n k j : Nat) : lowL n k j = if j = k / 4 then lowL n (k + 1) j ||| (n / 256 ^ k % 256) * 2 ^ (8 * (k % 4)) else lowL n (k + 1) j := by
  have hx : n / 256 ^ k = 256 * (n / 256 ^ (k + 1)) + n / 256 ^ k % 256 := by
    rw [Nat.pow_succ, ← Nat.div_div_eq_div_mul]; omega
  have hb : n / 256 ^ k % 256 < 256 := Nat.mod_lt _ (by omega)
  have hp := pow_split k
  have hp1 : (256 : Nat) ^ (k + 1) = 4294967296 ^ (k / 4) * 2 ^ (8 * (k % 4)) * 256 := by rw [Nat.pow_succ, hp]
  obtain ⟨l1, l2, l3, l4⟩ := limb_at (n / 256 ^ (k + 1)) _ hb (k % 4) (by omega)
  unfold lowL
  generalize n / 256 ^ (k + 1) = x at *
  generalize hb2 : n / 256 ^ k % 256 = b at *
  rw [hx, hp, hp1]
  have e1 : (256 * x + b) * (4294967296 ^ (k / 4) * 2 ^ (8 * (k % 4))) = (256 * x + b) * 2 ^ (8 * (k % 4)) * 4294967296 ^ (k / 4) := by ac_rfl
  have e2 : x * (4294967296 ^ (k / 4) * 2 ^ (8 * (k % 4)) * 256) = 256 * x * 2 ^ (8 * (k % 4)) * 4294967296 ^ (k / 4) := by ac_rfl
  rw [e1, e2, limb_up, limb_up]
  by_cases h1 : j < k / 4
  · rw [if_pos h1, if_pos h1, if_neg (by omega)]
  · rw [if_neg h1, if_neg h1]
    by_cases h2 : j = k / 4
    · rw [if_pos h2, h2, Nat.sub_self, Nat.pow_zero, Nat.div_one, Nat.div_one, l1]
      obtain ⟨c, hc⟩ : ∃ c, 256 * x * 2 ^ (8 * (k % 4)) % 4294967296 = 2 ^ (8 * (k % 4) + 8) * c := ⟨_, (Nat.mul_div_cancel' (Nat.dvd_of_mod_eq_zero l3)).symm⟩
      rw [hc]
      have hlt : b * 2 ^ (8 * (k % 4)) < 2 ^ (8 * (k % 4) + 8) := by
        rw [Nat.pow_add, Nat.mul_comm]
        exact Nat.mul_lt_mul_of_pos_left hb (Nat.two_pow_pos _)
      exact Nat.two_pow_add_eq_or_of_lt hlt c
    · rw [if_neg h2]
      obtain ⟨d, hd⟩ : ∃ d, j - k / 4 = d + 1 := ⟨j - k / 4 - 1, by omega⟩
      have e3 : ∀ y : Nat, y / 4294967296 ^ (d + 1) = y / 4294967296 / 4294967296 ^ d := fun y => by rw [Nat.pow_succ', Nat.div_div_eq_div_mul]
      rw [hd, e3, e3, l2]
theorem nval_of_digits : ∀ (l : List Nat) (n : Nat), (∀ j, j < l.length → l.getD j 0 = n / 4294967296 ^ j % 4294967296) → n < 4294967296 ^ l.length → nval l = n
  | [], n, _, h => by simp at h; simp [nval, h]
  | x :: l, n, hd, h => by
    have h0 := hd 0 (by simp)
    simp at h0
    have ih := nval_of_digits l (n / 4294967296) (fun j hj => by
      have := hd (j + 1) (by simpa using hj)
      rw [List.getD_cons_succ, Nat.pow_succ', ← Nat.div_div_eq_div_mul] at this
      exact this) (Nat.div_lt_of_lt_mul (by rw [List.length_cons, Nat.pow_succ'] at h; exact h))
    rw [nval, ih, h0]
    omega
end Go.Proofs.YtokbipmfhfmnfaaGreatDoor
