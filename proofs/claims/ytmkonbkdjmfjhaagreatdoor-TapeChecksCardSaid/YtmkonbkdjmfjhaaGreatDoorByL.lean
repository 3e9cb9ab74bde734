/- Numbers as rows of bytes, the highest first. No program in sight. -/
namespace Go.Proofs.YtmkonbkdjmfjhaaGreatDoor

def nval : List Nat → Nat
  | [] => 0
  | x :: l => x + 4294967296 * nval l
def limF : Nat → Nat → List Nat
  | 0, _ => []
  | f + 1, n => if n = 0 then [] else n % 4294967296 :: limF f (n / 4294967296)
/-- The limbs of a number. -/
def lim (n : Nat) : List Nat := limF n n
theorem limF_eq : ∀ (f g n : Nat), n ≤ f → n ≤ g → limF f n = limF g n
  | 0, g, n, hf, hg => by
    have : n = 0 := by omega
    subst this
    cases g <;> rfl
  | f + 1, 0, n, hf, hg => by
    have : n = 0 := by omega
    subst this
    rfl
  | f + 1, g + 1, n, hf, hg => by
    unfold limF
    split
    · rfl
    · rw [limF_eq f g (n / 4294967296) (by omega) (by omega)]
theorem lim_zero : lim 0 = [] := rfl
theorem lim_cons {n : Nat} (h : 0 < n) : lim n = n % 4294967296 :: lim (n / 4294967296) := by
  unfold lim
  obtain ⟨m, rfl⟩ : ∃ m, n = m + 1 := ⟨n - 1, by omega⟩
  rw [limF, if_neg (by omega)]
  rw [limF_eq m _ _ (by omega) (Nat.le_refl _)]
theorem lim_one {n : Nat} (h0 : 0 < n) (h : n < 4294967296) : lim n = [n] := by
  rw [lim_cons h0, Nat.mod_eq_of_lt h, Nat.div_eq_of_lt h, lim_zero]
theorem nval_lim (n : Nat) : nval (lim n) = n := by
  induction n using Nat.strongRecOn with
  | _ n ih =>
    rcases Nat.eq_zero_or_pos n with h | h
    · subst h; rfl
    · rw [lim_cons h, nval, ih (n / 4294967296) (by omega)]
      omega
theorem lim_lt (n : Nat) : ∀ x ∈ lim n, x < 4294967296 := by
  induction n using Nat.strongRecOn with
  | _ n ih =>
    rcases Nat.eq_zero_or_pos n with h | h
    · subst h; intro x hx; cases hx
    · rw [lim_cons h]
      intro x hx
      rcases List.mem_cons.1 hx with rfl | hx
      · omega
      · exact ih _ (by omega) x hx
theorem lim_pos {n : Nat} : 0 < (lim n).length ↔ 0 < n := by
  rcases Nat.eq_zero_or_pos n with h | h
  · subst h; simp [lim_zero]
  · rw [lim_cons h]; simp [h]
theorem lim_eq_nil {n : Nat} : lim n = [] ↔ n = 0 := by
  constructor
  · intro h; rcases Nat.eq_zero_or_pos n with h0 | h0; exact h0; rw [lim_cons h0] at h; cases h
  · rintro rfl; rfl
theorem lim_len_le {n k : Nat} (h : n < 4294967296 ^ k) : (lim n).length ≤ k := by
  induction k generalizing n with
  | zero => have : n = 0 := by simpa using h
            subst this; simp [lim_zero]
  | succ k ih =>
    rcases Nat.eq_zero_or_pos n with h0 | h0
    · subst h0; simp [lim_zero]
    · rw [lim_cons h0]
      have : n / 4294967296 < 4294967296 ^ k := Nat.div_lt_of_lt_mul (by rw [Nat.pow_succ, Nat.mul_comm] at h; exact h)
      have := ih this
      simp
      omega
/-- How much of a row stays when noughts at its end go. -/
def tl (l : List Nat) : Nat → Nat
  | 0 => 0
  | n + 1 => if l.getD n 0 = 0 then tl l n else n + 1
theorem tl_le (l : List Nat) : ∀ n, tl l n ≤ n
  | 0 => Nat.le_refl _
  | n + 1 => by unfold tl; split; exact Nat.le_succ_of_le (tl_le l n); exact Nat.le_refl _
theorem tl_at {l : List Nat} {n : Nat} (h : n = 0 ∨ l.getD (n - 1) 0 ≠ 0) : tl l n = n := by
  cases n with
  | zero => rfl
  | succ n => unfold tl; rw [if_neg]; rcases h with h | h; omega; exact h
theorem nval_append (a b : List Nat) : nval (a ++ b) = nval a + 4294967296 ^ a.length * nval b := by
  induction a with
  | nil => simp [nval]
  | cons x a ih =>
    simp only [List.cons_append, nval, ih, List.length_cons, Nat.pow_succ, Nat.mul_add]
    rw [← Nat.mul_assoc, Nat.mul_comm (4294967296 ^ a.length) 4294967296]
    omega
theorem nval_lt {l : List Nat} (h : ∀ x ∈ l, x < 4294967296) : nval l < 4294967296 ^ l.length := by
  induction l with
  | nil => simp [nval]
  | cons x l ih =>
    have h1 := h x (by simp)
    have h2 := ih (fun y hy => h y (by simp [hy]))
    simp only [nval, List.length_cons, Nat.pow_succ]
    omega
theorem tl_cons_zero (x : Nat) (l : List Nat) : ∀ n, tl l n = 0 → tl (x :: l) (n + 1) = if x = 0 then 0 else 1
  | 0, _ => by simp [tl]
  | n + 1, h => by
    unfold tl at h
    split at h
    · rename_i h0
      show tl (x :: l) (n + 2) = _
      unfold tl
      rw [if_pos (by simpa using h0)]
      exact tl_cons_zero x l n h
    · omega
theorem tl_succ (l : List Nat) (n : Nat) : tl l (n + 1) = if l.getD n 0 = 0 then tl l n else n + 1 := rfl
theorem tl_cons_pos (x : Nat) (l : List Nat) : ∀ n, 0 < tl l n → tl (x :: l) (n + 1) = tl l n + 1
  | 0, h => by simp [tl] at h
  | n + 1, h => by
    rw [tl_succ l n] at h ⊢
    rw [tl_succ (x :: l) (n + 1), List.getD_cons_succ]
    by_cases h0 : l.getD n 0 = 0
    · rw [if_pos h0] at h ⊢
      rw [if_pos h0]
      exact tl_cons_pos x l n h
    · rw [if_neg h0, if_neg h0]
theorem nval_zero_tl (l : List Nat) : nval l = 0 → tl l l.length = 0 := by
  intro h
  have key : ∀ n, n ≤ l.length → tl l n = 0 := by
    have hz : ∀ k, l.getD k 0 = 0 := by
      induction l with
      | nil => intro k; simp
      | cons x l ih =>
        simp only [nval] at h
        intro k
        cases k with
        | zero => simp; omega
        | succ k => simpa using ih (by omega) k
    intro n
    induction n with
    | zero => intro _; rfl
    | succ n ih => intro hn; unfold tl; rw [if_pos (hz n)]; exact ih (by omega)
  exact key _ (Nat.le_refl _)
theorem lim_nval {l : List Nat} (h : ∀ x ∈ l, x < 4294967296) : lim (nval l) = l.take (tl l l.length) := by
  induction l with
  | nil => rfl
  | cons x l ih =>
    have h1 := h x (by simp)
    have ih' := ih (fun y hy => h y (by simp [hy]))
    rcases Nat.eq_zero_or_pos (nval (x :: l)) with h0 | h0
    · rw [h0, lim_zero, nval_zero_tl _ h0]; rfl
    · rw [lim_cons h0]
      have e1 : nval (x :: l) % 4294967296 = x := by simp only [nval]; omega
      have e2 : nval (x :: l) / 4294967296 = nval l := by simp only [nval]; omega
      rw [e1, e2, ih']
      rcases Nat.eq_zero_or_pos (tl l l.length) with ht | ht
      · have hx : x ≠ 0 := by
          intro hx
          have : lim (nval l) = [] := by rw [ih', ht]; rfl
          have := lim_eq_nil.1 this
          simp only [nval] at h0
          omega
        rw [List.length_cons, tl_cons_zero x l _ ht, if_neg hx, ht]; rfl
      · rw [List.length_cons, tl_cons_pos x l _ ht]; rfl
theorem lim_nval_len {l : List Nat} (h : ∀ x ∈ l, x < 4294967296) : (lim (nval l)).length = tl l l.length := by
  rw [lim_nval h, List.length_take]
  have := tl_le l l.length
  omega
/-- A row whose last limb is no nought is the row of its number. -/
theorem lim_unique {l : List Nat} (h : ∀ x ∈ l, x < 4294967296) (hl : l = [] ∨ l.getD (l.length - 1) 0 ≠ 0) : lim (nval l) = l := by
  rw [lim_nval h]
  rw [tl_at]
  · exact List.take_length
  · rcases hl with h0 | h0
    · left; rw [h0]; rfl
    · right; exact h0
theorem lim_last (n : Nat) (h : 0 < n) : (lim n).getD ((lim n).length - 1) 0 ≠ 0 := by
  induction n using Nat.strongRecOn with
  | _ n ih =>
    rw [lim_cons h]
    rcases Nat.eq_zero_or_pos (n / 4294967296) with h0 | h0
    · rw [h0, lim_zero]; simp; omega
    · have := ih (n / 4294967296) (by omega) h0
      have hp := lim_pos.2 h0
      rw [List.length_cons, show (lim (n / 4294967296)).length + 1 - 1 = ((lim (n / 4294967296)).length - 1) + 1 by omega, List.getD_cons_succ]
      exact this
theorem nval_take_succ {l : List Nat} {k : Nat} (h : k < l.length) : nval (l.take (k + 1)) = nval (l.take k) + 4294967296 ^ k * l.getD k 0 := by
  have e : l.take (k + 1) = l.take k ++ [l.getD k 0] := by
    rw [List.take_add_one]; simp [h]
  rw [e, nval_append, List.length_take, Nat.min_eq_left (by omega)]
  show nval (l.take k) + 4294967296 ^ k * (l.getD k 0 + 4294967296 * 0) = _
  rw [Nat.mul_zero, Nat.add_zero]
theorem nval_drop {l : List Nat} {k : Nat} (h : k < l.length) : nval (l.drop k) = l.getD k 0 + 4294967296 * nval (l.drop (k + 1)) := by
  rw [List.drop_eq_getElem_cons h]
  simp [nval, h]
end Go.Proofs.YtmkonbkdjmfjhaaGreatDoor

namespace Go.Proofs.YtmkonbkdjmfjhaaGreatDoor

/-- How many bits. -/
def nb (n : Nat) : Nat := if n = 0 then 0 else Nat.log2 n + 1
theorem nb_zero : nb 0 = 0 := rfl
theorem nb_spec {n : Nat} (h : 0 < n) : 2 ^ (nb n - 1) ≤ n ∧ n < 2 ^ nb n ∧ 0 < nb n := by
  unfold nb
  rw [if_neg (by omega)]
  have := (Nat.log2_eq_iff (n := n) (k := n.log2) (by omega)).1 rfl
  exact ⟨this.1, this.2, by omega⟩
theorem nb_unique {n k : Nat} (h1 : 2 ^ k ≤ n) (h2 : n < 2 ^ (k + 1)) : nb n = k + 1 := by
  have hp : 0 < 2 ^ k := Nat.two_pow_pos k
  unfold nb
  rw [if_neg (by omega), (Nat.log2_eq_iff (by omega)).2 ⟨h1, h2⟩]
theorem lt_nb (n : Nat) : n < 2 ^ nb n := by
  rcases Nat.eq_zero_or_pos n with h | h
  · subst h; simp [nb]
  · exact (nb_spec h).2.1
theorem nb_le {n k : Nat} (h : n < 2 ^ k) : nb n ≤ k := by
  rcases Nat.eq_zero_or_pos n with h0 | h0
  · subst h0; simp [nb]
  · have := nb_spec h0
    rcases Nat.lt_or_ge k (nb n) with hl | hl
    · have : 2 ^ k ≤ 2 ^ (nb n - 1) := Nat.pow_le_pow_right (by omega) (by omega)
      omega
    · exact hl
theorem nb_half {n : Nat} (h : 0 < n) : nb n = nb (n / 2) + 1 := by
  rcases Nat.lt_or_ge n 2 with h2 | h2
  · have : n = 1 := by omega
    subst this; decide
  · obtain ⟨s1, s2, s3⟩ := nb_spec (n := n / 2) (by omega)
    apply nb_unique
    · have : 2 ^ nb (n / 2) = 2 * 2 ^ (nb (n / 2) - 1) := by rw [← Nat.pow_succ', show (nb (n / 2) - 1).succ = nb (n / 2) by omega]
      omega
    · rw [Nat.pow_succ]; omega
theorem nb_top {lo top k : Nat} (hlo : lo < 2 ^ k) (ht : 0 < top) : nb (lo + 2 ^ k * top) = k + nb top := by
  obtain ⟨s1, s2, s3⟩ := nb_spec ht
  rw [show k + nb top = (k + (nb top - 1)) + 1 by omega]
  apply nb_unique
  · rw [Nat.pow_add]
    have := Nat.mul_le_mul_left (2 ^ k) s1
    omega
  · rw [show k + (nb top - 1) + 1 = k + nb top by omega, Nat.pow_add]
    have := Nat.mul_le_mul_left (2 ^ k) (show top + 1 ≤ 2 ^ nb top from s2)
    rw [Nat.mul_succ] at this
    omega
theorem nb_lim {a : Nat} (h : 0 < a) : nb a = 32 * ((lim a).length - 1) + nb ((lim a).getD ((lim a).length - 1) 0) := by
  have hp := lim_pos.2 h
  have e := nval_take_succ (l := lim a) (k := (lim a).length - 1) (by omega)
  rw [show (lim a).length - 1 + 1 = (lim a).length by omega, List.take_length, nval_lim] at e
  have hlt := nval_lt (l := (lim a).take ((lim a).length - 1)) (fun x hx => lim_lt a x (List.mem_of_mem_take hx))
  rw [List.length_take, Nat.min_eq_left (by omega)] at hlt
  have e2 : (4294967296 : Nat) ^ ((lim a).length - 1) = 2 ^ (32 * ((lim a).length - 1)) := by rw [Nat.pow_mul]
  rw [e2] at e hlt
  have hl := lim_last a h
  have := nb_top hlt (Nat.pos_of_ne_zero hl)
  rw [← e] at this
  exact this
/-- The bytes of a number, m of them, the highest first. -/
def byt (n : Nat) : Nat → List Nat
  | 0 => []
  | m + 1 => n / 256 ^ m % 256 :: byt n m
theorem byt_len (n m : Nat) : (byt n m).length = m := by induction m with | zero => rfl | succ m ih => simp [byt, ih]
theorem byt_get (n : Nat) : ∀ (m k : Nat), k < m → (byt n m).getD k 0 = n / 256 ^ (m - 1 - k) % 256
  | 0, k, h => by omega
  | m + 1, 0, h => by simp [byt]
  | m + 1, k + 1, h => by
    rw [byt, List.getD_cons_succ, byt_get n m k (by omega)]
    congr 3
    omega
theorem byt_lt (n m : Nat) : ∀ x ∈ byt n m, x < 256 := by
  induction m with
  | zero => intro x hx; cases hx
  | succ m ih =>
    intro x hx
    rw [byt] at hx
    rcases List.mem_cons.1 hx with rfl | hx
    · exact Nat.mod_lt _ (by omega)
    · exact ih x hx
theorem byt_getD_lt (n m k : Nat) : (byt n m).getD k 0 < 256 := by
  rcases Nat.lt_or_ge k m with h | h
  · rw [byt_get n m k h]; exact Nat.mod_lt _ (by omega)
  · simp [List.getElem?_eq_none (show (byt n m).length ≤ k by rw [byt_len]; exact h)]
theorem mod_step (n i : Nat) : n % 256 ^ (i + 1) = n % 256 ^ i + 256 ^ i * (n / 256 ^ i % 256) := by
  rw [Nat.pow_succ, Nat.mod_mul]
theorem nb_len (a : Nat) : nb a ≤ 32 * (lim a).length := by
  apply nb_le
  have := nval_lt (lim_lt a)
  rw [nval_lim] at this
  rw [Nat.pow_mul]
  exact this
/-- A byte of a number out of its limb. -/
theorem byte_lim (a k : Nat) : (lim a).getD (k / 4) 0 / 2 ^ (8 * (k % 4)) % 256 = a / 256 ^ k % 256 := by
  have hg : (lim a).getD (k / 4) 0 = a / 4294967296 ^ (k / 4) % 4294967296 := by
    rcases Nat.lt_or_ge (k / 4) (lim a).length with h | h
    · have e := nval_append ((lim a).take (k / 4)) ((lim a).drop (k / 4))
      rw [List.take_append_drop, nval_lim, List.length_take, Nat.min_eq_left (by omega)] at e
      have hlt := nval_lt (l := (lim a).take (k / 4)) (fun x hx => lim_lt a x (List.mem_of_mem_take hx))
      rw [List.length_take, Nat.min_eq_left (by omega)] at hlt
      have hd := nval_drop h
      have hx : (lim a).getD (k / 4) 0 < 4294967296 := by
        have := lim_lt a ((lim a)[k / 4]) (List.getElem_mem h); simpa [h] using this
      have h1 : (nval ((lim a).take (k / 4)) + 4294967296 ^ (k / 4) * nval ((lim a).drop (k / 4))) / 4294967296 ^ (k / 4) = nval ((lim a).drop (k / 4)) := by
        rw [Nat.add_mul_div_left _ _ (Nat.pow_pos (by omega)), Nat.div_eq_of_lt hlt, Nat.zero_add]
      rw [← e] at h1
      rw [h1, hd]
      omega
    · have : a < 4294967296 ^ (k / 4) := by
        have h1 := nval_lt (lim_lt a)
        rw [nval_lim] at h1
        exact Nat.lt_of_lt_of_le h1 (Nat.pow_le_pow_right (by omega) h)
      rw [Nat.div_eq_of_lt this]
      simp [List.getElem?_eq_none h]
  rw [hg]
  have e1 : (256 : Nat) ^ k = 4294967296 ^ (k / 4) * 2 ^ (8 * (k % 4)) := by
    have : k = 4 * (k / 4) + k % 4 := by omega
    conv => lhs; rw [this, Nat.pow_add, Nat.pow_mul]
    rw [Nat.pow_mul 2 8]
  rw [e1, ← Nat.div_div_eq_div_mul]
  generalize a / 4294967296 ^ (k / 4) = y
  have : k % 4 = 0 ∨ k % 4 = 1 ∨ k % 4 = 2 ∨ k % 4 = 3 := by omega
  rcases this with h | h | h | h <;> rw [h] <;> omega
theorem set_from_top {l : List Nat} {m k x : Nat} {f : Nat → Nat} (hl : l.length = m) (hk : k < m) (hv : ∀ j, j < k → l.getD (m - 1 - j) 0 = f j) (hx : x = f k := by rfl) : ∀ j, j < k + 1 → (l.set (m - 1 - k) x).getD (m - 1 - j) 0 = f j := by
  intro j hj
  by_cases e : j = k
  · subst e
    have : m - 1 - j < l.length := by omega
    simp [this, hx]
  · have hne : m - 1 - k ≠ m - 1 - j := by omega
    have := hv j (by omega)
    simp only [List.getD_eq_getElem?_getD] at this ⊢
    rw [List.getElem?_set_ne hne]; exact this
theorem eq_byt {l : List Nat} {n m : Nat} (hl : l.length = m) (hv : ∀ j, j < m → l.getD (m - 1 - j) 0 = n / 256 ^ j % 256) : l = byt n m := by
  apply List.ext_getElem
  · rw [byt_len, hl]
  · intro i h1 h2
    have hb := byt_get n m i (by omega)
    have := hv (m - 1 - i) (by omega)
    rw [show m - 1 - (m - 1 - i) = i by omega, ← hb] at this
    simpa [h1, h2] using this
/-- The limb j of a number whose k lowest bytes are struck out. -/
def lowL (n k j : Nat) : Nat := n / 256 ^ k * 256 ^ k / 4294967296 ^ j % 4294967296
theorem lowL_zero (n j : Nat) : lowL n 0 j = n / 4294967296 ^ j % 4294967296 := by unfold lowL; simp
theorem lowL_top {n k : Nat} (h : n < 256 ^ k) (j : Nat) : lowL n k j = 0 := by unfold lowL; rw [Nat.div_eq_of_lt h]; simp
theorem lowL_lt (n k j : Nat) : lowL n k j < 4294967296 := Nat.mod_lt _ (by omega)
theorem pow_split (k : Nat) : (256 : Nat) ^ k = 4294967296 ^ (k / 4) * 2 ^ (8 * (k % 4)) := by
  have : k = 4 * (k / 4) + k % 4 := by omega
  conv => lhs; rw [this, Nat.pow_add, Nat.pow_mul]
  rw [Nat.pow_mul 2 8]
/-- The limbs above the lowest of a number that is put up by limbs. -/
theorem limb_up (y q j : Nat) : y * 4294967296 ^ q / 4294967296 ^ j % 4294967296 = if j < q then 0 else y / 4294967296 ^ (j - q) % 4294967296 := by
  split
  · rename_i h
    have e : (4294967296 : Nat) ^ q = 4294967296 ^ j * (4294967296 ^ (q - j - 1) * 4294967296) := by
      rw [← Nat.pow_succ, ← Nat.pow_add]; congr 1; omega
    rw [e, ← Nat.mul_assoc, Nat.mul_comm y, Nat.mul_assoc, Nat.mul_div_cancel_left _ (Nat.pow_pos (by omega)), ← Nat.mul_assoc]
    exact Nat.mul_mod_left _ _
  · rename_i h
    have e : (4294967296 : Nat) ^ j = 4294967296 ^ q * 4294967296 ^ (j - q) := by rw [← Nat.pow_add]; congr 1; omega
    rw [e, ← Nat.div_div_eq_div_mul, Nat.mul_div_cancel _ (Nat.pow_pos (by omega))]
theorem limb_at (x b : Nat) (hb : b < 256) : ∀ r, r < 4 → (256 * x + b) * 2 ^ (8 * r) % 4294967296 = 256 * x * 2 ^ (8 * r) % 4294967296 + b * 2 ^ (8 * r) ∧ (256 * x + b) * 2 ^ (8 * r) / 4294967296 = 256 * x * 2 ^ (8 * r) / 4294967296 ∧ 256 * x * 2 ^ (8 * r) % 4294967296 % 2 ^ (8 * r + 8) = 0 ∧ b * 2 ^ (8 * r) < 4294967296 := by
  intro r hr
  have : r = 0 ∨ r = 1 ∨ r = 2 ∨ r = 3 := by omega
  rcases this with rfl | rfl | rfl | rfl <;> omega
theorem lowL_step (n k j : Nat) : lowL n k j = if j = k / 4 then lowL n (k + 1) j ||| (n / 256 ^ k % 256) * 2 ^ (8 * (k % 4)) else lowL n (k + 1) j := by
  have hx : n / 256 ^ k = 256 * (n / 256 ^ (k + 1)) + n / 256 ^ k % 256 := by
    rw [Nat.pow_succ, ← Nat.div_div_eq_div_mul]; omega
  have hb : n / 256 ^ k % 256 < 256 := Nat.mod_lt _ (by omega)
  have hp := pow_split k
  have hp1 : (256 : Nat) ^ (k + 1) = 4294967296 ^ (k / 4) * 2 ^ (8 * (k % 4)) * 256 := by rw [Nat.pow_succ, hp]
  obtain ⟨l1, l2, l3, l4⟩ := limb_at (n / 256 ^ (k + 1)) _ hb (k % 4) (by omega)
  unfold lowL
  generalize n / 256 ^ (k + 1) = x at *
  generalize hb2 : n / 256 ^ k % 256 = b at *
  rw [hx, hp, hp1]
  have e1 : (256 * x + b) * (4294967296 ^ (k / 4) * 2 ^ (8 * (k % 4))) = (256 * x + b) * 2 ^ (8 * (k % 4)) * 4294967296 ^ (k / 4) := by ac_rfl
  have e2 : x * (4294967296 ^ (k / 4) * 2 ^ (8 * (k % 4)) * 256) = 256 * x * 2 ^ (8 * (k % 4)) * 4294967296 ^ (k / 4) := by ac_rfl
  rw [e1, e2, limb_up, limb_up]
  by_cases h1 : j < k / 4
  · rw [if_pos h1, if_pos h1, if_neg (by omega)]
  · rw [if_neg h1, if_neg h1]
    by_cases h2 : j = k / 4
    · rw [if_pos h2, h2, Nat.sub_self, Nat.pow_zero, Nat.div_one, Nat.div_one, l1]
      obtain ⟨c, hc⟩ : ∃ c, 256 * x * 2 ^ (8 * (k % 4)) % 4294967296 = 2 ^ (8 * (k % 4) + 8) * c := ⟨_, (Nat.mul_div_cancel' (Nat.dvd_of_mod_eq_zero l3)).symm⟩
      rw [hc]
      have hlt : b * 2 ^ (8 * (k % 4)) < 2 ^ (8 * (k % 4) + 8) := by
        rw [Nat.pow_add, Nat.mul_comm]
        exact Nat.mul_lt_mul_of_pos_left hb (Nat.two_pow_pos _)
      exact Nat.two_pow_add_eq_or_of_lt hlt c
    · rw [if_neg h2]
      obtain ⟨d, hd⟩ : ∃ d, j - k / 4 = d + 1 := ⟨j - k / 4 - 1, by omega⟩
      have e3 : ∀ y : Nat, y / 4294967296 ^ (d + 1) = y / 4294967296 / 4294967296 ^ d := fun y => by rw [Nat.pow_succ', Nat.div_div_eq_div_mul]
      rw [hd, e3, e3, l2]
theorem nval_of_digits : ∀ (l : List Nat) (n : Nat), (∀ j, j < l.length → l.getD j 0 = n / 4294967296 ^ j % 4294967296) → n < 4294967296 ^ l.length → nval l = n
  | [], n, _, h => by simp at h; simp [nval, h]
  | x :: l, n, hd, h => by
    have h0 := hd 0 (by simp)
    simp at h0
    have ih := nval_of_digits l (n / 4294967296) (fun j hj => by
      have := hd (j + 1) (by simpa using hj)
      rw [List.getD_cons_succ, Nat.pow_succ', ← Nat.div_div_eq_div_mul] at this
      exact this) (Nat.div_lt_of_lt_mul (by rw [List.length_cons, Nat.pow_succ'] at h; exact h))
    rw [nval, ih, h0]
    omega
end Go.Proofs.YtmkonbkdjmfjhaaGreatDoor
