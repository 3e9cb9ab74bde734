/- Numbers as rows of limbs, the lowest first. No program in sight. -/
namespace Go.Proofs.YtokbipmfhfmnfaaGreatDoor

def nval : List Nat → Nat
  | [] => 0
  | x :: l => x + 4294967296 * nval l
def limF : Nat → Nat → List Nat
  | 0, _ => []
  | f + 1, n => if n = 0 then [] else n % 4294967296 :: limF f (n / 4294967296)
/-- The limbs of a number. -/
def lim (n : Nat) : List Nat := limF n n
theorem limF_eq : ∀ (f g n : Nat), n ≤ f → n ≤ g → limF f n = limF g n
  | 0, g, n, hf, hg => by
    have : n = 0 := by omega
    subst this
    cases g <;> rfl
  | f + 1, 0, n, hf, hg => by
    have : n = 0 := by omega
    subst this
    rfl
  | f + 1, g + 1, n, hf, hg => by
    unfold limF
    split
    · rfl
    · rw [limF_eq f g (n / 4294967296) (by omega) (by omega)]
theorem lim_zero : lim 0 = [] := rfl
theorem lim_cons {n : Nat} (h : 0 < n) : lim n = n % 4294967296 :: lim (n / 4294967296) := by
  unfold lim
  obtain ⟨m, rfl⟩ : ∃ m, n = m + 1 := ⟨n - 1, by omega⟩
  rw [limF, if_neg (by omega)]
  rw [limF_eq m _ _ (by omega) (Nat.le_refl _)]
theorem lim_one {n : Nat} (h0 : 0 < n) (h : n < 4294967296) : lim n = [n] := by
  rw [lim_cons h0, Nat.mod_eq_of_lt h, Nat.div_eq_of_lt h, lim_zero]
theorem nval_lim (n : Nat) : nval (lim n) = n := by
  induction n using Nat.strongRecOn with
  | _ n ih =>
    rcases Nat.eq_zero_or_pos n with h | h
    · subst h; rfl
    · rw [lim_cons h, nval, ih (n / 4294967296) (by omega)]
      omega
theorem lim_lt (n : Nat) : ∀ x ∈ lim n, x < 4294967296 := by
  induction n using Nat.strongRecOn with
  | _ n ih =>
    rcases Nat.eq_zero_or_pos n with h | h
    · subst h; intro x hx; cases hx
    · rw [lim_cons h]
      intro x hx
      rcases List.mem_cons.1 hx with rfl | hx
      · omega
      · exact ih _ (by omega) x hx
theorem lim_pos {n : Nat} : 0 < (lim n).length ↔ 0 < n := by
  rcases Nat.eq_zero_or_pos n with h | h
  · subst h; simp [lim_zero]
  · rw [lim_cons h]; simp [h]
theorem lim_eq_nil {n : Nat} : lim n = [] ↔ n = 0 := by
  constructor
  · intro h; rcases Nat.eq_zero_or_pos n with h0 | h0; exact h0; rw [lim_cons h0] at h; cases h
  · rintro rfl; rfl
theorem lim_len_le {n k : Nat} (h : n < 4294967296 ^ k) : (lim n).length ≤ k := by
  induction k generalizing n with
  | zero => have : n = 0 := by simpa using h
            subst this; simp [lim_zero]
  | succ k ih =>
    rcases Nat.eq_zero_or_pos n with h0 | h0
    · subst h0; simp [lim_zero]
    · rw [lim_cons h0]
      have : n / 4294967296 < 4294967296 ^ k := Nat.div_lt_of_lt_mul (by rw [Nat.pow_succ, Nat.mul_comm] at h; exact h)
      have := ih this
      simp
      omega
/-- How much of a row stays when noughts at its end go. -/
def tl (l : List Nat) : Nat → Nat
  | 0 => 0
  | n + 1 => if l.getD n 0 = 0 then tl l n else n + 1
theorem tl_le (l : List Nat) : ∀ n, tl l n ≤ n
  | 0 => Nat.le_refl _
  | n + 1 => by unfold tl; split; exact Nat.le_succ_of_le (tl_le l n); exact Nat.le_refl _
theorem tl_at {l : List Nat} {n : Nat} (h : n = 0 ∨ l.getD (n - 1) 0 ≠ 0) : tl l n = n := by
  cases n with
  | zero => rfl
  | succ n => unfold tl; rw [if_neg]; rcases h with h | h; omega; exact h
theorem nval_append (a b : List Nat) : nval (a ++ b) = nval a + 4294967296 ^ a.length * nval b := by
  induction a with
  | nil => simp [nval]
  | cons x a ih =>
    simp only [List.cons_append, nval, ih, List.length_cons, Nat.pow_succ, Nat.mul_add]
    rw [← Nat.mul_assoc, Nat.mul_comm (4294967296 ^ a.length) 4294967296]
    omega
theorem nval_lt {l : List Nat} (h : ∀ x ∈ l, x < 4294967296) : nval l < 4294967296 ^ l.length := by
  induction l with
  | nil => simp [nval]
  | cons x l ih =>
    have h1 := h x (by simp)
    have h2 := ih (fun y hy => h y (by simp [hy]))
    simp only [nval, List.length_cons, Nat.pow_succ]
    omega
theorem tl_cons_zero (x : Nat) (l : List Nat) : ∀ n, tl l n = 0 → tl (x :: l) (n + 1) = if x = 0 then 0 else 1
  | 0, _ => by simp [tl]
  | n + 1, h => by
    unfold tl at h
    split at h
    · rename_i h0
      show tl (x :: l) (n + 2) = _
      unfold tl
      rw [if_pos (by simpa using h0)]
      exact tl_cons_zero x l n h
    · omega
theorem tl_succ (l : List Nat) (n : Nat) : tl l (n + 1) = if l.getD n 0 = 0 then tl l n else n + 1 := rfl
theorem tl_cons_pos (x : Nat) (l : List Nat) : ∀ n, 0 < tl l n → tl (x :: l) (n + 1) = tl l n + 1
  | 0, h => by simp [tl] at h
  | n + 1, h => by
    rw [tl_succ l n] at h ⊢
    rw [tl_succ (x :: l) (n + 1), List.getD_cons_succ]
    by_cases h0 : l.getD n 0 = 0
    · rw [if_pos h0] at h ⊢
      rw [if_pos h0]
      exact tl_cons_pos x l n h
    · rw [if_neg h0, if_neg h0]
theorem nval_zero_tl (l : List Nat) : nval l = 0 → tl l l.length = 0 := by
  intro h
  have key : ∀ n, n ≤ l.length → tl l n = 0 := by
    have hz : ∀ k, l.getD k 0 = 0 := by
      induction l with
      | nil => intro k; simp
      | cons x l ih =>
        simp only [nval] at h
        intro k
        cases k with
        | zero => simp; omega
        | succ k => simpa using ih (by omega) k
    intro n
    induction n with
    | zero => intro _; rfl
    | succ n ih => intro hn; unfold tl; rw [if_pos (hz n)]; exact ih (by omega)
  exact key _ (Nat.le_refl _)
theorem lim_nval {l : List Nat} (h : ∀ x ∈ l, x < 4294967296) : lim (nval l) = l.take (tl l l.length) := by
  induction l with
  | nil => rfl
  | cons x l ih =>
    have h1 := h x (by simp)
    have ih' := ih (fun y hy => h y (by simp [hy]))
    rcases Nat.eq_zero_or_pos (nval (x :: l)) with h0 | h0
    · rw [h0, lim_zero, nval_zero_tl _ h0]; rfl
    · rw [lim_cons h0]
      have e1 : nval (x :: l) % 4294967296 = x := by simp only [nval]; omega
      have e2 : nval (x :: l) / 4294967296 = nval l := by simp only [nval]; omega
      rw [e1, e2, ih']
      rcases Nat.eq_zero_or_pos (tl l l.length) with ht | ht
      · have hx : x ≠ 0 := by
          intro hx
          have : lim (nval l) = [] := by rw [ih', ht]; rfl
          have := lim_eq_nil.1 this
          simp only [nval] at h0
          omega
        rw [List.length_cons, tl_cons_zero x l _ ht, if_neg hx, ht]; rfl
      · rw [List.length_cons, tl_cons_pos x l _ ht]; rfl
theorem lim_nval_len {l : List Nat} (h : ∀ x ∈ l, x < 4294967296) : (lim (nval l)).length = tl l l.length := by
  rw [lim_nval h, List.length_take]
  have := tl_le l l.length
  omega
/-- A row whose last limb is no nought is the row of its number. -/
theorem lim_unique {l : List Nat} (h : ∀ x ∈ l, x < 4294967296) (hl : l = [] ∨ l.getD (l.length - 1) 0 ≠ 0) : lim (nval l) = l := by
  rw [lim_nval h]
  rw [tl_at]
  · exact List.take_length
  · rcases hl with h0 | h0
    · left; rw [h0]; rfl
    · right; exact h0
theorem lim_last (n : Nat) (h : 0 < n) : (lim n).getD ((lim n).length - 1) 0 ≠ 0 := by
  induction n using Nat.strongRecOn with
  | _ n ih =>
    rw [lim_cons h]
    rcases Nat.eq_zero_or_pos (n / 4294967296) with h0 | h0
    · rw [h0, lim_zero]; simp; omega
    · have := ih (n / 4294967296) (by omega) h0
      have hp := lim_pos.2 h0
      rw [List.length_cons, show (lim (n / 4294967296)).length + 1 - 1 = ((lim (n / 4294967296)).length - 1) + 1 by omega, List.getD_cons_succ]
      exact this
theorem nval_take_succ {l : List Nat} {k : Nat} (h : k < l.length) : nval (l.take (k + 1)) = nval (l.take k) + 4294967296 ^ k * l.getD k 0 := by
  have e : l.take (k + 1) = l.take k ++ [l.getD k 0] := by
    rw [List.take_add_one]; simp [h]
  rw [e, nval_append, List.length_take, Nat.min_eq_left (by omega)]
  show nval (l.take k) + 4294967296 ^ k * (l.getD k 0 + 4294967296 * 0) = _
  rw [Nat.mul_zero, Nat.add_zero]
theorem nval_drop {l : List Nat} {k : Nat} (h : k < l.length) : nval (l.drop k) = l.getD k 0 + 4294967296 * nval (l.drop (k + 1)) := by
  rw [List.drop_eq_getElem_cons h]
  simp [nval, h]
end Go.Proofs.YtokbipmfhfmnfaaGreatDoor
