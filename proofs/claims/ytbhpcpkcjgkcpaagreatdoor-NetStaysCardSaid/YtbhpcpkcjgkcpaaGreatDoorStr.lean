/- Plain laws on nets of straight layers: the numbers stay small; the middle of rows goes to the middle of the answers. -/
import Derived.Test.YtbhpcpkcjgkcpaaGreatDoorKnA
namespace Go.Proofs.YtbhpcpkcjgkcpaaGreatDoor
open Go.RowKit

/-- q is z/D, z not beyond N. -/
def Bd (N D : Nat) (q : Rat) : Prop := ∃ z : Int, q = mkRat z D ∧ z.natAbs ≤ N
theorem Bd.zero {N D : Nat} : Bd N D 0 := ⟨0, by simp, by simp⟩
theorem Bd.scale {N D : Nat} {q : Rat} (h : Bd N D q) (k : Nat) (hk : k ≠ 0) : Bd (N * k) (D * k) q := by
  obtain ⟨z, rfl, hz⟩ := h
  exact ⟨z * k, (Rat.mkRat_mul_right hk).symm, by rw [Int.natAbs_mul]; simpa using Nat.mul_le_mul_right k hz⟩
theorem Bd.weak {N N' D : Nat} {q : Rat} (h : Bd N D q) (hN : N ≤ N') : Bd N' D q := by
  obtain ⟨z, e, hz⟩ := h; exact ⟨z, e, Nat.le_trans hz hN⟩
theorem Bd.mul {N D M E : Nat} {a b : Rat} (ha : Bd N D a) (hb : Bd M E b) : Bd (N * M) (D * E) (a * b) := by
  obtain ⟨x, rfl, hx⟩ := ha
  obtain ⟨y, rfl, hy⟩ := hb
  exact ⟨x * y, Rat.mkRat_mul_mkRat _ _ _ _, by rw [Int.natAbs_mul]; exact Nat.mul_le_mul hx hy⟩
theorem Bd.add {N M D : Nat} (hD : D ≠ 0) {a b : Rat} (ha : Bd N D a) (hb : Bd M D b) : Bd (N + M) D (a + b) := by
  obtain ⟨x, rfl, hx⟩ := ha
  obtain ⟨y, rfl, hy⟩ := hb
  refine ⟨x + y, ?_, by omega⟩
  rw [Rat.mkRat_add_mkRat _ _ hD hD, ← Int.add_mul, Rat.mkRat_mul_right hD]
theorem Bd.sm {N D : Nat} {q : Rat} (h : Bd N D q) (hD : D ≠ 0) (h1 : N < 2147483648) (h2 : D < 2147483648) : Sm q := by
  obtain ⟨z, rfl, hz⟩ := h
  obtain ⟨m, hm, e1, e2⟩ := Rat.mkRat_num_den (n := z) (d := D) (n' := (mkRat z D).num) (d' := (mkRat z D).den) (z' := (mkRat z D).den_nz) (c := (mkRat z D).reduced) hD rfl
  have hn : (mkRat z D).num.natAbs ≤ z.natAbs := by
    have : z.natAbs = (mkRat z D).num.natAbs * m := by
      have := congrArg Int.natAbs e1
      rw [Int.natAbs_mul] at this
      simpa using this
    rw [this]
    exact Nat.le_mul_of_pos_right _ (by omega)
  have hd : (mkRat z D).den ≤ D := by
    rw [e2]
    have : (mkRat z D).den * m = D := e2.symm
    rw [this]
    calc (mkRat z D).den ≤ (mkRat z D).den * m := Nat.le_mul_of_pos_right _ (by omega)
      _ = D := this
  exact ⟨by unfold iabs; omega, by omega⟩
theorem bd_small (z : Int) : Bd 8 2 (smallq z) := by
  unfold smallq
  have h1 := pick_lt z 9 (by omega)
  have h2 := pick_lt (z.tdiv 9) 2 (by omega)
  have : pick (z.tdiv 9) 2 = 0 ∨ pick (z.tdiv 9) 2 = 1 := by omega
  rcases this with e | e <;> rw [e]
  · exact Bd.scale (N := 4) (D := 1) ⟨_, rfl, by omega⟩ 2 (by omega)
  · exact ⟨_, rfl, by omega⟩
theorem bd_hand (z : Int) : Bd 480 24 (handRq z) := by
  unfold handRq
  have h1 := pick_lt z 41 (by omega)
  have h2 := pick_lt (z.tdiv 41) 6 (by omega)
  have : rDen (pick (z.tdiv 41) 6) = 1 ∨ rDen (pick (z.tdiv 41) 6) = 2 ∨ rDen (pick (z.tdiv 41) 6) = 3 ∨ rDen (pick (z.tdiv 41) 6) = 4 := by unfold rDen; split <;> omega
  rcases this with e | e | e | e <;> rw [e]
  · exact Bd.scale (N := 20) (D := 1) ⟨_, rfl, by omega⟩ 24 (by omega)
  · exact Bd.weak (Bd.scale (N := 20) (D := 2) ⟨_, rfl, by omega⟩ 12 (by omega)) (by omega)
  · exact Bd.weak (Bd.scale (N := 20) (D := 3) ⟨_, rfl, by omega⟩ 8 (by omega)) (by omega)
  · exact Bd.weak (Bd.scale (N := 20) (D := 4) ⟨_, rfl, by omega⟩ 6 (by omega)) (by omega)
theorem getD_mem {α : Type} {l : List α} {i : Nat} {d : α} (h : i < l.length) : l.getD i d ∈ l := by
  rw [List.getD_eq_getElem?_getD, List.getElem?_eq_getElem h]; exact List.getElem_mem h
theorem getD_over {α : Type} {l : List α} {i : Nat} {d : α} (h : l.length ≤ i) : l.getD i d = d := by
  rw [List.getD_eq_getElem?_getD, List.getElem?_eq_none h]; rfl
theorem Smalls.bd {l : List Rat} (h : Smalls l) (j : Nat) : Bd 8 2 (l.getD j 0) := by
  rcases Nat.lt_or_ge j l.length with hj | hj
  · obtain ⟨z, e⟩ := h _ (getD_mem (d := 0) hj)
    rw [e]; exact bd_small z
  · rw [getD_over hj]; exact Bd.zero
theorem LayMk.wbd {L : Lay} {k r c : Nat} (h : LayMk L k r c) (i j : Nat) : Bd 8 2 ((L.W.getD i []).getD j 0) := by
  rcases Nat.lt_or_ge i L.W.length with hi | hi
  · exact (h.row _ (getD_mem (d := []) hi)).2.bd j
  · rw [getD_over hi]; exact Bd.zero
theorem bd_dot {w x : List Rat} {N D : Nat} (hD : D ≠ 0) (hw : ∀ j, Bd 8 2 (w.getD j 0)) (hx : ∀ j, Bd N D (x.getD j 0)) (n : Nat) : Bd (n * (8 * N)) (2 * D) (dotq w x n) := by
  induction n with
  | zero => exact Bd.zero
  | succ n ih =>
    show Bd _ _ (dotq w x n + w.getD n 0 * x.getD n 0)
    rw [Nat.succ_mul]
    exact Bd.add (by omega) ih ((hw n).mul (hx n))
/-- A straight layer: all numbers stay small. -/
theorem lay_sm {L : Lay} {x : List Rat} {r c N D : Nat} (h : LayMk L 1 r c) (hc : c ≤ 4) (hD : D ≠ 0) (hN : 32 * N + 8 * D < 2147483648) (hD2 : 2 * D < 2147483648) (hx : ∀ j, Bd N D (x.getD j 0)) (hl : x.length = c) :
    LaySm L x r c ∧ ∀ j, Bd (32 * N + 8 * D) (2 * D) ((layq L x).getD j 0) := by
  have hw := h.wbd
  have hb := h.bs.bd
  have hm : ∀ n, n ≤ 4 → n * (8 * N) ≤ 32 * N := fun n hn => by
    have := Nat.mul_le_mul_right (8 * N) hn
    omega
  have hs : ∀ i, Bd (32 * N + 8 * D) (2 * D) (dotq (L.W.getD i []) x c + L.B.getD i 0) := fun i => by
    have h1 := (bd_dot hD (hw i) hx c).weak (hm c hc)
    have h2 := (hb i).scale D hD
    exact Bd.add (by omega) h1 h2
  refine ⟨⟨fun j _ => (hx j).sm hD (by omega) (by omega), fun i j _ _ => (hw i j).sm (by omega) (by omega) (by omega), fun i j _ _ => ((hw i j).mul (hx j)).sm (by omega) (by omega) (by omega), fun i j _ hj => ((bd_dot hD (hw i) hx j).weak (hm j (by omega))).sm (by omega) (by omega) (by omega), fun i _ => (hb i).sm (by omega) (by omega) (by omega), fun i _ => (hs i).sm (by omega) (by omega) (by omega)⟩, fun j => ?_⟩
  rcases Nat.lt_or_ge j L.W.length with hj | hj
  · have : (layq L x).getD j 0 = dotq (L.W.getD j []) x c + L.B.getD j 0 := by
      unfold layq
      rw [List.getD_eq_getElem?_getD, List.getElem?_map, List.getElem?_range hj]
      show act L.k _ = _
      rw [h.k, hl]; rfl
    rw [this]; exact hs j
  · rw [getD_over (by unfold layq; simpa using hj)]; exact Bd.zero
/-- z lies in the middle between x and y. -/
def Mid (x y z : List Rat) : Prop := ∀ j, z.getD j 0 = (x.getD j 0 + y.getD j 0) * mkRat 1 2
theorem mid_dot {w x y z : List Rat} (h : Mid x y z) (n : Nat) : dotq w z n = (dotq w x n + dotq w y n) * mkRat 1 2 := by
  induction n with
  | zero => show (0 : Rat) = (0 + 0) * _; rw [Rat.add_zero, Rat.zero_mul]
  | succ n ih =>
    show dotq w z n + w.getD n 0 * z.getD n 0 = (dotq w x n + w.getD n 0 * x.getD n 0 + (dotq w y n + w.getD n 0 * y.getD n 0)) * mkRat 1 2
    rw [ih, h n]
    grind
theorem lay_mid {L : Lay} {x y z : List Rat} {r c : Nat} (h : LayMk L 1 r c) (hm : Mid x y z) (hx : x.length = c) (hy : y.length = c) (hz : z.length = c) : Mid (layq L x) (layq L y) (layq L z) := by
  intro j
  have hq : ∀ q : List Rat, q.length = c → j < L.W.length → (layq L q).getD j 0 = dotq (L.W.getD j []) q c + L.B.getD j 0 := fun q hl hj => by
    unfold layq
    rw [List.getD_eq_getElem?_getD, List.getElem?_map, List.getElem?_range hj]
    show act L.k _ = _
    rw [h.k, hl]; rfl
  rcases Nat.lt_or_ge j L.W.length with hj | hj
  · rw [hq x hx hj, hq y hy hj, hq z hz hj, mid_dot hm c]
    have : (mkRat 1 2 : Rat) + mkRat 1 2 = 1 := by decide +kernel
    grind
  · have e : ∀ q, (layq L q).getD j 0 = 0 := fun q => getD_over (by unfold layq; simpa using hj)
    rw [e, e, e, Rat.add_zero, Rat.zero_mul]
theorem Sm.fit {q : Rat} (h : Sm q) : Fit q := ⟨by have := h.1; omega, by have := h.2; omega⟩
/-- What make.Net makes. -/
structure NetMk (ls : List Lay) (S : List Nat) (kd : Int) : Prop where
  len : ls.length + 1 = S.length
  lay : ∀ i, i < ls.length → LayMk (ls.getD i lay0) (pick (kindAt kd i) 3 + 1 : Nat) (S.getD (i + 1) 0) (S.getD i 0)
theorem sizes_le (i m o : Int) (k : Nat) : (netSizes i m o).getD k 0 ≤ 4 := by
  have h1 := pick_lt i 3 (by omega)
  have h2 := pick_lt m 4 (by omega)
  have h3 := pick_lt o 3 (by omega)
  unfold netSizes
  split
  · rcases k with _ | _ | _ | k <;> simp <;> omega
  · rcases k with _ | _ | k <;> simp <;> omega
theorem sizes_pos (i m o : Int) (k : Nat) (hk : k < (netSizes i m o).length) : 0 < (netSizes i m o).getD k 0 := by
  unfold netSizes at *
  split
  · rename_i h
    rw [if_pos h] at hk
    rcases k with _ | _ | _ | k <;> simp at hk ⊢
    · exact h
    · omega
  · rename_i h
    rw [if_neg h] at hk
    rcases k with _ | _ | k <;> simp at hk ⊢
    omega
theorem sizes_len (i m o : Int) : (netSizes i m o).length = 2 ∨ (netSizes i m o).length = 3 := by
  unfold netSizes; split
  · exact .inr rfl
  · exact .inl rfl
theorem sizes_first (i m o : Int) : (netSizes i m o).getD 0 0 = pick i 3 + 1 := by unfold netSizes; split <;> rfl
theorem sizes_last (i m o : Int) (n : Nat) (hn : n + 1 = (netSizes i m o).length) : (netSizes i m o).getD n 0 = pick o 3 + 1 := by
  unfold netSizes at *
  split
  · rename_i h
    rw [if_pos h] at hn
    have : n = 2 := by simp at hn; omega
    subst this; rfl
  · rename_i h
    rw [if_neg h] at hn
    have : n = 1 := by simp at hn; omega
    subst this; rfl
theorem kindAt_zero (n : Nat) : kindAt 0 n = 0 := by
  induction n with
  | zero => rfl
  | succ n ih => show (kindAt 0 n).tdiv 3 = 0; rw [ih]; rfl
theorem NetMk.fit {ls : List Lay} {i m o kd : Int} (h : NetMk ls (netSizes i m o) kd) (k : Nat) (hk : k < ls.length) : LayFit (ls.getD k lay0) := by
  have L := h.lay k hk
  have h1 := sizes_le i m o k
  have h2 := sizes_le i m o (k + 1)
  refine ⟨by rw [L.rows]; omega, fun j hj => by rw [(L.row _ (getD_mem hj)).1]; omega, fun j hj c _ => ((L.wbd j c).sm (by omega) (by omega) (by omega)).fit, by rw [L.bl]; omega, fun j _ => ((L.bs.bd j).sm (by omega) (by omega) (by omega)).fit⟩
theorem NetMk.straight {ls : List Lay} {i m o : Int} (h : NetMk ls (netSizes i m o) 0) (k : Nat) (hk : k < ls.length) : LayMk (ls.getD k lay0) 1 ((netSizes i m o).getD (k + 1) 0) ((netSizes i m o).getD k 0) := by
  have := h.lay k hk
  rw [kindAt_zero] at this
  exact this
theorem NetMk.ok {ls : List Lay} {i m o : Int} (h : NetMk ls (netSizes i m o) 0) : NetOk ls (fun k => (netSizes i m o).getD k 0) := by
  have hl := h.len
  refine ⟨by rcases sizes_len i m o with e | e <;> omega, by have := sizes_le i m o 0; omega, fun k hk => ?_⟩
  have L := h.straight k hk
  have h2 := sizes_le i m o (k + 1)
  exact ⟨⟨L.rows, sizes_pos i m o _ (by omega), sizes_pos i m o _ (by omega), fun r hr => (L.row _ (getD_mem (by rw [L.rows]; exact hr))).1⟩, L.bl, by omega, .inl L.k⟩
def bN : Nat → Nat | 0 => 960 | 1 => 31104 | _ => 996096
def bD : Nat → Nat | 0 => 48 | 1 => 96 | _ => 192
theorem NetMk.bd {ls : List Lay} {i m o : Int} (h : NetMk ls (netSizes i m o) 0) {x : List Rat} (hx : x.length = (netSizes i m o).getD 0 0) (hb : ∀ j, Bd 960 48 (x.getD j 0)) (k : Nat) (hk : k ≤ ls.length) :
    (∀ j, Bd (bN k) (bD k) ((outq ls x k).getD j 0)) ∧ (k < ls.length → LaySm (ls.getD k lay0) (outq ls x k) ((netSizes i m o).getD (k + 1) 0) ((netSizes i m o).getD k 0)) := by
  have hl := h.len
  have hl2 : ls.length ≤ 2 := by rcases sizes_len i m o with e | e <;> omega
  have st : ∀ k, k < ls.length → ∀ N D, D ≠ 0 → 32 * N + 8 * D < 2147483648 → 2 * D < 2147483648 → (∀ j, Bd N D ((outq ls x k).getD j 0)) → LaySm (ls.getD k lay0) (outq ls x k) ((netSizes i m o).getD (k + 1) 0) ((netSizes i m o).getD k 0) ∧ ∀ j, Bd (32 * N + 8 * D) (2 * D) ((outq ls x (k + 1)).getD j 0) :=
    fun k hk N D h1 h2 h3 hb => lay_sm (h.straight k hk) (sizes_le i m o k) h1 h2 h3 hb (outq_len h.ok hx k (by omega))
  have h0 : ∀ j, Bd 960 48 ((outq ls x 0).getD j 0) := hb
  have : k = 0 ∨ k = 1 ∨ k = 2 := by omega
  rcases this with rfl | rfl | rfl
  · exact ⟨h0, fun hk => (st 0 hk 960 48 (by omega) (by omega) (by omega) h0).1⟩
  · have h1 := (st 0 (by omega) 960 48 (by omega) (by omega) (by omega) h0).2
    exact ⟨h1, fun hk => (st 1 hk 31104 96 (by omega) (by omega) (by omega) h1).1⟩
  · have h1 := (st 0 (by omega) 960 48 (by omega) (by omega) (by omega) h0).2
    have h2 := (st 1 (by omega) 31104 96 (by omega) (by omega) (by omega) h1).2
    exact ⟨h2, fun hk => by omega⟩
theorem NetMk.mid {ls : List Lay} {i m o : Int} (h : NetMk ls (netSizes i m o) 0) {x y z : List Rat} (hx : x.length = (netSizes i m o).getD 0 0) (hy : y.length = (netSizes i m o).getD 0 0) (hz : z.length = (netSizes i m o).getD 0 0) (hm : Mid x y z) (k : Nat) (hk : k ≤ ls.length) :
    Mid (outq ls x k) (outq ls y k) (outq ls z k) := by
  induction k with
  | zero => exact hm
  | succ k ih => exact lay_mid (h.straight k (by omega)) (ih (by omega)) (outq_len h.ok hx k (by omega)) (outq_len h.ok hy k (by omega)) (outq_len h.ok hz k (by omega))
/-- The middle of two rows. -/
def mids (x y : List Rat) : Nat → List Rat
  | 0 => []
  | k + 1 => mids x y k ++ [(x.getD k 0 + y.getD k 0) * mkRat 1 2]
theorem mids_len (x y : List Rat) (k : Nat) : (mids x y k).length = k := by induction k with | zero => rfl | succ k ih => simp [mids, ih]
theorem mids_get (x y : List Rat) (k j : Nat) (hj : j < k) : (mids x y k).getD j 0 = (x.getD j 0 + y.getD j 0) * mkRat 1 2 := by
  induction k with
  | zero => omega
  | succ k ih =>
    unfold mids
    rw [getD_snoc, mids_len]
    split
    · rename_i h; exact ih h
    · rename_i h; have : j = k := by omega
      subst this; rw [if_pos rfl]
theorem mids_mid (x y : List Rat) (k : Nat) (hx : x.length = k) (hy : y.length = k) : Mid x y (mids x y k) := by
  intro j
  rcases Nat.lt_or_ge j k with hj | hj
  · exact mids_get x y k j hj
  · rw [getD_over (by rw [mids_len]; exact hj), getD_over (by omega), getD_over (by omega), Rat.add_zero, Rat.zero_mul]
theorem rowq_bd (zs : List Int) (n j : Nat) : Bd 480 24 ((rowq zs n).getD j 0) := by
  induction n with
  | zero => exact Bd.zero
  | succ n ih =>
    unfold rowq
    rw [getD_snoc]
    split
    · exact ih
    · split
      · split
        · exact bd_hand _
        · exact Bd.zero
      · exact Bd.zero
theorem bd_sum {a b : Rat} {N D : Nat} (hD : D ≠ 0) (ha : Bd N D a) (hb : Bd N D b) : Bd (2 * N) D (a + b) := by rw [Nat.two_mul]; exact Bd.add hD ha hb
theorem bd_half : Bd 1 2 (mkRat 1 2) := ⟨1, rfl, by decide⟩
theorem mids_bd {x y : List Rat} (hx : ∀ j, Bd 480 24 (x.getD j 0)) (hy : ∀ j, Bd 480 24 (y.getD j 0)) (k j : Nat) : Bd 960 48 ((mids x y k).getD j 0) := by
  rcases Nat.lt_or_ge j k with hj | hj
  · rw [mids_get x y k j hj]; exact (bd_sum (by omega) (hx j) (hy j)).mul bd_half
  · rw [getD_over (by rw [mids_len]; exact hj)]; exact Bd.zero
theorem NetMk.obd {ls : List Lay} {i m o : Int} (h : NetMk ls (netSizes i m o) 0) {x : List Rat} (hx : x.length = (netSizes i m o).getD 0 0) (hb : ∀ j, Bd 960 48 (x.getD j 0)) : ∃ N D, D ≠ 0 ∧ N < 1000000 ∧ D < 1000 ∧ (∀ (y : List Rat), y.length = (netSizes i m o).getD 0 0 → (∀ j, Bd 960 48 (y.getD j 0)) → ∀ j, Bd N D ((outq ls y ls.length).getD j 0)) := by
  refine ⟨bN ls.length, bD ls.length, ?_, ?_, ?_, fun y hy hby => (h.bd hy hby ls.length (Nat.le_refl _)).1⟩
  all_goals (have hl := h.len; have : ls.length = 1 ∨ ls.length = 2 := by rcases sizes_len i m o with e | e <;> omega)
  all_goals (rcases this with e | e <;> rw [e] <;> decide)
theorem NetMk.sums {ls : List Lay} {i m o : Int} (h : NetMk ls (netSizes i m o) 0) {x y : List Rat} (hx : x.length = (netSizes i m o).getD 0 0) (hb : ∀ j, Bd 960 48 (x.getD j 0)) (hy : y.length = (netSizes i m o).getD 0 0) (hby : ∀ j, Bd 960 48 (y.getD j 0)) (j : Nat) :
    Sm ((outq ls x ls.length).getD j 0) ∧ Sm ((outq ls y ls.length).getD j 0) ∧ Sm ((outq ls x ls.length).getD j 0 + (outq ls y ls.length).getD j 0) ∧ Sm (((outq ls x ls.length).getD j 0 + (outq ls y ls.length).getD j 0) * mkRat 1 2) := by
  obtain ⟨N, D, h1, h2, h3, h4⟩ := h.obd hx hb
  have a := h4 x hx hb j
  have b := h4 y hy hby j
  exact ⟨a.sm h1 (by omega) (by omega), b.sm h1 (by omega) (by omega), (bd_sum h1 a b).sm h1 (by omega) (by omega), ((bd_sum h1 a b).mul bd_half).sm (by omega) (by omega) (by omega)⟩
theorem cmpR_self (a : Rat) : cmpR a a = 0 := by unfold cmpR cmpI; rw [if_neg (by omega), if_neg (by omega)]
theorem cHalf (w : World) : Calls Tryz.prog 15 #[.int .i64 1, .int .i64 2] w fun e w' => e = .returned (.tuple #[qv (mkRat 1 2), .bool true]) ∧ Ext w w' := by
  rw [qv_small (by decide +kernel) (by decide +kernel)]
  exact fracOverI 1 2 (by decide) (by decide) (by decide) (by decide) w
end Go.Proofs.YtbhpcpkcjgkcpaaGreatDoor
