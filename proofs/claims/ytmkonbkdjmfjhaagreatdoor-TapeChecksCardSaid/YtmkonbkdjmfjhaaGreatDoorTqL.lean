/- Tapes of the reference's: their cells, what they say. No program in sight. -/
import Derived.Test.YtmkonbkdjmfjhaaGreatDoorFrA
import Derived.Test.YtmkonbkdjmfjhaaGreatDoorZow
import Derived.Test.YtmkonbkdjmfjhaaGreatDoorMkA
namespace Go.Proofs.YtmkonbkdjmfjhaaGreatDoor
open Go.RowKit

/-- A step of a tape. -/
structure Stp where
  op : Int
  a : Int
  b : Int
  n : Int
  q : Rat
def stp0 : Stp := ⟨0, 0, 0, 0, 0⟩
/-- Its cells. -/
def stc (s : Stp) : List Value := [.int .i64 s.op, .int .i64 s.a, .int .i64 s.b, .int .i64 s.n, .bool (ineg s.q.num), .int .u64 (lo (iabs s.q.num)), .string (hi (iabs s.q.num)), .int .u64 (lo (qd s.q)), .string (hi (qd s.q))]
def stv (s : Stp) : Value := .agg #[.int .i64 s.op, .int .i64 s.a, .int .i64 s.b, .int .i64 s.n, .bool (ineg s.q.num), .int .u64 (lo (iabs s.q.num)), .string (hi (iabs s.q.num)), .int .u64 (lo (qd s.q)), .string (hi (qd s.q))]
/-- How many operands. -/
def ari (op : Int) : Int :=
  if op = 1 ∨ op = 2 then 0 else if op = 7 ∨ op = 8 ∨ op = 9 ∨ op = 10 ∨ op = 11 then 1
  else if op = 3 ∨ op = 4 ∨ op = 5 ∨ op = 6 ∨ op = 12 ∨ op = 13 then 2 else -1
theorem ari_cases (op : Int) : (ari op = 0 ∧ (op = 1 ∨ op = 2)) ∨ (ari op = 1 ∧ (op = 7 ∨ op = 8 ∨ op = 9 ∨ op = 10 ∨ op = 11)) ∨ (ari op = 2 ∧ (op = 3 ∨ op = 4 ∨ op = 5 ∨ op = 6 ∨ op = 12 ∨ op = 13)) ∨ (ari op = -1 ∧ (op < 1 ∨ 13 < op)) := by
  unfold ari; split
  · exact .inl ⟨rfl, by assumption⟩
  · split
    · exact .inr (.inl ⟨rfl, by assumption⟩)
    · split
      · exact .inr (.inr (.inl ⟨rfl, by assumption⟩))
      · exact .inr (.inr (.inr ⟨rfl, by omega⟩))
def Refers (i : Nat) (tt : Int) (used : Prop) : Prop := (used → 0 ≤ tt ∧ tt < i) ∧ (¬ used → tt = 0)
/-- The step's fields fit its operator. -/
def Formed (inp : Int) (i : Nat) (s : Stp) : Prop :=
  0 ≤ ari s.op ∧ Refers i s.a (0 < ari s.op) ∧ Refers i s.b (1 < ari s.op) ∧ (s.op ≠ 1 → s.q.num = 0) ∧
  (s.op = 2 → 0 ≤ s.n ∧ s.n < inp) ∧ (s.op = 8 → -12 ≤ s.n ∧ s.n ≤ 12) ∧ (s.op ≠ 2 → s.op ≠ 8 → s.n = 0)
instance (i : Nat) (tt : Int) (u : Prop) [Decidable u] : Decidable (Refers i tt u) := by unfold Refers; infer_instance
instance (inp : Int) (i : Nat) (s : Stp) : Decidable (Formed inp i s) := by unfold Formed; infer_instance
def weightS (s : Stp) (hv : List Int) : Int :=
  if ari s.op = 0 then 1 else if ari s.op = 2 then hv.getD s.a.toNat 0 + hv.getD s.b.toNat 0
  else if s.op = 11 then 2 * hv.getD s.a.toNat 0 else if s.op = 8 then max (max s.n (0 - s.n)) 1 * hv.getD s.a.toNat 0 else hv.getD s.a.toNat 0
/-- What the check says of the steps from i on, the weights of those before being hv: 0, or the first error. -/
def goS (inp : Int) : List Stp → List Int → Int
  | [], _ => 0
  | s :: r, hv => if Formed inp hv.length s then (if 65536 < weightS s hv then 18 else goS inp r (hv ++ [weightS s hv])) else 2
def OutsOk (n : Nat) (os : List Int) : Prop := ∀ i, i < os.length → 0 ≤ os.getD i 0 ∧ os.getD i 0 < n
instance (n : Nat) (os : List Int) : Decidable (OutsOk n os) := by unfold OutsOk; infer_instance
/-- What Check says of a tape. -/
def chkTp (inp : Int) (l : List Stp) (os : List Int) : Int :=
  if 0 ≤ inp ∧ inp ≤ 1000 ∧ l.length ≤ 65536 ∧ os.length ≤ 300 then (if goS inp l [] = 0 then (if OutsOk l.length os then 0 else 1) else goS inp l []) else 5
theorem drop_cons' {l : List Stp} {k : Nat} (h : k < l.length) : l.drop k = l.getD k stp0 :: l.drop (k + 1) := by
  rw [List.drop_eq_getElem_cons h]; simp [h]
theorem goS_bad {inp : Int} {l : List Stp} {hv : List Int} {k : Nat} (hk : k < l.length) (hl : hv.length = k) (h : ¬ Formed inp k (l.getD k stp0)) : goS inp (l.drop k) hv = 2 := by
  rw [drop_cons' hk, goS, hl, if_neg h]
theorem goS_over {inp : Int} {l : List Stp} {hv : List Int} {k : Nat} (hk : k < l.length) (hl : hv.length = k) (h : Formed inp k (l.getD k stp0)) (hw : 65536 < weightS (l.getD k stp0) hv) : goS inp (l.drop k) hv = 18 := by
  rw [drop_cons' hk, goS, hl, if_pos h, if_pos hw]
theorem goS_step {inp : Int} {l : List Stp} {hv : List Int} {k : Nat} (hk : k < l.length) (hl : hv.length = k) (h : Formed inp k (l.getD k stp0)) (hw : ¬ 65536 < weightS (l.getD k stp0) hv) : goS inp (l.drop k) hv = goS inp (l.drop (k + 1)) (hv ++ [weightS (l.getD k stp0) hv]) := by
  rw [drop_cons' hk, goS, hl, if_pos h, if_neg hw]
theorem getD_take {l : List Int} {k j : Nat} (h : j < k) : (l.take k).getD j 0 = l.getD j 0 := by
  rw [List.getD_eq_getElem?_getD, List.getElem?_take_of_lt h, ← List.getD_eq_getElem?_getD]
/-- A step that is formed has the same weight, whatever stands behind. -/
theorem weight_take {inp : Int} {s : Stp} {L : List Int} {k : Nat} (h : Formed inp k s) : weightS s (L.take k) = weightS s L := by
  obtain ⟨h0, ⟨ha, _⟩, ⟨hb, _⟩, _⟩ := h
  unfold weightS
  rcases ari_cases s.op with ⟨e, _⟩ | ⟨e, _⟩ | ⟨e, _⟩ | ⟨e, _⟩
  · rw [e]; rfl
  · have := ha (by omega)
    rw [e, getD_take (by omega)]; simp
  · have := ha (by omega); have := hb (by omega)
    rw [e, getD_take (by omega), getD_take (by omega)]
  · omega
theorem take_set_snoc {L : List Int} {k : Nat} {x : Int} (h : k < L.length) : (L.set k x).take (k + 1) = L.take k ++ [x] := by
  rw [List.take_add_one, List.take_set_of_le (Nat.le_refl k)]
  simp [h]
/-- Weights so far. -/
def Wts (L : List Int) (k : Nat) : Prop := ∀ j, j < k → 1 ≤ L.getD j 0 ∧ L.getD j 0 ≤ 65536
theorem Wts.weight {inp : Int} {s : Stp} {L : List Int} {k : Nat} (w : Wts L k) (h : Formed inp k s) : 1 ≤ weightS s L ∧ weightS s L ≤ 786432 := by
  obtain ⟨h0, ⟨ha, _⟩, ⟨hb, _⟩, _, _, h8, _⟩ := h
  unfold weightS
  rcases ari_cases s.op with ⟨e, _⟩ | ⟨e, _⟩ | ⟨e, _⟩ | ⟨e, _⟩
  · rw [e, if_pos rfl]; decide
  · have h1 := ha (by omega)
    have h2 := w s.a.toNat (by omega)
    rw [e, if_neg (by decide), if_neg (by decide)]
    split
    · omega
    · split
      · have h3 := h8 (by assumption)
        have h4 : 1 ≤ max (max s.n (0 - s.n)) 1 ∧ max (max s.n (0 - s.n)) 1 ≤ 12 := by omega
        have h5 : 1 * 1 ≤ max (max s.n (0 - s.n)) 1 * L.getD s.a.toNat 0 := Int.mul_le_mul h4.1 h2.1 (by omega) (by omega)
        have h6 : max (max s.n (0 - s.n)) 1 * L.getD s.a.toNat 0 ≤ 12 * 65536 := Int.mul_le_mul h4.2 h2.2 (by omega) (by omega)
        omega
      · omega
  · have h1 := ha (by omega)
    have h2 := w s.a.toNat (by omega)
    have h3 := hb (by omega)
    have h4 := w s.b.toNat (by omega)
    rw [e, if_neg (by decide), if_pos rfl]; omega
  · omega
theorem Wts.pow {inp : Int} {s : Stp} {L : List Int} {k : Nat} (w : Wts L k) (h : Formed inp k s) (h8 : s.op = 8) : 1 ≤ max (max s.n (0 - s.n)) 1 * L.getD s.a.toNat 0 ∧ max (max s.n (0 - s.n)) 1 * L.getD s.a.toNat 0 ≤ 786432 := by
  have := w.weight h
  unfold weightS ari at this
  simp only [h8] at this
  simpa using this
theorem Wts.snoc {L : List Int} {k : Nat} {x : Int} (w : Wts L k) (hk : k < L.length) (h1 : 1 ≤ x) (h2 : x ≤ 65536) : Wts (L.set k x) (k + 1) := fun j hj => by
  by_cases e : j = k
  · subst e; rw [List.getD_eq_getElem?_getD, List.getElem?_set_self hk]; exact ⟨h1, h2⟩
  · rw [List.getD_eq_getElem?_getD, List.getElem?_set_ne (Ne.symm e), ← List.getD_eq_getElem?_getD]; exact w j (by omega)
theorem chkTp_shape {inp : Int} {l : List Stp} {os : List Int} (h : ¬ (0 ≤ inp ∧ inp ≤ 1000 ∧ l.length ≤ 65536 ∧ os.length ≤ 300)) : chkTp inp l os = 5 := by unfold chkTp; rw [if_neg h]
theorem chkTp_go {inp : Int} {l : List Stp} {os : List Int} (h : 0 ≤ inp ∧ inp ≤ 1000 ∧ l.length ≤ 65536 ∧ os.length ≤ 300) (hg : goS inp l [] ≠ 0) : chkTp inp l os = goS inp l [] := by unfold chkTp; rw [if_pos h, if_neg hg]
theorem chkTp_arg {inp : Int} {l : List Stp} {os : List Int} (h : 0 ≤ inp ∧ inp ≤ 1000 ∧ l.length ≤ 65536 ∧ os.length ≤ 300) (hg : goS inp l [] = 0) (ho : ¬ OutsOk l.length os) : chkTp inp l os = 1 := by unfold chkTp; rw [if_pos h, if_pos hg, if_neg ho]
theorem chkTp_ok {inp : Int} {l : List Stp} {os : List Int} (h : 0 ≤ inp ∧ inp ≤ 1000 ∧ l.length ≤ 65536 ∧ os.length ≤ 300) (hg : goS inp l [] = 0) (ho : OutsOk l.length os) : chkTp inp l os = 0 := by unfold chkTp; rw [if_pos h, if_pos hg, if_pos ho]
/-- A tape that does one thing again and again. -/
def heavyT (op : Int) : Nat → List Stp
  | 0 => [⟨2, 0, 0, 0, 0⟩]
  | k + 1 => heavyT op k ++ [⟨op, k, k, 0, 0⟩]
theorem heavyT_len (op : Int) : ∀ k, (heavyT op k).length = k + 1
  | 0 => rfl
  | k + 1 => by show (heavyT op k ++ [_]).length = _; rw [List.length_append, heavyT_len op k]; rfl
theorem heavy_chk : ∀ n, n < 30 → ∀ op ∈ [(5 : Int), 3, 12, 6], chkTp 1 (heavyT op n) [] = if 16 < n then 18 else 0 := by decide +kernel
end Go.Proofs.YtmkonbkdjmfjhaaGreatDoor

namespace Go.Proofs.YtmkonbkdjmfjhaaGreatDoor
open Go.RowKit

/-- A step of the reference's: its cells. -/
structure RSt where
  op : Int
  a : Int
  b : Int
  n : Int
  t : RT
def rst0 : RSt := ⟨0, 0, 0, 0, rqd⟩
def rsc (s : RSt) : List Value := [.int .i64 s.op, .int .i64 s.a, .int .i64 s.b, .int .i64 s.n, .bool s.t.1, s.t.2.1, s.t.2.2]
/-- What it says: has: there is a number. -/
structure OSt where
  op : Int
  a : Int
  b : Int
  n : Int
  q : Rat
  has : Bool
def ost0 : OSt := ⟨0, 0, 0, 0, 0, false⟩
def odn (o : OSt) : Nat := if o.has then o.q.den else 0
def OSt.stp (o : OSt) : Stp := ⟨o.op, o.a, o.b, o.n, o.q⟩
theorem odn_pos {o : OSt} : 0 < (lim (odn o)).length ↔ o.has = true := by
  rw [lim_pos]; unfold odn
  have := o.q.den_pos
  cases o.has <;> simp; omega
theorem odn_has {o : OSt} (h : o.has = true) : odn o = o.q.den := by unfold odn; rw [h]; rfl
/-- A step's cells say o. -/
structure RS1 (h : Hp) (t : RSt) (o : OSt) : Prop where
  op : t.op = o.op
  a : t.a = o.a
  b : t.b = o.b
  n : t.n = o.n
  q : RP h (rtv t.t) o.q.num (odn o)
  z : o.has = false → o.q = 0
theorem RS1.gw {h h' : Hp} {t : RSt} {o : OSt} (x : RS1 h t o) (u : Gw h h') : RS1 h' t o := ⟨x.op, x.a, x.b, x.n, x.q.gw u, x.z⟩
/-- A step's cells, in the words of what they say. -/
theorem RS1.opn {h : Hp} {t : RSt} {o : OSt} (x : RS1 h t o) : ∃ A c D d, Value.agg #[.int .i64 t.op, .int .i64 t.a, .int .i64 t.b, .int .i64 t.n, .bool t.t.1, t.t.2.1, t.t.2.2] = .agg #[.int .i64 o.op, .int .i64 o.a, .int .i64 o.b, .int .i64 o.n, .bool (ineg o.q.num), .slice A (lim (iabs o.q.num)).length c, .slice D (lim (odn o)).length d] ∧ (lim (iabs o.q.num)).length ≤ c ∧ (lim (odn o)).length ≤ d ∧ SlO 1 u32c 0 h A (lim (iabs o.q.num)) ∧ SlO 1 u32c 0 h D (lim (odn o)) := by
  obtain ⟨A, c, D, d, e, h1, h2, h3, h4⟩ := x.q
  unfold rtv at e
  injection e with e
  simp only [Array.mk.injEq, List.cons.injEq, and_true] at e
  obtain ⟨e1, e2, e3⟩ := e
  injection e1 with e1
  refine ⟨A, c, D, d, ?_, h1, h2, h3, h4⟩
  rw [x.op, x.a, x.b, x.n, e1, e2, e3]
structure RSs (h : Hp) (ts : List RSt) (os : List OSt) : Prop where
  len : ts.length = os.length
  at_ : ∀ i, i < os.length → RS1 h (ts.getD i rst0) (os.getD i ost0)
theorem RSs.gw {h h' : Hp} {ts : List RSt} {os : List OSt} (x : RSs h ts os) (u : Gw h h') : RSs h' ts os := ⟨x.len, fun i hi => (x.at_ i hi).gw u⟩
theorem RSs.nil {h : Hp} : RSs h [] [] := ⟨rfl, fun i hi => by simp at hi⟩
theorem RSs.snoc {h : Hp} {ts : List RSt} {os : List OSt} {t : RSt} {o : OSt} (x : RSs h ts os) (y : RS1 h t o) : RSs h (ts ++ [t]) (os ++ [o]) := by
  refine ⟨by simp [x.len], fun i hi => ?_⟩
  rw [getD_snoc, getD_snoc, x.len]
  rw [List.length_append, List.length_singleton] at hi
  by_cases e : i < os.length
  · rw [if_pos e, if_pos e]; exact x.at_ i e
  · rw [if_neg e, if_neg e, if_pos (by omega), if_pos (by omega)]; exact y
theorem RSs.set {h : Hp} {ts : List RSt} {os : List OSt} {t : RSt} {o : OSt} (x : RSs h ts os) (k : Nat) (y : RS1 h t o) : RSs h (ts.set k t) (os.set k o) := by
  refine ⟨by simp [x.len], fun i hi => ?_⟩
  rw [List.length_set] at hi
  by_cases e : k = i
  · subst e
    rw [List.getD_eq_getElem?_getD, List.getElem?_set_self (by rw [x.len]; exact hi), List.getD_eq_getElem?_getD, List.getElem?_set_self hi]; exact y
  · have e1 : (ts.set k t).getD i rst0 = ts.getD i rst0 := by rw [List.getD_eq_getElem?_getD, List.getElem?_set_ne e, ← List.getD_eq_getElem?_getD]
    have e2 : (os.set k o).getD i ost0 = os.getD i ost0 := by rw [List.getD_eq_getElem?_getD, List.getElem?_set_ne e, ← List.getD_eq_getElem?_getD]
    rw [e1, e2]; exact x.at_ i hi
/-- Its numbers are small. -/
structure OSm (o : OSt) : Prop where
  op : -1000 ≤ o.op ∧ o.op ≤ 1000
  a : -1000 ≤ o.a ∧ o.a ≤ 1000
  b : -1000 ≤ o.b ∧ o.b ≤ 1000
  n : -1000 ≤ o.n ∧ o.n ≤ 1000
  q : iabs o.q.num < 1000 ∧ o.q.den < 1000
def OSms (os : List OSt) : Prop := ∀ i, i < os.length → OSm (os.getD i ost0)
theorem OSms.snoc {os : List OSt} {o : OSt} (x : OSms os) (y : OSm o) : OSms (os ++ [o]) := fun i hi => by
  rw [List.length_append, List.length_singleton] at hi
  rw [getD_snoc]
  by_cases e : i < os.length
  · rw [if_pos e]; exact x i e
  · rw [if_neg e, if_pos (by omega)]; exact y
theorem OSms.set {os : List OSt} {o : OSt} (x : OSms os) (k : Nat) (y : OSm o) : OSms (os.set k o) := fun i hi => by
  rw [List.length_set] at hi
  by_cases e : k = i
  · subst e; rw [List.getD_eq_getElem?_getD, List.getElem?_set_self hi]; exact y
  · rw [List.getD_eq_getElem?_getD, List.getElem?_set_ne e, ← List.getD_eq_getElem?_getD]; exact x i hi
theorem stp_getD {os : List OSt} {i : Nat} (h : i < os.length) : (os.map OSt.stp).getD i stp0 = (os.getD i ost0).stp := by
  simp [h]
theorem Wts.app {L : List Int} {k : Nat} {x : Int} (w : Wts L k) (hk : L.length = k) (h1 : 1 ≤ x) (h2 : x ≤ 65536) : Wts (L ++ [x]) (k + 1) := fun j hj => by
  by_cases e : j < k
  · rw [List.getD_eq_getElem?_getD, List.getElem?_append_left (by omega), ← List.getD_eq_getElem?_getD]; exact w j e
  · rw [List.getD_eq_getElem?_getD, List.getElem?_append_right (by omega)]
    have : j - L.length = 0 := by omega
    rw [this]; exact ⟨h1, h2⟩
/-- The weight as the reference counts it. -/
theorem weigh_is {inp : Int} {s : Stp} {L : List Int} {k : Nat} (w : Wts L k) (h : Formed inp k s) : weightS s L = if ari s.op = 0 then 1 else if ari s.op = 2 then L.getD s.a.toNat 0 + L.getD s.b.toNat 0 else if s.op = 11 then 2 * L.getD s.a.toNat 0 else if s.op = 8 ∧ s.n ≠ 0 then L.getD s.a.toNat 0 * (if s.n < 0 then 0 - s.n else s.n) else L.getD s.a.toNat 0 := by
  unfold weightS
  by_cases h8 : s.op = 8
  · have : ari s.op = 1 := by rw [h8]; decide
    rw [this, h8]
    by_cases hn : s.n = 0
    · rw [hn, show max (max (0 : Int) (0 - 0)) 1 = 1 by decide]; simp
    · by_cases h0 : s.n < 0
      · have : max (max s.n (0 - s.n)) 1 = 0 - s.n := by omega
        rw [this]; simp [hn, h0, Int.mul_comm]
      · have : max (max s.n (0 - s.n)) 1 = s.n := by omega
        rw [this]; simp [hn, h0, Int.mul_comm]
  · simp [h8]
theorem weigh_o {inp : Int} {o : OSt} {L : List Int} {k : Nat} (w : Wts L k) (h : Formed inp k o.stp) : weightS o.stp L = if ari o.op = 0 then 1 else if ari o.op = 2 then L.getD o.a.toNat 0 + L.getD o.b.toNat 0 else if o.op = 11 then 2 * L.getD o.a.toNat 0 else if o.op = 8 ∧ o.n ≠ 0 then L.getD o.a.toNat 0 * (if o.n < 0 then 0 - o.n else o.n) else L.getD o.a.toNat 0 := weigh_is w h
end Go.Proofs.YtmkonbkdjmfjhaaGreatDoor
