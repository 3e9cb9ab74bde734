/- Contracts of hand.Pick, R, small, Row, InRow, InRows. -/
import Derived.Test.YtmkonbkdjmfjhaaGreatDoorHnB
import Derived.Test.YtmkonbkdjmfjhaaGreatDoorGro
namespace Go.Proofs.YtmkonbkdjmfjhaaGreatDoor
open Go.RowKit


/-- The cells of a fraction of the reference's. -/
abbrev RT := Bool × Value × Value
def rqc (t : RT) : List Value := [.bool t.1, t.2.1, t.2.2]
def rqd : RT := (false, undef, undef)
def rtv (t : RT) : Value := .agg #[.bool t.1, t.2.1, t.2.2]
/-- The cells ts are the fractions qs. -/
structure RTs (h : Hp) (ts : List RT) (qs : List Rat) : Prop where
  len : ts.length = qs.length
  at_ : ∀ i, i < qs.length → RQ h (rtv (ts.getD i rqd)) (qs.getD i 0)
theorem RTs.gw {h h' : Hp} {ts : List RT} {qs : List Rat} (r : RTs h ts qs) (u : Gw h h') : RTs h' ts qs := ⟨r.len, fun i hi => (r.at_ i hi).gw u⟩
theorem RTs.nil {h : Hp} : RTs h [] [] := ⟨rfl, fun i hi => by simp at hi⟩
theorem getD_snoc {α : Type} (l : List α) (x d : α) (i : Nat) : (l ++ [x]).getD i d = if i < l.length then l.getD i d else if i = l.length then x else d := by
  split
  · rename_i h; simp [List.getElem?_append_left h]
  · rename_i h
    split
    · rename_i h2; subst h2; simp
    · rename_i h2; simp [List.getElem?_eq_none (show (l ++ [x]).length ≤ i by simp; omega)]
theorem RTs.snoc {h : Hp} {ts : List RT} {qs : List Rat} (r : RTs h ts qs) {t : RT} {q : Rat} (hq : RQ h (rtv t) q) : RTs h (ts ++ [t]) (qs ++ [q]) := by
  refine ⟨by simp [r.len], fun i hi => ?_⟩
  rw [getD_snoc, getD_snoc, r.len]
  split
  · rename_i h1; exact r.at_ i h1
  · rename_i h1
    have : i = qs.length := by simp at hi; omega
    rw [if_pos this, if_pos this]; exact hq
/-- All of them are small enough. -/
def Fit (q : Rat) : Prop := iabs q.num < 18446744073709551616 ∧ q.den < 18446744073709551616
theorem take_snoc' {α : Type} {l : List α} {k : Nat} (d : α) (h : k < l.length) : l.take (k + 1) = l.take k ++ [l.getD k d] := by
  rw [List.take_add_one]; simp [h]


/-- hand.Pick: the remainder from 0 on. -/
def pick (n : Int) (m : Nat) : Nat := (n % (m : Int)).toNat
theorem pick_lt (n : Int) (m : Nat) (h : 0 < m) : pick n m < m := by
  unfold pick
  have h1 := Int.emod_nonneg n (show (m : Int) ≠ 0 by omega)
  have h2 := Int.emod_lt_of_pos n (show (0 : Int) < m by omega)
  omega
theorem pick_int (n : Int) (m : Nat) (h : 0 < m) : ((pick n m : Nat) : Int) = n % (m : Int) := by
  unfold pick
  have h1 := Int.emod_nonneg n (show (m : Int) ≠ 0 by omega)
  omega

theorem tmod_neg (n : Int) (m : Nat) (hm : 0 < m) (hn : n < 0) : (n % (m : Int) = 0 ∧ n.tmod (m : Int) = 0) ∨ (0 < n % (m : Int) ∧ n.tmod (m : Int) = n % (m : Int) - m) := by
  have b1 := Int.emod_nonneg n (show (m : Int) ≠ 0 by omega)
  rw [Int.tmod_eq_emod]
  by_cases h : (m : Int) ∣ n
  · left
    rw [if_pos (.inr h)]
    have := Int.emod_eq_zero_of_dvd h
    exact ⟨this, by omega⟩
  · right
    have h2 : ¬ (n % (m : Int) = 0) := fun h' => h (Int.dvd_of_emod_eq_zero h')
    rw [if_neg (by intro h'; rcases h' with h' | h'; omega; exact h h')]
    refine ⟨by omega, by simp⟩

/-- The denominators that hand.R draws from. -/
def rDen (k : Nat) : Nat := match k with | 0 => 1 | 1 => 1 | 2 => 1 | 3 => 2 | 4 => 3 | _ => 4
theorem rDen_pos (k : Nat) : 0 < rDen k := by unfold rDen; split <;> omega
theorem rDen_le (k : Nat) : rDen k ≤ 4 := by unfold rDen; split <;> omega
/-- hand.R's fraction. -/
def handRq (n : Int) : Rat := mkRat ((pick n 41 : Int) - 20) (rDen (pick (n.tdiv 41) 6))
/-- make.small's fraction. -/
def smallq (n : Int) : Rat := mkRat ((pick n 9 : Int) - 4) (pick (n.tdiv 9) 2 + 1)
theorem tdiv_bd (n : Int) (m : Int) (hm : 1 < m) (hn0 : -9223372036854775808 ≤ n) (hn1 : n ≤ 9223372036854775807) : -9223372036854775808 ≤ n.tdiv m ∧ n.tdiv m ≤ 9223372036854775807 := by
  have h1 : (n.tdiv m).natAbs ≤ n.natAbs / 2 := by
    rw [Int.natAbs_tdiv]; exact Nat.div_le_div_left (by omega) (by omega)
  omega

theorem pick_neg {n : Int} {m : Nat} (hm : 0 < m) (h : n.tmod (m : Int) < 0) : n.tmod (m : Int) + m = ((pick n m : Nat) : Int) := by
  rw [pick_int n m hm]
  rcases Int.lt_or_le n 0 with hn | hn
  · rcases tmod_neg n m hm hn with ⟨h1, h2⟩ | ⟨h1, h2⟩ <;> omega
  · rw [Int.tmod_eq_emod_of_nonneg hn] at h
    have := Int.emod_nonneg n (show (m : Int) ≠ 0 by omega)
    omega
theorem pick_nneg {n : Int} {m : Nat} (hm : 0 < m) (h : ¬ n.tmod (m : Int) < 0) : n.tmod (m : Int) = ((pick n m : Nat) : Int) := by
  rw [pick_int n m hm]
  rcases Int.lt_or_le n 0 with hn | hn
  · rcases tmod_neg n m hm hn with ⟨h1, h2⟩ | ⟨h1, h2⟩
    · omega
    · have := Int.emod_lt_of_pos n (show (0 : Int) < m by omega)
      omega
  · rw [Int.tmod_eq_emod_of_nonneg hn]
theorem tmod_bd (n : Int) {m : Nat} (hm : 0 < m) : -(m : Int) < n.tmod (m : Int) ∧ n.tmod (m : Int) < m := by
  have h1 := Int.tmod_lt_of_pos n (show (0 : Int) < m by omega)
  have h2 := Int.lt_tmod_of_pos n (show (0 : Int) < m by omega)
  exact ⟨h2, h1⟩

set_option maxRecDepth 100000 in
set_option maxHeartbeats 600000 in
theorem hPick (n : Int) (m : Nat) (hm : 0 < m) (hm2 : m < 1000000) (w : World) (h : Hp) (g : G w h) :
    Calls Tryz.prog 11 #[.int .i64 n, .int .i64 (m : Nat)] w (Ret w h fun v _ => v = .int .i64 (pick n m : Nat)) := by
  have hs := St.start g
  obtain ⟨b1, b2⟩ := tmod_bd n hm
  refine enter (n := 14) Tryz.func11 rfl rfl (Nat.le_of_ble_eq_true (by kernel_rfl)) [(0, .int .i64 n), (1, .int .i64 (m : Nat))] rfl ?_
  refine CG.seq ?_
  refine CG.listed ?_
  refine LG.val 4 (.int .i64 0) w (by kernel_rfl) (by kernel_rfl) (by kernel_rfl) ?_
  refine LG.next (by kernel_rfl) ?_
  refine CG.seq ?_
  refine CG.listed ?_
  refine LG.val 5 (.int .i64 n) w (by kernel_rfl) (by kernel_rfl) (by kernel_rfl) ?_
  refine LG.val 6 (.int .i64 (m : Nat)) w (by kernel_rfl) (by kernel_rfl) (by kernel_rfl) ?_
  refine LG.val 7 (.int .i64 (n.tmod (m : Nat))) w (by kernel_rfl) (by kernel_rfl) (opRem (t := 3) (u := 3) (x := .tmp 5) (y := .tmp 6) (k := .i64) (a := n) (b := (m : Nat)) (by kernel_rfl) (by kernel_rfl) (by kernel_rfl) (by omega) _) ?_
  refine LG.val 0 (.int .i64 (n.tmod (m : Nat))) w (by kernel_rfl) (by kernel_rfl) (by kernel_rfl) ?_
  refine LG.next (by kernel_rfl) ?_
  refine CG.seq ?_
  refine CG.seq ?_
  refine CG.listed ?_
  refine LG.val 8 (.int .i64 (n.tmod (m : Nat))) w (by kernel_rfl) (by kernel_rfl) (by kernel_rfl) ?_
  cases hb1 : (decide ((n.tmod (m : Nat) : Int) < (0 : Int)))
  ·
    have phb1 := of_decide_eq_false hb1
    refine LG.val 9 (.bool false) w (by kernel_rfl) (by kernel_rfl) (rb (by kernel_rfl) hb1) ?_
    refine LG.next (by kernel_rfl) ?_
    refine CG.condF (by kernel_rfl) (by kernel_rfl) ?_
    refine CG.skipN ?_
    refine CG.seq ?_
    refine CG.listed ?_
    refine LG.val 13 (.int .i64 (n.tmod (m : Nat))) w (by kernel_rfl) (by kernel_rfl) (by kernel_rfl) ?_
    refine LG.val 4 (.int .i64 (n.tmod (m : Nat))) w (by kernel_rfl) (by kernel_rfl) (by kernel_rfl) ?_
    refine LG.next (by kernel_rfl) ?_
    refine CG.to [(4, .int .i64 (n.tmod (m : Nat)))] (by kernel_rfl) ?_
    refine CG.ret ?_
    exact retP hs [] (.int .i64 (n.tmod (m : Nat))) (by kernel_rfl) (by kernel_rfl) (congrArg (Value.int .i64) (pick_nneg hm (by assumption)))
  ·
    have phb1 := of_decide_eq_true hb1
    refine LG.val 9 (.bool true) w (by kernel_rfl) (by kernel_rfl) (rb (by kernel_rfl) hb1) ?_
    refine LG.next (by kernel_rfl) ?_
    refine CG.condT (by kernel_rfl) (by kernel_rfl) ?_
    refine CG.listed ?_
    refine LG.val 10 (.int .i64 (n.tmod (m : Nat))) w (by kernel_rfl) (by kernel_rfl) (by kernel_rfl) ?_
    refine LG.val 11 (.int .i64 (m : Nat)) w (by kernel_rfl) (by kernel_rfl) (by kernel_rfl) ?_
    refine LG.val 12 (.int .i64 ((n.tmod (m : Nat)) + (m : Nat))) w (by kernel_rfl) (by kernel_rfl) (ri64 (by kernel_rfl) (by omega) (by omega)) ?_
    refine LG.val 0 (.int .i64 ((n.tmod (m : Nat)) + (m : Nat))) w (by kernel_rfl) (by kernel_rfl) (by kernel_rfl) ?_
    refine LG.next (by kernel_rfl) ?_
    refine CG.to [(0, .int .i64 ((n.tmod (m : Nat)) + (m : Nat))), (4, .int .i64 0)] (by kernel_rfl) ?_
    refine CG.seq ?_
    refine CG.listed ?_
    refine LG.val 13 (.int .i64 ((n.tmod (m : Nat)) + (m : Nat))) w (by kernel_rfl) (by kernel_rfl) (by kernel_rfl) ?_
    refine LG.val 4 (.int .i64 ((n.tmod (m : Nat)) + (m : Nat))) w (by kernel_rfl) (by kernel_rfl) (by kernel_rfl) ?_
    refine LG.next (by kernel_rfl) ?_
    refine CG.ret ?_
    exact retP hs [] (.int .i64 ((n.tmod (m : Nat)) + (m : Nat))) (by kernel_rfl) (by kernel_rfl) (congrArg (Value.int .i64) (pick_neg hm (by assumption)))


theorem index6_0 (w : World) : (Instr.index 81 (.agg #[.int .i64 1, .int .i64 1, .int .i64 1, .int .i64 2, .int .i64 3, .int .i64 4]) (.int .i64 0)).run Tryz.prog w = .ok (.int .i64 1) w := by kernel_rfl
theorem index6_1 (w : World) : (Instr.index 81 (.agg #[.int .i64 1, .int .i64 1, .int .i64 1, .int .i64 2, .int .i64 3, .int .i64 4]) (.int .i64 1)).run Tryz.prog w = .ok (.int .i64 1) w := by kernel_rfl
theorem index6_2 (w : World) : (Instr.index 81 (.agg #[.int .i64 1, .int .i64 1, .int .i64 1, .int .i64 2, .int .i64 3, .int .i64 4]) (.int .i64 2)).run Tryz.prog w = .ok (.int .i64 1) w := by kernel_rfl
theorem index6_3 (w : World) : (Instr.index 81 (.agg #[.int .i64 1, .int .i64 1, .int .i64 1, .int .i64 2, .int .i64 3, .int .i64 4]) (.int .i64 3)).run Tryz.prog w = .ok (.int .i64 2) w := by kernel_rfl
theorem index6_4 (w : World) : (Instr.index 81 (.agg #[.int .i64 1, .int .i64 1, .int .i64 1, .int .i64 2, .int .i64 3, .int .i64 4]) (.int .i64 4)).run Tryz.prog w = .ok (.int .i64 3) w := by kernel_rfl
theorem index6_5 (w : World) : (Instr.index 81 (.agg #[.int .i64 1, .int .i64 1, .int .i64 1, .int .i64 2, .int .i64 3, .int .i64 4]) (.int .i64 5)).run Tryz.prog w = .ok (.int .i64 4) w := by kernel_rfl
theorem index6 (k : Nat) (h : k < 6) (w : World) : (Instr.index 81 (.agg #[.int .i64 1, .int .i64 1, .int .i64 1, .int .i64 2, .int .i64 3, .int .i64 4]) (.int .i64 (k : Int))).run Tryz.prog w = .ok (.int .i64 ((rDen k : Nat) : Int)) w := by
  have : k = 0 ∨ k = 1 ∨ k = 2 ∨ k = 3 ∨ k = 4 ∨ k = 5 := by omega
  rcases this with rfl | rfl | rfl | rfl | rfl | rfl
  · exact index6_0 w
  · exact index6_1 w
  · exact index6_2 w
  · exact index6_3 w
  · exact index6_4 w
  · exact index6_5 w


theorem idx6 {Γ : Env} {o : Oper} {x y : Operand} (k : Nat) (h : k < 6) (ho : o.op = .index 81 x y) (hx : ev Γ x = .agg #[.int .i64 1, .int .i64 1, .int .i64 1, .int .i64 2, .int .i64 3, .int .i64 4]) (hy : ev Γ y = .int .i64 (k : Nat)) (w : World) :
    (execOp (ev Γ) o).run Tryz.prog w = .ok (.value (.int .i64 (rDen k : Nat))) w := by
  unfold execOp; simp only [ho]; rw [hx, hy, Sem.run_bind, index6 k h w]; rfl

set_option maxRecDepth 100000 in
set_option maxHeartbeats 600000 in
theorem hR (n : Int) (h0 : -9223372036854775808 ≤ n) (h1 : n ≤ 9223372036854775807) (w : World) (h : Hp) (g : G w h) :
    Calls Tryz.prog 14 #[.int .i64 n] w (Ret w h fun v h => RQ h v (handRq n)) := by
  have hs := St.start g
  obtain ⟨t0, t1⟩ := tdiv_bd n 41 (by omega) h0 h1
  have l1 := pick_lt n 41 (by omega)
  have l2 := pick_lt (n.tdiv 41) 6 (by omega)
  have p1 := rDen_pos (pick (n.tdiv 41) 6)
  have p2 := rDen_le (pick (n.tdiv 41) 6)
  refine enter (n := 12) Tryz.func14 rfl rfl (Nat.le_of_ble_eq_true (by kernel_rfl)) [(0, .int .i64 n)] rfl ?_
  refine CG.seq ?_
  refine CG.listed ?_
  refine LG.var 2 45 ([.bool false, .slice none 0 0, .slice none 0 0]) hs (by kernel_rfl) (by kernel_rfl) (by kernel_rfl) (fun b1 w2 h3 nb_ u4 hs => ?_)
  refine LG.next (by kernel_rfl) ?_
  refine CG.seq ?_
  refine CG.listed ?_
  refine LG.val 3 (.int .i64 n) w2 (by kernel_rfl) (by kernel_rfl) (by kernel_rfl) ?_
  refine LG.call 4 11 #[.int .i64 n, .int .i64 41] (by kernel_rfl) (by kernel_rfl) (by kernel_rfl) ?_
  refine (hPick (n) 41 (by omega) (by omega) w2 h3 hs.g).mono ?_
  rintro _ w5 ⟨vu7, h6, rfl, u7, rfl⟩
  refine ⟨_, rfl, ?_⟩
  replace hs := hs.step u7
  refine LG.val 5 (.int .i64 ((pick (n) 41 : Nat) - 20)) w5 (by kernel_rfl) (by kernel_rfl) (ri64 (by kernel_rfl) (by omega) (by omega)) ?_
  refine LG.val 6 (.agg #[.int .i64 1, .int .i64 1, .int .i64 1, .int .i64 2, .int .i64 3, .int .i64 4]) w5 (by kernel_rfl) (by kernel_rfl) (by kernel_rfl) ?_
  refine LG.val 7 (.int .i64 n) w5 (by kernel_rfl) (by kernel_rfl) (by kernel_rfl) ?_
  refine LG.val 8 (.int .i64 (n.tdiv 41)) w5 (by kernel_rfl) (by kernel_rfl) (rint (n := IntKind.wrap .i64 (n.tdiv 41)) (by kernel_rfl) (fitI64 (by omega) (by omega))) ?_
  refine LG.call 9 11 #[.int .i64 (n.tdiv 41), .int .i64 6] (by kernel_rfl) (by kernel_rfl) (by kernel_rfl) ?_
  refine (hPick (n.tdiv 41) 6 (by omega) (by omega) w5 h6 hs.g).mono ?_
  rintro _ w8 ⟨vu10, h9, rfl, u10, rfl⟩
  refine ⟨_, rfl, ?_⟩
  replace hs := hs.step u10
  refine LG.val 10 (.int .i64 (rDen (pick (n.tdiv 41) 6) : Nat)) w8 (by kernel_rfl) (by kernel_rfl) (idx6 (x := .tmp 6) (y := .tmp 9) (pick (n.tdiv 41) 6) l2 (by kernel_rfl) (by kernel_rfl) (by kernel_rfl) _) ?_
  refine LG.call 11 30 #[.int .i64 ((pick (n) 41 : Nat) - 20), .int .i64 (rDen (pick (n.tdiv 41) 6) : Nat)] (by kernel_rfl) (by kernel_rfl) (by kernel_rfl) ?_
  refine (rOver ((pick (n) 41 : Nat) - 20) ((rDen (pick (n.tdiv 41) 6) : Nat)) (by omega) (by omega) (by omega) (by omega) w8 h9 hs.g).mono ?_
  rintro _ w19 ⟨vu21, h20, rfl, u21, ⟨A11, c12, A15, c16, rfl, hc13, hc17, hA14, hA18⟩⟩
  refine ⟨_, rfl, ?_⟩
  replace hs := hs.step u21
  refine LG.put 0 0 ([.bool (ineg (handRq n).num), .slice A11 ((lim (iabs (handRq n).num)).length) c12, .slice A15 ((lim (handRq n).den).length) c16]) hs g (by kernel_rfl) (by kernel_rfl) (by kernel_rfl) (by kernel_rfl) (fun w22 pu hs => ?_)
  refine LG.next (by kernel_rfl) ?_
  refine CG.to [(2, .pointer (some ⟨b1, 0, none⟩))] (by kernel_rfl) ?_
  refine CG.ret ?_
  exact retP hs [(0, 0, 3)] (.agg #[.bool (ineg (handRq n).num), .slice A11 ((lim (iabs (handRq n).num)).length) c12, .slice A15 ((lim (handRq n).den).length) c16]) (by kernel_rfl) (by kernel_rfl) ⟨_, _, _, _, rfl, hc13, hc17, hA14, hA18⟩


def vc (v : Value) : List Value := [v]
/-- What hand.Row makes. -/
def rowq (zs : List Int) : Nat → List Rat
  | 0 => []
  | k + 1 => rowq zs k ++ [if k < zs.length then handRq (zs.getD k 0) else 0]
theorem rowq_len (zs : List Int) (k : Nat) : (rowq zs k).length = k := by induction k with | zero => rfl | succ k ih => simp [rowq, ih]
/-- The numbers fit. -/
def I64s (zs : List Int) : Prop := ∀ k, -9223372036854775808 ≤ zs.getD k 0 ∧ zs.getD k 0 ≤ 9223372036854775807
structure RVs (h : Hp) (vs : List Value) (qss : List (List Rat)) : Prop where
  len : vs.length = qss.length
  at_ : ∀ i, i < qss.length → ∃ A cap, ∃ ts : List RT, vs.getD i undef = .slice A ts.length cap ∧ ts.length ≤ cap ∧ SlO 3 rqc rqd h A ts ∧ RTs h ts (qss.getD i [])
theorem RVs.gw {h h' : Hp} {vs : List Value} {qss : List (List Rat)} (r : RVs h vs qss) (u : Gw h h') : RVs h' vs qss := ⟨r.len, fun i hi => by
  obtain ⟨A, cap, ts, h1, h2, h3, h4⟩ := r.at_ i hi
  exact ⟨A, cap, ts, h1, h2, h3.gw u, h4.gw u⟩⟩
structure QVs (h : Hp) (vs : List Value) (qss : List (List Rat)) : Prop where
  len : vs.length = qss.length
  at_ : ∀ i, i < qss.length → SlV 5 qc 0 h (vs.getD i undef) (qss.getD i [])
theorem QVs.gw {h h' : Hp} {vs : List Value} {qss : List (List Rat)} (r : QVs h vs qss) (u : Gw h h') : QVs h' vs qss := ⟨r.len, fun i hi => (r.at_ i hi).gw u⟩
theorem QVs.nil {h : Hp} : QVs h [] [] := ⟨rfl, fun i hi => by simp at hi⟩
theorem QVs.snoc {h : Hp} {vs : List Value} {qss : List (List Rat)} (r : QVs h vs qss) {v : Value} {l : List Rat} (hv : SlV 5 qc 0 h v l) : QVs h (vs ++ [v]) (qss ++ [l]) := by
  refine ⟨by simp [r.len], fun i hi => ?_⟩
  rw [getD_snoc, getD_snoc, r.len]
  split
  · rename_i h1; exact r.at_ i h1
  · rename_i h1
    have : i = qss.length := by simp at hi; omega
    rw [if_pos this, if_pos this]; exact hv

end Go.Proofs.YtmkonbkdjmfjhaaGreatDoor
