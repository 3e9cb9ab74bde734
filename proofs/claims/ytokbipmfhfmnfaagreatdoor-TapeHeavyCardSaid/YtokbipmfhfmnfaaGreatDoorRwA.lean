/- Contracts of hand.Pick, R, small, Row, InRow, InRows. -/
import Derived.Test.YtokbipmfhfmnfaaGreatDoorHnB
import Derived.Test.YtokbipmfhfmnfaaGreatDoorGro
namespace Go.Proofs.YtokbipmfhfmnfaaGreatDoor
open Go.RowKit


/-- The cells of a fraction of the reference's. -/
abbrev RT := Bool × Value × Value
def rqc (t : RT) : List Value := [.bool t.1, t.2.1, t.2.2]
def rqd : RT := (false, undef, undef)
def rtv (t : RT) : Value := .agg #[.bool t.1, t.2.1, t.2.2]
/-- The cells ts are the fractions qs. -/
structure RTs (h : Hp) (ts : List RT) (qs : List Rat) : Prop where
  len : ts.length = qs.length
  at_ : ∀ i, i < qs.length → RQ h (rtv (ts.getD i rqd)) (qs.getD i 0)
theorem RTs.gw {h h' : Hp} {ts : List RT} {qs : List Rat} (r : RTs h ts qs) (u : Gw h h') : RTs h' ts qs := ⟨r.len, fun i hi => (r.at_ i hi).gw u⟩
theorem RTs.nil {h : Hp} : RTs h [] [] := ⟨rfl, fun i hi => by simp at hi⟩
theorem getD_snoc {α : Type} (l : List α) (x d : α) (i : Nat) : (l ++ [x]).getD i d = if i < l.length then l.getD i d else if i = l.length then x else d := by
  split
  · rename_i h; simp [List.getElem?_append_left h]
  · rename_i h
    split
    · rename_i h2; subst h2; simp
    · rename_i h2; simp [List.getElem?_eq_none (show (l ++ [x]).length ≤ i by simp; omega)]
theorem RTs.snoc {h : Hp} {ts : List RT} {qs : List Rat} (r : RTs h ts qs) {t : RT} {q : Rat} (hq : RQ h (rtv t) q) : RTs h (ts ++ [t]) (qs ++ [q]) := by
  refine ⟨by simp [r.len], fun i hi => ?_⟩
  rw [getD_snoc, getD_snoc, r.len]
  split
  · rename_i h1; exact r.at_ i h1
  · rename_i h1
    have : i = qs.length := by simp at hi; omega
    rw [if_pos this, if_pos this]; exact hq
/-- All of them are small enough. -/
def Fit (q : Rat) : Prop := iabs q.num < 18446744073709551616 ∧ q.den < 18446744073709551616
theorem take_snoc' {α : Type} {l : List α} {k : Nat} (d : α) (h : k < l.length) : l.take (k + 1) = l.take k ++ [l.getD k d] := by
  rw [List.take_add_one]; simp [h]

set_option maxRecDepth 100000 in
set_option maxHeartbeats 600000 in
theorem hInRow (A : Option Addr) (cap : Nat) (ts : List RT) (qs : List Rat) (hl : qs.length ≤ 1000000) (hf : ∀ i, i < qs.length → Fit (qs.getD i 0)) (hc : ts.length ≤ cap) (w : World) (h : Hp) (g : G w h) (hA : SlO 3 rqc rqd h A ts) (hT : RTs h ts qs) :
    Calls Tryz.prog 21 #[.slice A ts.length cap] w (Ret w h fun v h => SlV 5 qc 0 h v qs) := by
  have hs := St.start g
  have hlen := hT.len
  refine enter (n := 20) Tryz.func21 rfl rfl (Nat.le_of_ble_eq_true (by kernel_rfl)) [(0, .slice A ts.length cap)] rfl ?_
  refine CG.seq ?_
  refine CG.listed ?_
  refine LG.val 2 (.slice none 0 0) w (by kernel_rfl) (by kernel_rfl) (by kernel_rfl) ?_
  refine LG.next (by kernel_rfl) ?_
  refine CG.seq ?_
  refine CG.listed ?_
  refine LG.val 3 (.slice none 0 0) w (by kernel_rfl) (by kernel_rfl) (by kernel_rfl) ?_
  refine LG.next (by kernel_rfl) ?_
  refine CG.seq ?_
  refine CG.seq ?_
  refine CG.listed ?_
  refine LG.val 4 (.int .i64 0) w (by kernel_rfl) (by kernel_rfl) (by kernel_rfl) ?_
  refine LG.next (by kernel_rfl) ?_
  refine CG.block ?_
  refine CG.to [(0, .slice A ts.length cap), (2, .slice none 0 0), (4, .int .i64 0), (3, .slice none 0 0)] (by kernel_rfl) ?_
  refine CG.loop (fun μ_ Γ w_ => ∃ (k : Nat) (s : Value) (h_ : Hp), μ_ = qs.length - k ∧ Γ = [(0, .slice A ts.length cap), (2, .slice none 0 0), (4, .int .i64 (k : Nat)), (3, s)] ∧ St w h w_ h_ [] ∧ (SlO 3 rqc rqd h_ A ts) ∧ (RTs h_ ts qs) ∧ (k ≤ qs.length) ∧ (Gro h [] w_ h_ 81 5 s ((qs.take k).length) ((qs.take k).flatMap qc))) _ ⟨0, (.slice none 0 0), h, rfl, rfl, hs.to _ (by kernel_rfl), hA, hT, Nat.zero_le _, Gro.nil⟩ ?_
  rintro _ _ w1 ⟨k, s, h2, hm3, rfl, hs, hA, hT, hk, hg⟩
  have htk : (qs.take k).length = k := by simp; omega
  -- round
  refine CG.seq ?_
  refine CG.seq ?_
  refine CG.listed ?_
  refine LG.val 5 (.int .i64 (k : Nat)) w1 (by kernel_rfl) (by kernel_rfl) (by kernel_rfl) ?_
  refine LG.val 6 (.slice A ts.length cap) w1 (by kernel_rfl) (by kernel_rfl) (by kernel_rfl) ?_
  refine LG.val 7 (.int .i64 (ts.length : Nat)) w1 (by kernel_rfl) (by kernel_rfl) (by kernel_rfl) ?_
  cases hb4 : (decide (((k : Nat) : Int) < ((ts.length : Nat) : Int)))
  ·
    have phb4 := of_decide_eq_false hb4
    refine LG.val 8 (.bool false) w1 (by kernel_rfl) (by kernel_rfl) (rb (by kernel_rfl) hb4) ?_
    refine LG.next (by kernel_rfl) ?_
    refine CG.condF (by kernel_rfl) (by kernel_rfl) ?_
    refine CG.exit ?_
    show CG _ _ _ _ _ _ _ _
    refine CG.seq ?_
    refine CG.listed ?_
    refine LG.val 19 (s) w1 (by kernel_rfl) (by kernel_rfl) (by kernel_rfl) ?_
    refine LG.val 2 (s) w1 (by kernel_rfl) (by kernel_rfl) (by kernel_rfl) ?_
    refine LG.next (by kernel_rfl) ?_
    refine CG.to [(2, s)] (by kernel_rfl) ?_
    refine CG.ret ?_
    obtain ⟨hq_, hs, pw, A_, cap_, hv_, hc_, hz_, sg_⟩ := Gro.pub hs hg
    have hkq : qs.take k = qs := List.take_of_length_le (by omega)
    rw [hkq] at hv_ hc_ hz_ sg_
    subst hv_
    exact retP hs [] (.slice A_ qs.length cap_) (by kernel_rfl) (by kernel_rfl) (SlV.of_pub (fun _ => rfl) hc_ hz_ sg_)
  ·
    have phb4 := of_decide_eq_true hb4
    refine LG.val 8 (.bool true) w1 (by kernel_rfl) (by kernel_rfl) (rb (by kernel_rfl) hb4) ?_
    refine LG.next (by kernel_rfl) ?_
    refine CG.condT (by kernel_rfl) (by kernel_rfl) ?_
    refine CG.skipN ?_
    refine CG.seq ?_
    refine CG.block ?_
    refine CG.listed ?_
    refine LG.val 11 (s) w1 (by kernel_rfl) (by kernel_rfl) (by kernel_rfl) ?_
    refine LG.val 12 (.slice A ts.length cap) w1 (by kernel_rfl) (by kernel_rfl) (by kernel_rfl) ?_
    refine LG.val 13 (.int .i64 (k : Nat)) w1 (by kernel_rfl) (by kernel_rfl) (by kernel_rfl) ?_
    refine LG.val 14 (.pointer (some ⟨(aB A), aO A + k * 3, none⟩)) w1 (by kernel_rfl) (by kernel_rfl) (ixAddr (t := 28) (e := 95) (x := .tmp 12) (ix := .tmp 13) (A := A) (len := ts.length) (cap := cap) (sz := 3) (i := (k : Nat)) k (by kernel_rfl) (by kernel_rfl) (by kernel_rfl) (by kernel_rfl) (by kernel_rfl) (hA.ok (by omega)) (by omega) (by omega) _) ?_
    refine LG.val 15 (.agg #[.bool ((ts.getD k rqd).1), (ts.getD k rqd).2.1, (ts.getD k rqd).2.2]) w1 (by kernel_rfl) (by kernel_rfl) (Seg.run (hA.el k (by omega)) hs.g (Ext.refl _) (by kernel_rfl)) ?_
    refine LG.call 16 79 #[.agg #[.bool ((ts.getD k rqd).1), (ts.getD k rqd).2.1, (ts.getD k rqd).2.2]] (by kernel_rfl) (by kernel_rfl) (by kernel_rfl) ?_
    refine (hIn _ (qs.getD k 0) (hf k (by omega)).1 (hf k (by omega)).2 w1 h2 hs.g (hT.at_ k (by omega))).mono ?_
    rintro _ w5 ⟨vu7, h6, rfl, u7, rfl⟩
    refine ⟨_, rfl, ?_⟩
    replace hs := hs.step u7
    replace hg := hg.up u7
    replace hA := hA.gw u7.gr.gw
    replace hT := hT.gw u7.gr.gw
    refine LG.row 17 81 1 (qc (qs.getD k 0)) hs.g (by kernel_rfl) (by kernel_rfl) (by kernel_rfl) (fun b8 w9 h10 u11 hS12 => ?_)
    replace hs := hs.step u11
    replace hg := hg.up u11
    replace hA := hA.gw u11.gr.gw
    replace hT := hT.gw u11.gr.gw
    refine LG.app 18 (x := .tmp 11) (y := .tmp 17) (ty := 31) (e := 81) (z := .agg #[.bool false, .int .u64 0, .string (⟨#[]⟩), .int .u64 0, .string (⟨#[]⟩)]) (sz := 5) (bt := 56) (m := ((qs.take k).length)) (m2 := 1) (c := 1) (b := b8) (v := s) (cs := (qs.take k).flatMap qc) (news := qc (qs.getD k 0)) hs g hg hS12 (by kernel_rfl) (by kernel_rfl) (by kernel_rfl) (by kernel_rfl) (by kernel_rfl) (by kernel_rfl) (by kernel_rfl) (by kernel_rfl) (by decide) (by kernel_rfl) (by kernel_rfl) (by omega) (by omega) (fun s13 w14 h15 gr16 gg17 hl_ hs hg18 => ?_)
    replace hA := hA.gw gr16.gw
    replace hT := hT.gw gr16.gw
    replace hS12 := hS12.gw gr16.gw
    replace hg18 := Gro.snoc (l := qs.take k) (f := qc) (x := qs.getD k 0) hg18 (by kernel_rfl)
    refine LG.val 3 (s13) w14 (by kernel_rfl) (by kernel_rfl) (by kernel_rfl) ?_
    refine LG.next (by kernel_rfl) ?_
    refine CG.to [(0, .slice A ts.length cap), (2, .slice none 0 0), (4, .int .i64 (k : Nat)), (3, s13)] (by kernel_rfl) ?_
    refine CG.listed ?_
    refine LG.val 9 (.int .i64 (k : Nat)) w14 (by kernel_rfl) (by kernel_rfl) (by kernel_rfl) ?_
    refine LG.val 10 (.int .i64 (k + 1 : Nat)) w14 (by kernel_rfl) (by kernel_rfl) (rint (ri64 (n := (k : Nat) + 1) (by kernel_rfl) (by omega) (by omega)) (by omega)) ?_
    refine LG.val 4 (.int .i64 (k + 1 : Nat)) w14 (by kernel_rfl) (by kernel_rfl) (by kernel_rfl) ?_
    refine LG.done (by kernel_rfl) ?_
    intro a_ ka
    refine ⟨_, _, ?_, ⟨k + 1, s13, h15, rfl, rfl, hs.to _ (by kernel_rfl), hA, hT, by omega, (by rw [take_snoc' 0 (by omega)]; exact hg18)⟩, ka.to [(0, .slice A ts.length cap), (2, .slice none 0 0), (4, .int .i64 ((k + 1) : Nat)), (3, s13)] (by kernel_rfl)⟩
    omega


/-- hand.Pick: the remainder from 0 on. -/
def pick (n : Int) (m : Nat) : Nat := (n % (m : Int)).toNat
theorem pick_lt (n : Int) (m : Nat) (h : 0 < m) : pick n m < m := by
  unfold pick
  have h1 := Int.emod_nonneg n (show (m : Int) ≠ 0 by omega)
  have h2 := Int.emod_lt_of_pos n (show (0 : Int) < m by omega)
  omega
theorem pick_int (n : Int) (m : Nat) (h : 0 < m) : ((pick n m : Nat) : Int) = n % (m : Int) := by
  unfold pick
  have h1 := Int.emod_nonneg n (show (m : Int) ≠ 0 by omega)
  omega

theorem tmod_neg (n : Int) (m : Nat) (hm : 0 < m) (hn : n < 0) : (n % (m : Int) = 0 ∧ n.tmod (m : Int) = 0) ∨ (0 < n % (m : Int) ∧ n.tmod (m : Int) = n % (m : Int) - m) := by
  have b1 := Int.emod_nonneg n (show (m : Int) ≠ 0 by omega)
  rw [Int.tmod_eq_emod]
  by_cases h : (m : Int) ∣ n
  · left
    rw [if_pos (.inr h)]
    have := Int.emod_eq_zero_of_dvd h
    exact ⟨this, by omega⟩
  · right
    have h2 : ¬ (n % (m : Int) = 0) := fun h' => h (Int.dvd_of_emod_eq_zero h')
    rw [if_neg (by intro h'; rcases h' with h' | h'; omega; exact h h')]
    refine ⟨by omega, by simp⟩

/-- The denominators that hand.R draws from. -/
def rDen (k : Nat) : Nat := match k with | 0 => 1 | 1 => 1 | 2 => 1 | 3 => 2 | 4 => 3 | _ => 4
theorem rDen_pos (k : Nat) : 0 < rDen k := by unfold rDen; split <;> omega
theorem rDen_le (k : Nat) : rDen k ≤ 4 := by unfold rDen; split <;> omega
/-- hand.R's fraction. -/
def handRq (n : Int) : Rat := mkRat ((pick n 41 : Int) - 20) (rDen (pick (n.tdiv 41) 6))
/-- make.small's fraction. -/
def smallq (n : Int) : Rat := mkRat ((pick n 9 : Int) - 4) (pick (n.tdiv 9) 2 + 1)
theorem tdiv_bd (n : Int) (m : Int) (hm : 1 < m) (hn0 : -9223372036854775808 ≤ n) (hn1 : n ≤ 9223372036854775807) : -9223372036854775808 ≤ n.tdiv m ∧ n.tdiv m ≤ 9223372036854775807 := by
  have h1 : (n.tdiv m).natAbs ≤ n.natAbs / 2 := by
    rw [Int.natAbs_tdiv]; exact Nat.div_le_div_left (by omega) (by omega)
  omega

theorem pick_neg {n : Int} {m : Nat} (hm : 0 < m) (h : n.tmod (m : Int) < 0) : n.tmod (m : Int) + m = ((pick n m : Nat) : Int) := by
  rw [pick_int n m hm]
  rcases Int.lt_or_le n 0 with hn | hn
  · rcases tmod_neg n m hm hn with ⟨h1, h2⟩ | ⟨h1, h2⟩ <;> omega
  · rw [Int.tmod_eq_emod_of_nonneg hn] at h
    have := Int.emod_nonneg n (show (m : Int) ≠ 0 by omega)
    omega
theorem pick_nneg {n : Int} {m : Nat} (hm : 0 < m) (h : ¬ n.tmod (m : Int) < 0) : n.tmod (m : Int) = ((pick n m : Nat) : Int) := by
  rw [pick_int n m hm]
  rcases Int.lt_or_le n 0 with hn | hn
  · rcases tmod_neg n m hm hn with ⟨h1, h2⟩ | ⟨h1, h2⟩
    · omega
    · have := Int.emod_lt_of_pos n (show (0 : Int) < m by omega)
      omega
  · rw [Int.tmod_eq_emod_of_nonneg hn]
theorem tmod_bd (n : Int) {m : Nat} (hm : 0 < m) : -(m : Int) < n.tmod (m : Int) ∧ n.tmod (m : Int) < m := by
  have h1 := Int.tmod_lt_of_pos n (show (0 : Int) < m by omega)
  have h2 := Int.lt_tmod_of_pos n (show (0 : Int) < m by omega)
  exact ⟨h2, h1⟩

set_option maxRecDepth 100000 in
set_option maxHeartbeats 600000 in
theorem hPick (n : Int) (m : Nat) (hm : 0 < m) (hm2 : m < 1000000) (w : World) (h : Hp) (g : G w h) :
    Calls Tryz.prog 18 #[.int .i64 n, .int .i64 (m : Nat)] w (Ret w h fun v _ => v = .int .i64 (pick n m : Nat)) := by
  have hs := St.start g
  obtain ⟨b1, b2⟩ := tmod_bd n hm
  refine enter (n := 14) Tryz.func18 rfl rfl (Nat.le_of_ble_eq_true (by kernel_rfl)) [(0, .int .i64 n), (1, .int .i64 (m : Nat))] rfl ?_
  refine CG.seq ?_
  refine CG.listed ?_
  refine LG.val 4 (.int .i64 0) w (by kernel_rfl) (by kernel_rfl) (by kernel_rfl) ?_
  refine LG.next (by kernel_rfl) ?_
  refine CG.seq ?_
  refine CG.listed ?_
  refine LG.val 5 (.int .i64 n) w (by kernel_rfl) (by kernel_rfl) (by kernel_rfl) ?_
  refine LG.val 6 (.int .i64 (m : Nat)) w (by kernel_rfl) (by kernel_rfl) (by kernel_rfl) ?_
  refine LG.val 7 (.int .i64 (n.tmod (m : Nat))) w (by kernel_rfl) (by kernel_rfl) (opRem (t := 3) (u := 3) (x := .tmp 5) (y := .tmp 6) (k := .i64) (a := n) (b := (m : Nat)) (by kernel_rfl) (by kernel_rfl) (by kernel_rfl) (by omega) _) ?_
  refine LG.val 0 (.int .i64 (n.tmod (m : Nat))) w (by kernel_rfl) (by kernel_rfl) (by kernel_rfl) ?_
  refine LG.next (by kernel_rfl) ?_
  refine CG.seq ?_
  refine CG.seq ?_
  refine CG.listed ?_
  refine LG.val 8 (.int .i64 (n.tmod (m : Nat))) w (by kernel_rfl) (by kernel_rfl) (by kernel_rfl) ?_
  cases hb1 : (decide ((n.tmod (m : Nat) : Int) < (0 : Int)))
  ·
    have phb1 := of_decide_eq_false hb1
    refine LG.val 9 (.bool false) w (by kernel_rfl) (by kernel_rfl) (rb (by kernel_rfl) hb1) ?_
    refine LG.next (by kernel_rfl) ?_
    refine CG.condF (by kernel_rfl) (by kernel_rfl) ?_
    refine CG.skipN ?_
    refine CG.seq ?_
    refine CG.listed ?_
    refine LG.val 13 (.int .i64 (n.tmod (m : Nat))) w (by kernel_rfl) (by kernel_rfl) (by kernel_rfl) ?_
    refine LG.val 4 (.int .i64 (n.tmod (m : Nat))) w (by kernel_rfl) (by kernel_rfl) (by kernel_rfl) ?_
    refine LG.next (by kernel_rfl) ?_
    refine CG.to [(4, .int .i64 (n.tmod (m : Nat)))] (by kernel_rfl) ?_
    refine CG.ret ?_
    exact retP hs [] (.int .i64 (n.tmod (m : Nat))) (by kernel_rfl) (by kernel_rfl) (congrArg (Value.int .i64) (pick_nneg hm (by assumption)))
  ·
    have phb1 := of_decide_eq_true hb1
    refine LG.val 9 (.bool true) w (by kernel_rfl) (by kernel_rfl) (rb (by kernel_rfl) hb1) ?_
    refine LG.next (by kernel_rfl) ?_
    refine CG.condT (by kernel_rfl) (by kernel_rfl) ?_
    refine CG.listed ?_
    refine LG.val 10 (.int .i64 (n.tmod (m : Nat))) w (by kernel_rfl) (by kernel_rfl) (by kernel_rfl) ?_
    refine LG.val 11 (.int .i64 (m : Nat)) w (by kernel_rfl) (by kernel_rfl) (by kernel_rfl) ?_
    refine LG.val 12 (.int .i64 ((n.tmod (m : Nat)) + (m : Nat))) w (by kernel_rfl) (by kernel_rfl) (ri64 (by kernel_rfl) (by omega) (by omega)) ?_
    refine LG.val 0 (.int .i64 ((n.tmod (m : Nat)) + (m : Nat))) w (by kernel_rfl) (by kernel_rfl) (by kernel_rfl) ?_
    refine LG.next (by kernel_rfl) ?_
    refine CG.to [(0, .int .i64 ((n.tmod (m : Nat)) + (m : Nat))), (4, .int .i64 0)] (by kernel_rfl) ?_
    refine CG.seq ?_
    refine CG.listed ?_
    refine LG.val 13 (.int .i64 ((n.tmod (m : Nat)) + (m : Nat))) w (by kernel_rfl) (by kernel_rfl) (by kernel_rfl) ?_
    refine LG.val 4 (.int .i64 ((n.tmod (m : Nat)) + (m : Nat))) w (by kernel_rfl) (by kernel_rfl) (by kernel_rfl) ?_
    refine LG.next (by kernel_rfl) ?_
    refine CG.ret ?_
    exact retP hs [] (.int .i64 ((n.tmod (m : Nat)) + (m : Nat))) (by kernel_rfl) (by kernel_rfl) (congrArg (Value.int .i64) (pick_neg hm (by assumption)))


theorem index6_0 (w : World) : (Instr.index 238 (.agg #[.int .i64 1, .int .i64 1, .int .i64 1, .int .i64 2, .int .i64 3, .int .i64 4]) (.int .i64 0)).run Tryz.prog w = .ok (.int .i64 1) w := by kernel_rfl
theorem index6_1 (w : World) : (Instr.index 238 (.agg #[.int .i64 1, .int .i64 1, .int .i64 1, .int .i64 2, .int .i64 3, .int .i64 4]) (.int .i64 1)).run Tryz.prog w = .ok (.int .i64 1) w := by kernel_rfl
theorem index6_2 (w : World) : (Instr.index 238 (.agg #[.int .i64 1, .int .i64 1, .int .i64 1, .int .i64 2, .int .i64 3, .int .i64 4]) (.int .i64 2)).run Tryz.prog w = .ok (.int .i64 1) w := by kernel_rfl
theorem index6_3 (w : World) : (Instr.index 238 (.agg #[.int .i64 1, .int .i64 1, .int .i64 1, .int .i64 2, .int .i64 3, .int .i64 4]) (.int .i64 3)).run Tryz.prog w = .ok (.int .i64 2) w := by kernel_rfl
theorem index6_4 (w : World) : (Instr.index 238 (.agg #[.int .i64 1, .int .i64 1, .int .i64 1, .int .i64 2, .int .i64 3, .int .i64 4]) (.int .i64 4)).run Tryz.prog w = .ok (.int .i64 3) w := by kernel_rfl
theorem index6_5 (w : World) : (Instr.index 238 (.agg #[.int .i64 1, .int .i64 1, .int .i64 1, .int .i64 2, .int .i64 3, .int .i64 4]) (.int .i64 5)).run Tryz.prog w = .ok (.int .i64 4) w := by kernel_rfl
theorem index6 (k : Nat) (h : k < 6) (w : World) : (Instr.index 238 (.agg #[.int .i64 1, .int .i64 1, .int .i64 1, .int .i64 2, .int .i64 3, .int .i64 4]) (.int .i64 (k : Int))).run Tryz.prog w = .ok (.int .i64 ((rDen k : Nat) : Int)) w := by
  have : k = 0 ∨ k = 1 ∨ k = 2 ∨ k = 3 ∨ k = 4 ∨ k = 5 := by omega
  rcases this with rfl | rfl | rfl | rfl | rfl | rfl
  · exact index6_0 w
  · exact index6_1 w
  · exact index6_2 w
  · exact index6_3 w
  · exact index6_4 w
  · exact index6_5 w


theorem idx6 {Γ : Env} {o : Oper} {x y : Operand} (k : Nat) (h : k < 6) (ho : o.op = .index 238 x y) (hx : ev Γ x = .agg #[.int .i64 1, .int .i64 1, .int .i64 1, .int .i64 2, .int .i64 3, .int .i64 4]) (hy : ev Γ y = .int .i64 (k : Nat)) (w : World) :
    (execOp (ev Γ) o).run Tryz.prog w = .ok (.value (.int .i64 (rDen k : Nat))) w := by
  unfold execOp; simp only [ho]; rw [hx, hy, Sem.run_bind, index6 k h w]; rfl

set_option maxRecDepth 100000 in
set_option maxHeartbeats 600000 in
theorem hR (n : Int) (h0 : -9223372036854775808 ≤ n) (h1 : n ≤ 9223372036854775807) (w : World) (h : Hp) (g : G w h) :
    Calls Tryz.prog 96 #[.int .i64 n] w (Ret w h fun v h => RQ h v (handRq n)) := by
  have hs := St.start g
  obtain ⟨t0, t1⟩ := tdiv_bd n 41 (by omega) h0 h1
  have l1 := pick_lt n 41 (by omega)
  have l2 := pick_lt (n.tdiv 41) 6 (by omega)
  have p1 := rDen_pos (pick (n.tdiv 41) 6)
  have p2 := rDen_le (pick (n.tdiv 41) 6)
  refine enter (n := 12) Tryz.func96 rfl rfl (Nat.le_of_ble_eq_true (by kernel_rfl)) [(0, .int .i64 n)] rfl ?_
  refine CG.seq ?_
  refine CG.listed ?_
  refine LG.var 2 95 ([.bool false, .slice none 0 0, .slice none 0 0]) hs (by kernel_rfl) (by kernel_rfl) (by kernel_rfl) (fun b1 w2 h3 nb_ u4 hs => ?_)
  refine LG.next (by kernel_rfl) ?_
  refine CG.seq ?_
  refine CG.listed ?_
  refine LG.val 3 (.int .i64 n) w2 (by kernel_rfl) (by kernel_rfl) (by kernel_rfl) ?_
  refine LG.call 4 18 #[.int .i64 n, .int .i64 41] (by kernel_rfl) (by kernel_rfl) (by kernel_rfl) ?_
  refine (hPick (n) 41 (by omega) (by omega) w2 h3 hs.g).mono ?_
  rintro _ w5 ⟨vu7, h6, rfl, u7, rfl⟩
  refine ⟨_, rfl, ?_⟩
  replace hs := hs.step u7
  refine LG.val 5 (.int .i64 ((pick (n) 41 : Nat) - 20)) w5 (by kernel_rfl) (by kernel_rfl) (ri64 (by kernel_rfl) (by omega) (by omega)) ?_
  refine LG.val 6 (.agg #[.int .i64 1, .int .i64 1, .int .i64 1, .int .i64 2, .int .i64 3, .int .i64 4]) w5 (by kernel_rfl) (by kernel_rfl) (by kernel_rfl) ?_
  refine LG.val 7 (.int .i64 n) w5 (by kernel_rfl) (by kernel_rfl) (by kernel_rfl) ?_
  refine LG.val 8 (.int .i64 (n.tdiv 41)) w5 (by kernel_rfl) (by kernel_rfl) (rint (n := IntKind.wrap .i64 (n.tdiv 41)) (by kernel_rfl) (fitI64 (by omega) (by omega))) ?_
  refine LG.call 9 18 #[.int .i64 (n.tdiv 41), .int .i64 6] (by kernel_rfl) (by kernel_rfl) (by kernel_rfl) ?_
  refine (hPick (n.tdiv 41) 6 (by omega) (by omega) w5 h6 hs.g).mono ?_
  rintro _ w8 ⟨vu10, h9, rfl, u10, rfl⟩
  refine ⟨_, rfl, ?_⟩
  replace hs := hs.step u10
  refine LG.val 10 (.int .i64 (rDen (pick (n.tdiv 41) 6) : Nat)) w8 (by kernel_rfl) (by kernel_rfl) (idx6 (x := .tmp 6) (y := .tmp 9) (pick (n.tdiv 41) 6) l2 (by kernel_rfl) (by kernel_rfl) (by kernel_rfl) _) ?_
  refine LG.call 11 86 #[.int .i64 ((pick (n) 41 : Nat) - 20), .int .i64 (rDen (pick (n.tdiv 41) 6) : Nat)] (by kernel_rfl) (by kernel_rfl) (by kernel_rfl) ?_
  refine (rOver ((pick (n) 41 : Nat) - 20) ((rDen (pick (n.tdiv 41) 6) : Nat)) (by omega) (by omega) (by omega) (by omega) w8 h9 hs.g).mono ?_
  rintro _ w19 ⟨vu21, h20, rfl, u21, ⟨A11, c12, A15, c16, rfl, hc13, hc17, hA14, hA18⟩⟩
  refine ⟨_, rfl, ?_⟩
  replace hs := hs.step u21
  refine LG.put 0 0 ([.bool (ineg (handRq n).num), .slice A11 ((lim (iabs (handRq n).num)).length) c12, .slice A15 ((lim (handRq n).den).length) c16]) hs g (by kernel_rfl) (by kernel_rfl) (by kernel_rfl) (by kernel_rfl) (fun w22 pu hs => ?_)
  refine LG.next (by kernel_rfl) ?_
  refine CG.to [(2, .pointer (some ⟨b1, 0, none⟩))] (by kernel_rfl) ?_
  refine CG.ret ?_
  exact retP hs [(0, 0, 3)] (.agg #[.bool (ineg (handRq n).num), .slice A11 ((lim (iabs (handRq n).num)).length) c12, .slice A15 ((lim (handRq n).den).length) c16]) (by kernel_rfl) (by kernel_rfl) ⟨_, _, _, _, rfl, hc13, hc17, hA14, hA18⟩

set_option maxRecDepth 100000 in
set_option maxHeartbeats 600000 in
theorem mSmall (n : Int) (h0 : -9223372036854775808 ≤ n) (h1 : n ≤ 9223372036854775807) (w : World) (h : Hp) (g : G w h) :
    Calls Tryz.prog 75 #[.int .i64 n] w (Ret w h fun v h => RQ h v (smallq n)) := by
  have hs := St.start g
  obtain ⟨t0, t1⟩ := tdiv_bd n 9 (by omega) h0 h1
  have l1 := pick_lt n 9 (by omega)
  have l2 := pick_lt (n.tdiv 9) 2 (by omega)
  refine enter (n := 11) Tryz.func75 rfl rfl (Nat.le_of_ble_eq_true (by kernel_rfl)) [(0, .int .i64 n)] rfl ?_
  refine CG.seq ?_
  refine CG.listed ?_
  refine LG.var 2 95 ([.bool false, .slice none 0 0, .slice none 0 0]) hs (by kernel_rfl) (by kernel_rfl) (by kernel_rfl) (fun b1 w2 h3 nb_ u4 hs => ?_)
  refine LG.next (by kernel_rfl) ?_
  refine CG.seq ?_
  refine CG.listed ?_
  refine LG.val 3 (.int .i64 n) w2 (by kernel_rfl) (by kernel_rfl) (by kernel_rfl) ?_
  refine LG.call 4 18 #[.int .i64 n, .int .i64 9] (by kernel_rfl) (by kernel_rfl) (by kernel_rfl) ?_
  refine (hPick (n) 9 (by omega) (by omega) w2 h3 hs.g).mono ?_
  rintro _ w5 ⟨vu7, h6, rfl, u7, rfl⟩
  refine ⟨_, rfl, ?_⟩
  replace hs := hs.step u7
  refine LG.val 5 (.int .i64 ((pick (n) 9 : Nat) - 4)) w5 (by kernel_rfl) (by kernel_rfl) (ri64 (by kernel_rfl) (by omega) (by omega)) ?_
  refine LG.val 6 (.int .i64 n) w5 (by kernel_rfl) (by kernel_rfl) (by kernel_rfl) ?_
  refine LG.val 7 (.int .i64 (n.tdiv 9)) w5 (by kernel_rfl) (by kernel_rfl) (rint (n := IntKind.wrap .i64 (n.tdiv 9)) (by kernel_rfl) (fitI64 (by omega) (by omega))) ?_
  refine LG.call 8 18 #[.int .i64 (n.tdiv 9), .int .i64 2] (by kernel_rfl) (by kernel_rfl) (by kernel_rfl) ?_
  refine (hPick (n.tdiv 9) 2 (by omega) (by omega) w5 h6 hs.g).mono ?_
  rintro _ w8 ⟨vu10, h9, rfl, u10, rfl⟩
  refine ⟨_, rfl, ?_⟩
  replace hs := hs.step u10
  refine LG.val 9 (.int .i64 (((pick (n.tdiv 9) 2 : Nat) : Int) + 1)) w8 (by kernel_rfl) (by kernel_rfl) (ri64 (n := ((pick (n.tdiv 9) 2 : Nat) : Int) + 1) (by kernel_rfl) (by omega) (by omega)) ?_
  refine LG.call 10 86 #[.int .i64 ((pick (n) 9 : Nat) - 4), .int .i64 (((pick (n.tdiv 9) 2 : Nat) : Int) + 1)] (by kernel_rfl) (by kernel_rfl) (by kernel_rfl) ?_
  refine (rOver ((pick (n) 9 : Nat) - 4) (((pick (n.tdiv 9) 2 : Nat) : Int) + 1) (by omega) (by omega) (by omega) (by omega) w8 h9 hs.g).mono ?_
  rintro _ w19 ⟨vu21, h20, rfl, u21, ⟨A11, c12, A15, c16, rfl, hc13, hc17, hA14, hA18⟩⟩
  refine ⟨_, rfl, ?_⟩
  replace hs := hs.step u21
  refine LG.put 0 0 ([.bool (ineg (smallq n).num), .slice A11 ((lim (iabs (smallq n).num)).length) c12, .slice A15 ((lim (smallq n).den).length) c16]) hs g (by kernel_rfl) (by kernel_rfl) (by kernel_rfl) (by kernel_rfl) (fun w22 pu hs => ?_)
  refine LG.next (by kernel_rfl) ?_
  refine CG.to [(2, .pointer (some ⟨b1, 0, none⟩))] (by kernel_rfl) ?_
  refine CG.ret ?_
  exact retP hs [(0, 0, 3)] (.agg #[.bool (ineg (smallq n).num), .slice A11 ((lim (iabs (smallq n).num)).length) c12, .slice A15 ((lim (smallq n).den).length) c16]) (by kernel_rfl) (by kernel_rfl) ⟨_, _, _, _, rfl, hc13, hc17, hA14, hA18⟩


def vc (v : Value) : List Value := [v]
/-- What hand.Row makes. -/
def rowq (zs : List Int) : Nat → List Rat
  | 0 => []
  | k + 1 => rowq zs k ++ [if k < zs.length then handRq (zs.getD k 0) else 0]
theorem rowq_len (zs : List Int) (k : Nat) : (rowq zs k).length = k := by induction k with | zero => rfl | succ k ih => simp [rowq, ih]
/-- The numbers fit. -/
def I64s (zs : List Int) : Prop := ∀ k, -9223372036854775808 ≤ zs.getD k 0 ∧ zs.getD k 0 ≤ 9223372036854775807
structure RVs (h : Hp) (vs : List Value) (qss : List (List Rat)) : Prop where
  len : vs.length = qss.length
  at_ : ∀ i, i < qss.length → ∃ A cap, ∃ ts : List RT, vs.getD i undef = .slice A ts.length cap ∧ ts.length ≤ cap ∧ SlO 3 rqc rqd h A ts ∧ RTs h ts (qss.getD i [])
theorem RVs.gw {h h' : Hp} {vs : List Value} {qss : List (List Rat)} (r : RVs h vs qss) (u : Gw h h') : RVs h' vs qss := ⟨r.len, fun i hi => by
  obtain ⟨A, cap, ts, h1, h2, h3, h4⟩ := r.at_ i hi
  exact ⟨A, cap, ts, h1, h2, h3.gw u, h4.gw u⟩⟩
structure QVs (h : Hp) (vs : List Value) (qss : List (List Rat)) : Prop where
  len : vs.length = qss.length
  at_ : ∀ i, i < qss.length → SlV 5 qc 0 h (vs.getD i undef) (qss.getD i [])
theorem QVs.gw {h h' : Hp} {vs : List Value} {qss : List (List Rat)} (r : QVs h vs qss) (u : Gw h h') : QVs h' vs qss := ⟨r.len, fun i hi => (r.at_ i hi).gw u⟩
theorem QVs.nil {h : Hp} : QVs h [] [] := ⟨rfl, fun i hi => by simp at hi⟩
theorem QVs.snoc {h : Hp} {vs : List Value} {qss : List (List Rat)} (r : QVs h vs qss) {v : Value} {l : List Rat} (hv : SlV 5 qc 0 h v l) : QVs h (vs ++ [v]) (qss ++ [l]) := by
  refine ⟨by simp [r.len], fun i hi => ?_⟩
  rw [getD_snoc, getD_snoc, r.len]
  split
  · rename_i h1; exact r.at_ i h1
  · rename_i h1
    have : i = qss.length := by simp at hi; omega
    rw [if_pos this, if_pos this]; exact hv

set_option maxRecDepth 100000 in
set_option maxHeartbeats 600000 in
theorem hRow (A : Option Addr) (cap : Nat) (zs : List Int) (n : Nat) (hn : n ≤ 1000000) (hl : zs.length ≤ 9223372036854775807) (hz : I64s zs) (w : World) (h : Hp) (g : G w h) (hA : SlO 1 i64c 0 h A zs) :
    Calls Tryz.prog 39 #[.slice A zs.length cap, .int .i64 (n : Nat)] w (Ret w h fun v h => ∃ A c, ∃ ts : List RT, v = .slice A ts.length c ∧ ts.length ≤ c ∧ SlO 3 rqc rqd h A ts ∧ RTs h ts (rowq zs n)) := by
  have hs := St.start g
  refine enter (n := 29) Tryz.func39 rfl rfl (Nat.le_of_ble_eq_true (by kernel_rfl)) [(0, .slice A zs.length cap), (1, .int .i64 (n : Nat))] rfl ?_
  refine CG.seq ?_
  refine CG.listed ?_
  refine LG.val 4 (.slice none 0 0) w (by kernel_rfl) (by kernel_rfl) (by kernel_rfl) ?_
  refine LG.next (by kernel_rfl) ?_
  refine CG.seq ?_
  refine CG.listed ?_
  refine LG.val 5 (.slice none 0 0) w (by kernel_rfl) (by kernel_rfl) (by kernel_rfl) ?_
  refine LG.next (by kernel_rfl) ?_
  refine CG.seq ?_
  refine CG.seq ?_
  refine CG.listed ?_
  refine LG.val 6 (.int .i64 0) w (by kernel_rfl) (by kernel_rfl) (by kernel_rfl) ?_
  refine LG.next (by kernel_rfl) ?_
  refine CG.block ?_
  refine CG.to [(0, .slice A zs.length cap), (1, .int .i64 (n : Nat)), (4, .slice none 0 0), (6, .int .i64 0), (5, .slice none 0 0)] (by kernel_rfl) ?_
  refine CG.loop (fun μ_ Γ w_ => ∃ (k : Nat) (s : Value) (ts : List RT) (h_ : Hp), μ_ = n - k ∧ Γ = [(0, .slice A zs.length cap), (1, .int .i64 (n : Nat)), (4, .slice none 0 0), (6, .int .i64 (k : Nat)), (5, s)] ∧ St w h w_ h_ [] ∧ (SlO 1 i64c 0 h_ A zs) ∧ (k ≤ n) ∧ (RTs h_ ts (rowq zs k)) ∧ (Gro h [] w_ h_ 95 3 s ((ts).length) ((ts).flatMap rqc))) _ ⟨0, (.slice none 0 0), [], h, rfl, rfl, hs.to _ (by kernel_rfl), hA, Nat.zero_le _, RTs.nil, Gro.nil⟩ ?_
  rintro _ _ w1 ⟨k, s, ts, h2, hm3, rfl, hs, hA, hk, hT, hg⟩
  have hlT := hT.len
  rw [rowq_len] at hlT
  -- round
  refine CG.seq ?_
  refine CG.seq ?_
  refine CG.listed ?_
  refine LG.val 7 (.int .i64 (k : Nat)) w1 (by kernel_rfl) (by kernel_rfl) (by kernel_rfl) ?_
  refine LG.val 8 (.int .i64 (n : Nat)) w1 (by kernel_rfl) (by kernel_rfl) (by kernel_rfl) ?_
  cases hb4 : (decide (((k : Nat) : Int) < ((n : Nat) : Int)))
  ·
    have phb4 := of_decide_eq_false hb4
    refine LG.val 9 (.bool false) w1 (by kernel_rfl) (by kernel_rfl) (rb (by kernel_rfl) hb4) ?_
    refine LG.next (by kernel_rfl) ?_
    refine CG.condF (by kernel_rfl) (by kernel_rfl) ?_
    refine CG.exit ?_
    show CG _ _ _ _ _ _ _ _
    refine CG.seq ?_
    refine CG.listed ?_
    refine LG.val 28 (s) w1 (by kernel_rfl) (by kernel_rfl) (by kernel_rfl) ?_
    refine LG.val 4 (s) w1 (by kernel_rfl) (by kernel_rfl) (by kernel_rfl) ?_
    refine LG.next (by kernel_rfl) ?_
    refine CG.to [(4, s)] (by kernel_rfl) ?_
    refine CG.ret ?_
    obtain ⟨hq_, hs, pw, A_, cap_, hv_, hc_, hz_, sg_⟩ := Gro.pub hs hg
    replace hT := hT.gw pw
    have hkq : k = n := by omega
    rw [hkq] at hT
    obtain ⟨A2, c2, e2, hc2, so2⟩ := SlV.of_pub (sz := 3) (f := rqc) (d := rqd) (fun _ => rfl) hc_ hz_ sg_
    subst hv_
    exact retP hs [] (.slice A_ ts.length cap_) (by kernel_rfl) (by kernel_rfl) ⟨A2, c2, ts, e2, hc2, so2, hT⟩
  ·
    have phb4 := of_decide_eq_true hb4
    refine LG.val 9 (.bool true) w1 (by kernel_rfl) (by kernel_rfl) (rb (by kernel_rfl) hb4) ?_
    refine LG.next (by kernel_rfl) ?_
    refine CG.condT (by kernel_rfl) (by kernel_rfl) ?_
    refine CG.skipN ?_
    refine CG.seq ?_
    refine CG.block ?_
    refine CG.seq ?_
    refine CG.listed ?_
    refine LG.val 12 (.int .i64 (k : Nat)) w1 (by kernel_rfl) (by kernel_rfl) (by kernel_rfl) ?_
    refine LG.val 13 (.slice A zs.length cap) w1 (by kernel_rfl) (by kernel_rfl) (by kernel_rfl) ?_
    refine LG.val 14 (.int .i64 (zs.length : Nat)) w1 (by kernel_rfl) (by kernel_rfl) (by kernel_rfl) ?_
    cases hb5 : (decide (((k : Nat) : Int) < ((zs.length : Nat) : Int)))
    ·
      have phb5 := of_decide_eq_false hb5
      refine LG.val 15 (.bool false) w1 (by kernel_rfl) (by kernel_rfl) (rb (by kernel_rfl) hb5) ?_
      refine LG.next (by kernel_rfl) ?_
      refine CG.condF (by kernel_rfl) (by kernel_rfl) ?_
      refine CG.listed ?_
      refine LG.val 24 (s) w1 (by kernel_rfl) (by kernel_rfl) (by kernel_rfl) ?_
      refine LG.call 25 88 #[.int .i64 0] (by kernel_rfl) (by kernel_rfl) (by kernel_rfl) ?_
      refine (rOf 0 (by omega) (by omega) w1 h2 hs.g).mono ?_
      rintro _ w14 ⟨vu16, h15, rfl, u16, ⟨A6, c7, A10, c11, rfl, hc8, hc12, hA9, hA13⟩⟩
      refine ⟨_, rfl, ?_⟩
      replace hs := hs.step u16
      replace hg := hg.up u16
      replace hA := hA.gw u16.gr.gw
      replace hT := hT.gw u16.gr.gw
      refine LG.row 26 95 1 ([.bool (ineg ((0 : Int) : Rat).num), .slice A6 ((lim (iabs ((0 : Int) : Rat).num)).length) c7, .slice A10 ((lim ((0 : Int) : Rat).den).length) c11]) hs.g (by kernel_rfl) (by kernel_rfl) (by kernel_rfl) (fun b17 w18 h19 u20 hS21 => ?_)
      replace hs := hs.step u20
      replace hg := hg.up u20
      replace hA := hA.gw u20.gr.gw
      replace hT := hT.gw u20.gr.gw
      replace hA9 := hA9.gw u20.gr.gw
      replace hA13 := hA13.gw u20.gr.gw
      refine LG.app 27 (x := .tmp 24) (y := .tmp 26) (ty := 28) (e := 95) (z := .agg #[.bool false, .slice none 0 0, .slice none 0 0]) (sz := 3) (bt := 56) (m := ((ts).length)) (m2 := 1) (c := 1) (b := b17) (v := s) (cs := (ts).flatMap rqc) (news := [.bool (ineg ((0 : Int) : Rat).num), .slice A6 ((lim (iabs ((0 : Int) : Rat).num)).length) c7, .slice A10 ((lim ((0 : Int) : Rat).den).length) c11]) hs g hg hS21 (by kernel_rfl) (by kernel_rfl) (by kernel_rfl) (by kernel_rfl) (by kernel_rfl) (by kernel_rfl) (by kernel_rfl) (by kernel_rfl) (by decide) (by kernel_rfl) (by kernel_rfl) (by omega) (by omega) (fun s22 w23 h24 gr25 gg26 hl_ hs hg27 => ?_)
      replace hA := hA.gw gr25.gw
      replace hT := hT.gw gr25.gw
      replace hA9 := hA9.gw gr25.gw
      replace hA13 := hA13.gw gr25.gw
      replace hS21 := hS21.gw gr25.gw
      replace hg27 := Gro.snoc (l := ts) (f := rqc) (x := ((ineg ((0 : Int) : Rat).num, .slice A6 ((lim (iabs ((0 : Int) : Rat).num)).length) c7, .slice A10 ((lim ((0 : Int) : Rat).den).length) c11) : RT)) hg27 (by kernel_rfl)
      refine LG.val 5 (s22) w23 (by kernel_rfl) (by kernel_rfl) (by kernel_rfl) ?_
      refine LG.next (by kernel_rfl) ?_
      refine CG.to [(0, .slice A zs.length cap), (1, .int .i64 (n : Nat)), (4, .slice none 0 0), (6, .int .i64 (k : Nat)), (5, s22)] (by kernel_rfl) ?_
      refine CG.listed ?_
      refine LG.val 10 (.int .i64 (k : Nat)) w23 (by kernel_rfl) (by kernel_rfl) (by kernel_rfl) ?_
      refine LG.val 11 (.int .i64 (k + 1 : Nat)) w23 (by kernel_rfl) (by kernel_rfl) (rint (ri64 (n := (k : Nat) + 1) (by kernel_rfl) (by omega) (by omega)) (by omega)) ?_
      refine LG.val 6 (.int .i64 (k + 1 : Nat)) w23 (by kernel_rfl) (by kernel_rfl) (by kernel_rfl) ?_
      refine LG.done (by kernel_rfl) ?_
      have hstep : ∀ q : Rat, (if k < zs.length then handRq (zs.getD k 0) else 0) = q → ∀ {ts' : List RT} {h' : Hp}, RTs h' ts' (rowq zs k ++ [q]) → RTs h' ts' (rowq zs (k + 1)) := by intro q hq ts' h' hh; show RTs h' ts' (rowq zs k ++ [_]); rw [hq]; exact hh
      intro a_ ka
      refine ⟨_, _, ?_, ⟨k + 1, s22, ts ++ [((ineg ((0 : Int) : Rat).num, .slice A6 ((lim (iabs ((0 : Int) : Rat).num)).length) c7, .slice A10 ((lim ((0 : Int) : Rat).den).length) c11) : RT)], h24, rfl, rfl, hs.to _ (by kernel_rfl), hA, by omega, (hstep _ ((if_neg (by omega)).trans (show (0 : Rat) = ((0 : Int) : Rat) from rfl)) (RTs.snoc hT ⟨_, _, _, _, rfl, hc8, hc12, hA9, hA13⟩)), hg27⟩, ka.to [(0, .slice A zs.length cap), (1, .int .i64 (n : Nat)), (4, .slice none 0 0), (6, .int .i64 ((k + 1) : Nat)), (5, s22)] (by kernel_rfl)⟩
      omega
    ·
      have phb5 := of_decide_eq_true hb5
      refine LG.val 15 (.bool true) w1 (by kernel_rfl) (by kernel_rfl) (rb (by kernel_rfl) hb5) ?_
      refine LG.next (by kernel_rfl) ?_
      refine CG.condT (by kernel_rfl) (by kernel_rfl) ?_
      refine CG.listed ?_
      refine LG.val 16 (s) w1 (by kernel_rfl) (by kernel_rfl) (by kernel_rfl) ?_
      refine LG.val 17 (.slice A zs.length cap) w1 (by kernel_rfl) (by kernel_rfl) (by kernel_rfl) ?_
      refine LG.val 18 (.int .i64 (k : Nat)) w1 (by kernel_rfl) (by kernel_rfl) (by kernel_rfl) ?_
      refine LG.val 19 (.pointer (some ⟨(aB A), aO A + k * 1, none⟩)) w1 (by kernel_rfl) (by kernel_rfl) (ixAddr (t := 22) (e := 3) (x := .tmp 17) (ix := .tmp 18) (A := A) (len := zs.length) (cap := cap) (sz := 1) (i := (k : Nat)) k (by kernel_rfl) (by kernel_rfl) (by kernel_rfl) (by kernel_rfl) (by kernel_rfl) (hA.ok (by omega)) (by omega) (by omega) _) ?_
      refine LG.val 20 (.int .i64 (zs.getD k 0)) w1 (by kernel_rfl) (by kernel_rfl) (Seg.run (hA.el k (by omega)) hs.g (Ext.refl _) (by kernel_rfl)) ?_
      refine LG.call 21 96 #[.int .i64 (zs.getD k 0)] (by kernel_rfl) (by kernel_rfl) (by kernel_rfl) ?_
      refine (hR (zs.getD k 0) (hz k).1 (hz k).2 w1 h2 hs.g).mono ?_
      rintro _ w39 ⟨vu41, h40, rfl, u41, ⟨A31, c32, A35, c36, rfl, hc33, hc37, hA34, hA38⟩⟩
      refine ⟨_, rfl, ?_⟩
      replace hs := hs.step u41
      replace hg := hg.up u41
      replace hA := hA.gw u41.gr.gw
      replace hT := hT.gw u41.gr.gw
      refine LG.row 22 95 1 ([.bool (ineg (handRq (zs.getD k 0)).num), .slice A31 ((lim (iabs (handRq (zs.getD k 0)).num)).length) c32, .slice A35 ((lim (handRq (zs.getD k 0)).den).length) c36]) hs.g (by kernel_rfl) (by kernel_rfl) (by kernel_rfl) (fun b42 w43 h44 u45 hS46 => ?_)
      replace hs := hs.step u45
      replace hg := hg.up u45
      replace hA := hA.gw u45.gr.gw
      replace hT := hT.gw u45.gr.gw
      replace hA34 := hA34.gw u45.gr.gw
      replace hA38 := hA38.gw u45.gr.gw
      refine LG.app 23 (x := .tmp 16) (y := .tmp 22) (ty := 28) (e := 95) (z := .agg #[.bool false, .slice none 0 0, .slice none 0 0]) (sz := 3) (bt := 56) (m := ((ts).length)) (m2 := 1) (c := 1) (b := b42) (v := s) (cs := (ts).flatMap rqc) (news := [.bool (ineg (handRq (zs.getD k 0)).num), .slice A31 ((lim (iabs (handRq (zs.getD k 0)).num)).length) c32, .slice A35 ((lim (handRq (zs.getD k 0)).den).length) c36]) hs g hg hS46 (by kernel_rfl) (by kernel_rfl) (by kernel_rfl) (by kernel_rfl) (by kernel_rfl) (by kernel_rfl) (by kernel_rfl) (by kernel_rfl) (by decide) (by kernel_rfl) (by kernel_rfl) (by omega) (by omega) (fun s47 w48 h49 gr50 gg51 hl_ hs hg52 => ?_)
      replace hA := hA.gw gr50.gw
      replace hT := hT.gw gr50.gw
      replace hA34 := hA34.gw gr50.gw
      replace hA38 := hA38.gw gr50.gw
      replace hS46 := hS46.gw gr50.gw
      replace hg52 := Gro.snoc (l := ts) (f := rqc) (x := ((ineg (handRq (zs.getD k 0)).num, .slice A31 ((lim (iabs (handRq (zs.getD k 0)).num)).length) c32, .slice A35 ((lim (handRq (zs.getD k 0)).den).length) c36) : RT)) hg52 (by kernel_rfl)
      refine LG.val 5 (s47) w48 (by kernel_rfl) (by kernel_rfl) (by kernel_rfl) ?_
      refine LG.next (by kernel_rfl) ?_
      refine CG.to [(0, .slice A zs.length cap), (1, .int .i64 (n : Nat)), (4, .slice none 0 0), (6, .int .i64 (k : Nat)), (5, s47)] (by kernel_rfl) ?_
      refine CG.listed ?_
      refine LG.val 10 (.int .i64 (k : Nat)) w48 (by kernel_rfl) (by kernel_rfl) (by kernel_rfl) ?_
      refine LG.val 11 (.int .i64 (k + 1 : Nat)) w48 (by kernel_rfl) (by kernel_rfl) (rint (ri64 (n := (k : Nat) + 1) (by kernel_rfl) (by omega) (by omega)) (by omega)) ?_
      refine LG.val 6 (.int .i64 (k + 1 : Nat)) w48 (by kernel_rfl) (by kernel_rfl) (by kernel_rfl) ?_
      refine LG.done (by kernel_rfl) ?_
      have hstep : ∀ q : Rat, (if k < zs.length then handRq (zs.getD k 0) else 0) = q → ∀ {ts' : List RT} {h' : Hp}, RTs h' ts' (rowq zs k ++ [q]) → RTs h' ts' (rowq zs (k + 1)) := by intro q hq ts' h' hh; show RTs h' ts' (rowq zs k ++ [_]); rw [hq]; exact hh
      intro a_ ka
      refine ⟨_, _, ?_, ⟨k + 1, s47, ts ++ [((ineg (handRq (zs.getD k 0)).num, .slice A31 ((lim (iabs (handRq (zs.getD k 0)).num)).length) c32, .slice A35 ((lim (handRq (zs.getD k 0)).den).length) c36) : RT)], h49, rfl, rfl, hs.to _ (by kernel_rfl), hA, by omega, (hstep _ (if_pos (by omega)) (RTs.snoc hT ⟨_, _, _, _, rfl, hc33, hc37, hA34, hA38⟩)), hg52⟩, ka.to [(0, .slice A zs.length cap), (1, .int .i64 (n : Nat)), (4, .slice none 0 0), (6, .int .i64 ((k + 1) : Nat)), (5, s47)] (by kernel_rfl)⟩
      omega

set_option maxRecDepth 100000 in
set_option maxHeartbeats 600000 in
theorem hInRows (A : Option Addr) (cap : Nat) (vs : List Value) (qss : List (List Rat)) (hl : qss.length ≤ 1000000) (hls : ∀ i, i < qss.length → (qss.getD i []).length ≤ 1000000) (hf : ∀ i, i < qss.length → ∀ j, j < (qss.getD i []).length → Fit ((qss.getD i []).getD j 0)) (hc : vs.length ≤ cap) (w : World) (h : Hp) (g : G w h) (hA : SlO 1 vc undef h A vs) (hT : RVs h vs qss) :
    Calls Tryz.prog 44 #[.slice A vs.length cap] w (Ret w h fun v h => ∃ A c, ∃ us : List Value, v = .slice A us.length c ∧ us.length ≤ c ∧ SlO 1 vc undef h A us ∧ QVs h us qss) := by
  have hs := St.start g
  have hlen := hT.len
  refine enter (n := 20) Tryz.func44 rfl rfl (Nat.le_of_ble_eq_true (by kernel_rfl)) [(0, .slice A vs.length cap)] rfl ?_
  refine CG.seq ?_
  refine CG.listed ?_
  refine LG.val 2 (.slice none 0 0) w (by kernel_rfl) (by kernel_rfl) (by kernel_rfl) ?_
  refine LG.next (by kernel_rfl) ?_
  refine CG.seq ?_
  refine CG.listed ?_
  refine LG.val 3 (.slice none 0 0) w (by kernel_rfl) (by kernel_rfl) (by kernel_rfl) ?_
  refine LG.next (by kernel_rfl) ?_
  refine CG.seq ?_
  refine CG.seq ?_
  refine CG.listed ?_
  refine LG.val 4 (.int .i64 0) w (by kernel_rfl) (by kernel_rfl) (by kernel_rfl) ?_
  refine LG.next (by kernel_rfl) ?_
  refine CG.block ?_
  refine CG.to [(0, .slice A vs.length cap), (2, .slice none 0 0), (4, .int .i64 0), (3, .slice none 0 0)] (by kernel_rfl) ?_
  refine CG.loop (fun μ_ Γ w_ => ∃ (k : Nat) (s : Value) (us : List Value) (h_ : Hp), μ_ = qss.length - k ∧ Γ = [(0, .slice A vs.length cap), (2, .slice none 0 0), (4, .int .i64 (k : Nat)), (3, s)] ∧ St w h w_ h_ [] ∧ (SlO 1 vc undef h_ A vs) ∧ (RVs h_ vs qss) ∧ (k ≤ qss.length) ∧ (QVs h_ us (qss.take k)) ∧ (Gro h [] w_ h_ 31 1 s ((us).length) ((us).flatMap vc))) _ ⟨0, (.slice none 0 0), [], h, rfl, rfl, hs.to _ (by kernel_rfl), hA, hT, Nat.zero_le _, QVs.nil, Gro.nil⟩ ?_
  rintro _ _ w1 ⟨k, s, us, h2, hm3, rfl, hs, hA, hT, hk, hU, hg⟩
  have hlU := hU.len
  have htk : (qss.take k).length = k := by simp; omega
  -- round
  refine CG.seq ?_
  refine CG.seq ?_
  refine CG.listed ?_
  refine LG.val 5 (.int .i64 (k : Nat)) w1 (by kernel_rfl) (by kernel_rfl) (by kernel_rfl) ?_
  refine LG.val 6 (.slice A vs.length cap) w1 (by kernel_rfl) (by kernel_rfl) (by kernel_rfl) ?_
  refine LG.val 7 (.int .i64 (vs.length : Nat)) w1 (by kernel_rfl) (by kernel_rfl) (by kernel_rfl) ?_
  cases hb4 : (decide (((k : Nat) : Int) < ((vs.length : Nat) : Int)))
  ·
    have phb4 := of_decide_eq_false hb4
    refine LG.val 8 (.bool false) w1 (by kernel_rfl) (by kernel_rfl) (rb (by kernel_rfl) hb4) ?_
    refine LG.next (by kernel_rfl) ?_
    refine CG.condF (by kernel_rfl) (by kernel_rfl) ?_
    refine CG.exit ?_
    show CG _ _ _ _ _ _ _ _
    refine CG.seq ?_
    refine CG.listed ?_
    refine LG.val 19 (s) w1 (by kernel_rfl) (by kernel_rfl) (by kernel_rfl) ?_
    refine LG.val 2 (s) w1 (by kernel_rfl) (by kernel_rfl) (by kernel_rfl) ?_
    refine LG.next (by kernel_rfl) ?_
    refine CG.to [(2, s)] (by kernel_rfl) ?_
    refine CG.ret ?_
    obtain ⟨hq_, hs, pw, A_, cap_, hv_, hc_, hz_, sg_⟩ := Gro.pub hs hg
    replace hU := hU.gw pw
    have hkq : qss.take k = qss := List.take_of_length_le (by omega)
    rw [hkq] at hU
    obtain ⟨A2, c2, e2, hc2, so2⟩ := SlV.of_pub (sz := 1) (f := vc) (d := undef) (fun _ => rfl) hc_ hz_ sg_
    subst hv_
    exact retP hs [] (.slice A_ us.length cap_) (by kernel_rfl) (by kernel_rfl) ⟨A2, c2, us, e2, hc2, so2, hU⟩
  ·
    have phb4 := of_decide_eq_true hb4
    refine LG.val 8 (.bool true) w1 (by kernel_rfl) (by kernel_rfl) (rb (by kernel_rfl) hb4) ?_
    refine LG.next (by kernel_rfl) ?_
    refine CG.condT (by kernel_rfl) (by kernel_rfl) ?_
    refine CG.skipN ?_
    refine CG.seq ?_
    refine CG.block ?_
    refine CG.listed ?_
    refine LG.val 11 (s) w1 (by kernel_rfl) (by kernel_rfl) (by kernel_rfl) ?_
    refine LG.val 12 (.slice A vs.length cap) w1 (by kernel_rfl) (by kernel_rfl) (by kernel_rfl) ?_
    refine LG.val 13 (.int .i64 (k : Nat)) w1 (by kernel_rfl) (by kernel_rfl) (by kernel_rfl) ?_
    refine LG.val 14 (.pointer (some ⟨(aB A), aO A + k * 1, none⟩)) w1 (by kernel_rfl) (by kernel_rfl) (ixAddr (t := 72) (e := 28) (x := .tmp 12) (ix := .tmp 13) (A := A) (len := vs.length) (cap := cap) (sz := 1) (i := (k : Nat)) k (by kernel_rfl) (by kernel_rfl) (by kernel_rfl) (by kernel_rfl) (by kernel_rfl) (hA.ok (by omega)) (by omega) (by omega) _) ?_
    obtain ⟨Ar, cr, tr, er, hcr, hAr, hTr⟩ := hT.at_ k (by omega)
    refine LG.val 15 (.slice Ar tr.length cr) w1 (by kernel_rfl) (by kernel_rfl) (rval (Seg.run (hA.el k (by omega)) hs.g (Ext.refl _) (by kernel_rfl)) er) ?_
    refine LG.call 16 21 #[.slice Ar tr.length cr] (by kernel_rfl) (by kernel_rfl) (by kernel_rfl) ?_
    refine (hInRow Ar cr tr (qss.getD k []) (hls k (by omega)) (hf k (by omega)) hcr w1 h2 hs.g hAr hTr).mono ?_
    rintro _ w5 ⟨vu7, h6, rfl, u7, ⟨Au, cu, rfl, hcu, hAu⟩⟩
    refine ⟨_, rfl, ?_⟩
    replace hs := hs.step u7
    replace hg := hg.up u7
    replace hA := hA.gw u7.gr.gw
    replace hT := hT.gw u7.gr.gw
    replace hU := hU.gw u7.gr.gw
    replace hAr := hAr.gw u7.gr.gw
    replace hTr := hTr.gw u7.gr.gw
    refine LG.row 17 31 1 ([.slice Au ((qss.getD k []).length) cu]) hs.g (by kernel_rfl) (by kernel_rfl) (by kernel_rfl) (fun b8 w9 h10 u11 hS12 => ?_)
    replace hs := hs.step u11
    replace hg := hg.up u11
    replace hA := hA.gw u11.gr.gw
    replace hT := hT.gw u11.gr.gw
    replace hU := hU.gw u11.gr.gw
    replace hAr := hAr.gw u11.gr.gw
    replace hTr := hTr.gw u11.gr.gw
    replace hAu := hAu.gw u11.gr.gw
    refine LG.app 18 (x := .tmp 11) (y := .tmp 17) (ty := 84) (e := 31) (z := .slice none 0 0) (sz := 1) (bt := 24) (m := ((us).length)) (m2 := 1) (c := 1) (b := b8) (v := s) (cs := (us).flatMap vc) (news := [.slice Au ((qss.getD k []).length) cu]) hs g hg hS12 (by kernel_rfl) (by kernel_rfl) (by kernel_rfl) (by kernel_rfl) (by kernel_rfl) (by kernel_rfl) (by kernel_rfl) (by kernel_rfl) (by decide) (by kernel_rfl) (by kernel_rfl) (by omega) (by omega) (fun s13 w14 h15 gr16 gg17 hl_ hs hg18 => ?_)
    replace hA := hA.gw gr16.gw
    replace hT := hT.gw gr16.gw
    replace hU := hU.gw gr16.gw
    replace hAr := hAr.gw gr16.gw
    replace hTr := hTr.gw gr16.gw
    replace hAu := hAu.gw gr16.gw
    replace hS12 := hS12.gw gr16.gw
    replace hg18 := Gro.snoc (l := us) (f := vc) (x := (.slice Au ((qss.getD k []).length) cu : Value)) hg18 (by kernel_rfl)
    refine LG.val 3 (s13) w14 (by kernel_rfl) (by kernel_rfl) (by kernel_rfl) ?_
    refine LG.next (by kernel_rfl) ?_
    refine CG.to [(0, .slice A vs.length cap), (2, .slice none 0 0), (4, .int .i64 (k : Nat)), (3, s13)] (by kernel_rfl) ?_
    refine CG.listed ?_
    refine LG.val 9 (.int .i64 (k : Nat)) w14 (by kernel_rfl) (by kernel_rfl) (by kernel_rfl) ?_
    refine LG.val 10 (.int .i64 (k + 1 : Nat)) w14 (by kernel_rfl) (by kernel_rfl) (rint (ri64 (n := (k : Nat) + 1) (by kernel_rfl) (by omega) (by omega)) (by omega)) ?_
    refine LG.val 4 (.int .i64 (k + 1 : Nat)) w14 (by kernel_rfl) (by kernel_rfl) (by kernel_rfl) ?_
    refine LG.done (by kernel_rfl) ?_
    intro a_ ka
    refine ⟨_, _, ?_, ⟨k + 1, s13, us ++ [(.slice Au ((qss.getD k []).length) cu : Value)], h15, rfl, rfl, hs.to _ (by kernel_rfl), hA, hT, by omega, (by rw [take_snoc' [] (by omega)]; exact hU.snoc ⟨Au, cu, rfl, hcu, hAu⟩), hg18⟩, ka.to [(0, .slice A vs.length cap), (2, .slice none 0 0), (4, .int .i64 ((k + 1) : Nat)), (3, s13)] (by kernel_rfl)⟩
    omega

end Go.Proofs.YtokbipmfhfmnfaaGreatDoor
