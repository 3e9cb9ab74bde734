/- Contracts of the bytes of the program's numbers, of ref.NatFrom, and of hand.OutNat, OutInt, Out, Same, Is. -/
import Derived.Test.YtmkonbkdjmfjhaaGreatDoorHnA
namespace Go.Proofs.YtmkonbkdjmfjhaaGreatDoor
open Go.RowKit


theorem bitLen_nb (n : Nat) (h : n < 18446744073709551616) : Lib.bitLen n = nb n := by
  induction n using Nat.strongRecOn with
  | _ n ih =>
    rcases Nat.eq_zero_or_pos n with h0 | h0
    · subst h0; rfl
    · rw [Lib.bitLen_half n (by omega) (by omega), nb_half h0, ih (n / 2) (by omega) (by omega)]
      omega
theorem cBits (n : Nat) (h : n < 18446744073709551616) (w : World) : Calls Tryz.prog 54 #[nv n] w fun e w' => e = .returned (.int .i64 (nb n : Nat)) ∧ Ext w w' := by
  rw [nv_small h, ← bitLen_nb n h]; exact natBits n h w
theorem cWSign (z : Int) (h : iabs z < 18446744073709551616) (w : World) : Calls Tryz.prog 50 #[iv z] w fun e w' => e = .returned (.int .i64 z.sign) ∧ Ext w w' := by
  rw [iv_small h]; exact wholeSign z h w
theorem cWAbs (z : Int) (h : iabs z < 18446744073709551616) (w : World) : Calls Tryz.prog 53 #[iv z] w fun e w' => e = .returned (nv (iabs z)) ∧ Ext w w' := by
  rw [iv_small h, nv_small h]; exact wholeAbs z w
theorem cNum (q : Rat) (h : iabs q.num < 18446744073709551616) (h2 : q.den < 18446744073709551616) (w : World) : Calls Tryz.prog 97 #[qv q] w fun e w' => e = .returned (iv q.num) ∧ Ext w w' := by
  rw [qv_small h h2, iv_small h]; exact fracNum q w
theorem cDen64 (q : Rat) (h : iabs q.num < 18446744073709551616) (h2 : q.den < 18446744073709551616) (w : World) : Calls Tryz.prog 62 #[qv q] w fun e w' => e = .returned (nv q.den) ∧ Ext w w' := by
  rw [qv_small h h2, nv_small h2]; exact fracDen q h2 w
theorem byte_word {n k : Nat} (hk : k < 8) : [n].getD (k / 8) 0 / 2 ^ (8 * (k % 8)) % 256 = n / 256 ^ k % 256 := by
  rw [show k / 8 = 0 by omega, Nat.mod_eq_of_lt hk, show (256 : Nat) = 2 ^ 8 by rfl, ← Nat.pow_mul]
  rfl

set_option maxRecDepth 100000 in
set_option maxHeartbeats 600000 in
theorem nWords0 (n : Nat) (hn0 : 0 < n) (hn : n < 18446744073709551616) (w : World) (h : Hp) (g : G w h) :
    Calls Tryz.prog 95 #[.agg #[.int .u64 (n : Nat), .string (⟨#[]⟩)]] w (Ret w h fun v h => ∃ A, v = .slice A 1 1 ∧ SlO 1 u64c 0 h A [n]) := by
  have hs := St.start g
  refine enter (n := 40) Tryz.func95 rfl rfl (Nat.le_of_ble_eq_true (by kernel_rfl)) [(0, .agg #[.int .u64 (n : Nat), .string (⟨#[]⟩)])] rfl ?_
  refine CG.seq ?_
  refine CG.listed ?_
  refine LG.var 1 56 ([.int .u64 (n : Nat), .string (⟨#[]⟩)]) hs (by kernel_rfl) (by kernel_rfl) (by kernel_rfl) (fun b1 w2 h3 nb_ u4 hs => ?_)
  refine LG.val 2 (.slice none 0 0) w2 (by kernel_rfl) (by kernel_rfl) (by kernel_rfl) ?_
  refine LG.next (by kernel_rfl) ?_
  refine CG.seq ?_
  refine CG.seq ?_
  refine CG.listed ?_
  refine LG.val 5 (.pointer (some ⟨b1, 1, none⟩)) w2 (by kernel_rfl) (by kernel_rfl) (by kernel_rfl) ?_
  refine LG.own 6 [(0, 1, 1)] (.string (⟨#[]⟩)) hs (by kernel_rfl) (by kernel_rfl) (by kernel_rfl) (by kernel_rfl) ?_
  refine LG.val 7 (.bool true) w2 (by kernel_rfl) (by kernel_rfl) (by kernel_rfl) ?_
  refine LG.val 8 (.bool true) w2 (by kernel_rfl) (by kernel_rfl) (by kernel_rfl) ?_
  refine LG.val 9 (.pointer (some ⟨b1, 0, none⟩)) w2 (by kernel_rfl) (by kernel_rfl) (by kernel_rfl) ?_
  refine LG.own 10 [(0, 0, 1)] (.int .u64 (n : Nat)) hs (by kernel_rfl) (by kernel_rfl) (by kernel_rfl) (by kernel_rfl) ?_
  have hb5 : (((n : Nat) : Int) == (0 : Int)) = false := (by simp; omega)
  have phb5 := neOfBeq hb5
  refine LG.val 11 (.bool false) w2 (by kernel_rfl) (by kernel_rfl) (rb (by kernel_rfl) hb5) ?_
  refine LG.val 12 (.bool false) w2 (by kernel_rfl) (by kernel_rfl) (by kernel_rfl) ?_
  refine LG.next (by kernel_rfl) ?_
  refine CG.to [(1, .pointer (some ⟨b1, 0, none⟩)), (2, .slice none 0 0), (12, .bool false)] (by kernel_rfl) ?_
  refine CG.condF (by kernel_rfl) (by kernel_rfl) ?_
  refine CG.skipN ?_
  refine CG.seq ?_
  refine CG.listed ?_
  refine LG.val 13 (.pointer (some ⟨b1, 1, none⟩)) w2 (by kernel_rfl) (by kernel_rfl) (by kernel_rfl) ?_
  refine LG.own 14 [(0, 1, 1)] (.string (⟨#[]⟩)) hs (by kernel_rfl) (by kernel_rfl) (by kernel_rfl) (by kernel_rfl) ?_
  refine LG.val 15 (.int .i64 0) w2 (by kernel_rfl) (by kernel_rfl) (by kernel_rfl) ?_
  refine LG.val 16 (.int .i64 0) w2 (by kernel_rfl) (by kernel_rfl) (by kernel_rfl) ?_
  refine LG.val 17 (.int .i64 1) w2 (by kernel_rfl) (by kernel_rfl) (by kernel_rfl) ?_
  refine LG.arr 18 54 1 ((List.replicate 1 0).flatMap u64c) hs (by kernel_rfl) (by kernel_rfl) (mkSl (t := 129) (e := 54) (x := .tmp 17) (y := .tmp 17) (z := .int .u64 0) (m := 1) (sz := 1) (bt := 8) (by kernel_rfl) (by kernel_rfl) (by kernel_rfl) (by kernel_rfl) (by kernel_rfl) (by kernel_rfl) (by kernel_rfl) (by decide) (by omega) (by omega) _) (fun b6 w7 h8 nb_ u9 hs => ?_)
  have hl10 : (List.replicate 1 0).length = 1 := by simp
  refine LG.val 3 (.slice (some ⟨b6, 0, none⟩) 1 1) w7 (by kernel_rfl) (by kernel_rfl) (by kernel_rfl) ?_
  refine LG.next (by kernel_rfl) ?_
  refine CG.to [(1, .pointer (some ⟨b1, 0, none⟩)), (2, .slice none 0 0), (3, .slice (some ⟨b6, 0, none⟩) 1 1)] (by kernel_rfl) ?_
  refine CG.seq ?_
  refine CG.listed ?_
  refine LG.val 19 (.slice (some ⟨b6, 0, none⟩) 1 1) w7 (by kernel_rfl) (by kernel_rfl) (by kernel_rfl) ?_
  refine LG.val 20 (.pointer (some ⟨b1, 0, none⟩)) w7 (by kernel_rfl) (by kernel_rfl) (by kernel_rfl) ?_
  refine LG.own 21 [(1, 0, 1)] (.int .u64 (n : Nat)) hs (by kernel_rfl) (by kernel_rfl) (by kernel_rfl) (by kernel_rfl) ?_
  refine LG.val 22 (.pointer (some ⟨b6, 0 + 0 * 1, none⟩)) w7 (by kernel_rfl) (by kernel_rfl) (ixAddr (t := 129) (e := 54) (x := .tmp 19) (ix := .const (.int .i64 0)) (A := some ⟨b6, 0, none⟩) (len := 1) (cap := 1) (sz := 1) (i := 0) 0 (by kernel_rfl) (by kernel_rfl) (by kernel_rfl) (by kernel_rfl) (by kernel_rfl) rfl (by omega) (by omega) _) ?_
  refine LG.putA 0 (List.replicate 1 0) u64c 1 0 n hs g (by kernel_rfl) (by kernel_rfl) (by kernel_rfl) rfl (fun _ => rfl) (by omega) (by kernel_rfl) (fun w11 pu hs => ?_)
  have hl12 : ((List.replicate 1 0).set 0 n).length = 1 := by rw [List.length_set]; exact hl10
  refine LG.next (by kernel_rfl) ?_
  refine CG.seq ?_
  refine CG.seq ?_
  refine CG.listed ?_
  refine LG.val 4 (.int .i64 1) w11 (by kernel_rfl) (by kernel_rfl) (by kernel_rfl) ?_
  refine LG.next (by kernel_rfl) ?_
  refine CG.block ?_
  refine CG.to [(1, .pointer (some ⟨b1, 0, none⟩)), (2, .slice none 0 0), (3, .slice (some ⟨b6, 0, none⟩) 1 1), (4, .int .i64 1)] (by kernel_rfl) ?_
  refine CG.loop (fun μ_ Γ w_ => ∃  (h_ : Hp), μ_ = 0 ∧ Γ = [(1, .pointer (some ⟨b1, 0, none⟩)), (2, .slice none 0 0), (3, .slice (some ⟨b6, 0, none⟩) 1 1), (4, .int .i64 1)] ∧ St w h w_ h_ [⟨b6, 54, ((List.replicate 1 0).set 0 n).flatMap u64c⟩, ⟨b1, 56, [.int .u64 (n : Nat), .string (⟨#[]⟩)]⟩]) _ ⟨h8, rfl, rfl, hs.to _ (by kernel_rfl)⟩ ?_
  rintro _ _ w13 ⟨h14, hm15, rfl, hs⟩
  -- round
  refine CG.seq ?_
  refine CG.seq ?_
  refine CG.listed ?_
  refine LG.val 23 (.int .i64 1) w13 (by kernel_rfl) (by kernel_rfl) (by kernel_rfl) ?_
  refine LG.val 24 (.slice (some ⟨b6, 0, none⟩) 1 1) w13 (by kernel_rfl) (by kernel_rfl) (by kernel_rfl) ?_
  refine LG.val 25 (.int .i64 1) w13 (by kernel_rfl) (by kernel_rfl) (by kernel_rfl) ?_
  refine LG.val 26 (.bool false) w13 (by kernel_rfl) (by kernel_rfl) (by kernel_rfl) ?_
  refine LG.next (by kernel_rfl) ?_
  refine CG.condF (by kernel_rfl) (by kernel_rfl) ?_
  refine CG.exit ?_
  show CG _ _ _ _ _ _ _ _
  refine CG.seq ?_
  refine CG.listed ?_
  refine LG.val 39 (.slice (some ⟨b6, 0, none⟩) 1 1) w13 (by kernel_rfl) (by kernel_rfl) (by kernel_rfl) ?_
  refine LG.val 2 (.slice (some ⟨b6, 0, none⟩) 1 1) w13 (by kernel_rfl) (by kernel_rfl) (by kernel_rfl) ?_
  refine LG.next (by kernel_rfl) ?_
  refine CG.to [(2, .slice (some ⟨b6, 0, none⟩) 1 1)] (by kernel_rfl) ?_
  refine CG.ret ?_
  obtain ⟨h16, hs, pw17, sg18, oth20⟩ := hs.pub 0 (Nat.le_of_ble_eq_true (by kernel_rfl))
  replace hs := hs.to [⟨b1, 56, [.int .u64 (n : Nat), .string (⟨#[]⟩)]⟩] (by kernel_rfl)
  have hA19 : SlO 1 u64c 0 h16 (some ⟨b6, 0, none⟩) ((List.replicate 1 0).set 0 n) := SlO.of_flat (fun _ => rfl) sg18
  exact retP hs [] (.slice (some ⟨b6, 0, none⟩) 1 1) (by kernel_rfl) (by kernel_rfl) ⟨_, rfl, hA19⟩


theorem nWords (n : Nat) (hn0 : 0 < n) (hn : n < 18446744073709551616) (w : World) (h : Hp) (g : G w h) : Calls Tryz.prog 95 #[nv n] w (Ret w h fun v h => ∃ A, v = .slice A 1 1 ∧ SlO 1 u64c 0 h A [n]) := by
  rw [nv_small hn]; exact nWords0 n hn0 hn w h g

set_option maxRecDepth 100000 in
set_option maxHeartbeats 600000 in
theorem nBytes1 (n : Nat) (hn0 : 0 < n) (hn : n < 18446744073709551616) (w : World) (h : Hp) (g : G w h) :
    Calls Tryz.prog 119 #[nv n] w (Ret w h fun v h => ∃ A, v = .slice A ((nb n + 7) / 8) ((nb n + 7) / 8) ∧ SlO 1 u8c 0 h A (byt n ((nb n + 7) / 8))) := by
  have hs := St.start g
  have hnb := nb_le (n := n) (k := 64) (by omega)
  refine enter (n := 37) Tryz.func119 rfl rfl (Nat.le_of_ble_eq_true (by kernel_rfl)) [(0, nv n)] rfl ?_
  refine CG.seq ?_
  refine CG.listed ?_
  refine LG.var 1 56 (nc n) hs (by kernel_rfl) (by kernel_rfl) (by kernel_rfl) (fun b1 w2 h3 nb_ u4 hs => ?_)
  refine LG.val 2 (.slice none 0 0) w2 (by kernel_rfl) (by kernel_rfl) (by kernel_rfl) ?_
  refine LG.next (by kernel_rfl) ?_
  refine CG.seq ?_
  refine CG.listed ?_
  refine LG.own 7 [(0, 0, 2)] (nv n) hs (by kernel_rfl) (by kernel_rfl) (by kernel_rfl) (by kernel_rfl) ?_
  refine LG.call 8 54 #[nv n] (by kernel_rfl) (by kernel_rfl) (by kernel_rfl) ?_
  refine (Ret.of_ext hs.g (cBits n (by omega) w2)).mono ?_
  rintro _ w5 ⟨vu7, h6, rfl, u7, rfl⟩
  refine ⟨_, rfl, ?_⟩
  replace hs := hs.step u7
  refine LG.val 9 (.int .i64 ((nb n) + 7 : Nat)) w5 (by kernel_rfl) (by kernel_rfl) (rint (ri64 (n := (nb n : Nat) + 7) (by kernel_rfl) (by omega) (by omega)) (by omega)) ?_
  refine LG.val 10 (.int .i64 (((nb n) + 7) / 8 : Nat)) w5 (by kernel_rfl) (by kernel_rfl) (rint (opQuo (t := 3) (u := 3) (x := .tmp 9) (y := .const (.int .i64 8)) (k := .i64) (a := (((nb n) + 7 : Nat) : Int)) (b := (8 : Int)) (by kernel_rfl) (by kernel_rfl) (by kernel_rfl) (by omega) _) (quoI64 ((nb n) + 7) 8 (by omega))) ?_
  refine LG.val 3 (.int .i64 (((nb n) + 7) / 8 : Nat)) w5 (by kernel_rfl) (by kernel_rfl) (by kernel_rfl) ?_
  refine LG.next (by kernel_rfl) ?_
  refine CG.seq ?_
  refine CG.listed ?_
  refine LG.val 11 (.int .i64 (((nb n) + 7) / 8 : Nat)) w5 (by kernel_rfl) (by kernel_rfl) (by kernel_rfl) ?_
  refine LG.arr 12 5 (((nb n) + 7) / 8 : Nat) ((List.replicate (((nb n) + 7) / 8 : Nat) 0).flatMap u8c) hs (by kernel_rfl) (by kernel_rfl) (mkSl (t := 107) (e := 5) (x := .tmp 11) (y := .tmp 11) (z := .int .u8 0) (m := (((nb n) + 7) / 8 : Nat)) (sz := 1) (bt := 1) (by kernel_rfl) (by kernel_rfl) (by kernel_rfl) (by kernel_rfl) (by kernel_rfl) (by kernel_rfl) (by kernel_rfl) (by decide) (by omega) (by omega) _) (fun b8 w9 h10 nb_ u11 hs => ?_)
  have hl12 : (List.replicate (((nb n) + 7) / 8 : Nat) 0).length = (((nb n) + 7) / 8 : Nat) := by simp
  refine LG.val 4 (.slice (some ⟨b8, 0, none⟩) (((nb n) + 7) / 8 : Nat) (((nb n) + 7) / 8 : Nat)) w9 (by kernel_rfl) (by kernel_rfl) (by kernel_rfl) ?_
  refine LG.next (by kernel_rfl) ?_
  refine CG.to [(1, .pointer (some ⟨b1, 0, none⟩)), (2, .slice none 0 0), (3, .int .i64 (((nb n) + 7) / 8 : Nat)), (4, .slice (some ⟨b8, 0, none⟩) (((nb n) + 7) / 8 : Nat) (((nb n) + 7) / 8 : Nat))] (by kernel_rfl) ?_
  refine CG.seq ?_
  refine CG.listed ?_
  refine LG.own 13 [(1, 0, 2)] (nv n) hs (by kernel_rfl) (by kernel_rfl) (by kernel_rfl) (by kernel_rfl) ?_
  refine LG.call 14 95 #[nv n] (by kernel_rfl) (by kernel_rfl) (by kernel_rfl) ?_
  refine (nWords n hn0 hn w9 h10 hs.g).mono ?_
  rintro _ w13 ⟨vu15, h14, rfl, u15, ⟨AW, rfl, HAW⟩⟩
  refine ⟨_, rfl, ?_⟩
  replace hs := hs.step u15
  refine LG.val 5 (.slice AW 1 1) w13 (by kernel_rfl) (by kernel_rfl) (by kernel_rfl) ?_
  refine LG.next (by kernel_rfl) ?_
  refine CG.seq ?_
  refine CG.seq ?_
  refine CG.listed ?_
  refine LG.val 15 (.int .i64 (((nb n) + 7) / 8 : Nat)) w13 (by kernel_rfl) (by kernel_rfl) (by kernel_rfl) ?_
  refine LG.val 16 (.int .i64 0) w13 (by kernel_rfl) (by kernel_rfl) (by kernel_rfl) ?_
  refine LG.next (by kernel_rfl) ?_
  refine CG.block ?_
  refine CG.to [(2, .slice none 0 0), (3, .int .i64 (((nb n) + 7) / 8 : Nat)), (4, .slice (some ⟨b8, 0, none⟩) (((nb n) + 7) / 8 : Nat) (((nb n) + 7) / 8 : Nat)), (5, .slice AW 1 1), (15, .int .i64 (((nb n) + 7) / 8 : Nat)), (16, .int .i64 0)] (by kernel_rfl) ?_
  refine CG.loop (fun μ_ Γ w_ => ∃ (k : Nat) (l : List Nat) (h_ : Hp), μ_ = (nb n + 7) / 8 - k ∧ Γ = [(2, .slice none 0 0), (3, .int .i64 (((nb n) + 7) / 8 : Nat)), (4, .slice (some ⟨b8, 0, none⟩) (((nb n) + 7) / 8 : Nat) (((nb n) + 7) / 8 : Nat)), (5, .slice AW 1 1), (15, .int .i64 (((nb n) + 7) / 8 : Nat)), (16, .int .i64 (k : Nat))] ∧ St w h w_ h_ [⟨b8, 5, (l).flatMap u8c⟩, ⟨b1, 56, nc n⟩] ∧ (SlO 1 u64c 0 h_ AW [n]) ∧ (k ≤ (nb n + 7) / 8) ∧ (l.length = (nb n + 7) / 8) ∧ (∀ j, j < k → l.getD ((nb n + 7) / 8 - 1 - j) 0 = n / 256 ^ j % 256)) _ ⟨0, List.replicate ((nb n + 7) / 8) 0, h14, rfl, rfl, hs.to _ (by kernel_rfl), HAW, Nat.zero_le _, (by simp), (by intro j hj; omega)⟩ ?_
  rintro _ _ w16 ⟨k, l, h17, hm18, rfl, hs, HAW, hk, hl, hv⟩
  -- round
  refine CG.seq ?_
  refine CG.listed ?_
  cases hb19 : (decide (((k : Nat) : Int) < ((((nb n) + 7) / 8 : Nat) : Int)))
  ·
    have phb19 := of_decide_eq_false hb19
    refine LG.val 17 (.bool false) w16 (by kernel_rfl) (by kernel_rfl) (rb (by kernel_rfl) hb19) ?_
    refine LG.next (by kernel_rfl) ?_
    refine CG.seq ?_
    refine CG.condF (by kernel_rfl) (by kernel_rfl) ?_
    refine CG.exit ?_
    show CG _ _ _ _ _ _ _ _
    refine CG.seq ?_
    refine CG.listed ?_
    refine LG.val 36 (.slice (some ⟨b8, 0, none⟩) (((nb n) + 7) / 8 : Nat) (((nb n) + 7) / 8 : Nat)) w16 (by kernel_rfl) (by kernel_rfl) (by kernel_rfl) ?_
    refine LG.val 2 (.slice (some ⟨b8, 0, none⟩) (((nb n) + 7) / 8 : Nat) (((nb n) + 7) / 8 : Nat)) w16 (by kernel_rfl) (by kernel_rfl) (by kernel_rfl) ?_
    refine LG.next (by kernel_rfl) ?_
    refine CG.to [(2, .slice (some ⟨b8, 0, none⟩) (((nb n) + 7) / 8 : Nat) (((nb n) + 7) / 8 : Nat))] (by kernel_rfl) ?_
    refine CG.ret ?_
    obtain rfl : k = (nb n + 7) / 8 := by omega
    have hlb : l = byt n ((nb n + 7) / 8) := eq_byt hl hv
    obtain ⟨h20, hs, pw21, sg22, oth24⟩ := hs.pub 0 (Nat.le_of_ble_eq_true (by kernel_rfl))
    replace HAW := HAW.gw pw21
    replace hs := hs.to [⟨b1, 56, nc n⟩] (by kernel_rfl)
    have hA23 : SlO 1 u8c 0 h20 (some ⟨b8, 0, none⟩) (l) := SlO.of_flat (fun _ => rfl) sg22
    rw [hlb] at hA23
    exact retP hs [] (.slice (some ⟨b8, 0, none⟩) (((nb n) + 7) / 8 : Nat) (((nb n) + 7) / 8 : Nat)) (by kernel_rfl) (by kernel_rfl) ⟨_, rfl, hA23⟩
  ·
    have phb19 := of_decide_eq_true hb19
    refine LG.val 17 (.bool true) w16 (by kernel_rfl) (by kernel_rfl) (rb (by kernel_rfl) hb19) ?_
    refine LG.next (by kernel_rfl) ?_
    refine CG.seq ?_
    refine CG.condT (by kernel_rfl) (by kernel_rfl) ?_
    refine CG.skipN ?_
    refine CG.seq ?_
    refine CG.block ?_
    refine CG.seq ?_
    refine CG.listed ?_
    refine LG.val 18 (.int .i64 (k : Nat)) w16 (by kernel_rfl) (by kernel_rfl) (by kernel_rfl) ?_
    refine LG.val 6 (.int .i64 (k : Nat)) w16 (by kernel_rfl) (by kernel_rfl) (by kernel_rfl) ?_
    refine LG.next (by kernel_rfl) ?_
    refine CG.listed ?_
    refine LG.val 19 (.slice (some ⟨b8, 0, none⟩) (((nb n) + 7) / 8 : Nat) (((nb n) + 7) / 8 : Nat)) w16 (by kernel_rfl) (by kernel_rfl) (by kernel_rfl) ?_
    refine LG.val 20 (.int .i64 (((nb n) + 7) / 8 : Nat)) w16 (by kernel_rfl) (by kernel_rfl) (by kernel_rfl) ?_
    refine LG.val 21 (.int .i64 ((((nb n) + 7) / 8 : Nat) - 1 : Nat)) w16 (by kernel_rfl) (by kernel_rfl) (rint (ri64 (n := (((nb n) + 7) / 8 : Nat) - 1) (by kernel_rfl) (by omega) (by omega)) (by omega)) ?_
    refine LG.val 22 (.int .i64 (k : Nat)) w16 (by kernel_rfl) (by kernel_rfl) (by kernel_rfl) ?_
    refine LG.val 23 (.int .i64 (((((nb n) + 7) / 8 : Nat) - 1 : Nat) - k : Nat)) w16 (by kernel_rfl) (by kernel_rfl) (rint (ri64 (n := ((((nb n) + 7) / 8 : Nat) - 1 : Nat) - (k : Nat)) (by kernel_rfl) (by omega) (by omega)) (by omega)) ?_
    refine LG.val 24 (.slice AW 1 1) w16 (by kernel_rfl) (by kernel_rfl) (by kernel_rfl) ?_
    refine LG.val 25 (.int .i64 (k : Nat)) w16 (by kernel_rfl) (by kernel_rfl) (by kernel_rfl) ?_
    refine LG.val 26 (.int .i64 (k / 8 : Nat)) w16 (by kernel_rfl) (by kernel_rfl) (rint (opQuo (t := 3) (u := 3) (x := .tmp 25) (y := .const (.int .i64 8)) (k := .i64) (a := ((k : Nat) : Int)) (b := (8 : Int)) (by kernel_rfl) (by kernel_rfl) (by kernel_rfl) (by omega) _) (quoI64 k 8 (by omega))) ?_
    refine LG.val 27 (.pointer (some ⟨(aB AW), aO AW + (k / 8) * 1, none⟩)) w16 (by kernel_rfl) (by kernel_rfl) (ixAddr (t := 129) (e := 54) (x := .tmp 24) (ix := .tmp 26) (A := AW) (len := 1) (cap := 1) (sz := 1) (i := (k / 8 : Nat)) (k / 8) (by kernel_rfl) (by kernel_rfl) (by kernel_rfl) (by kernel_rfl) (by kernel_rfl) (HAW.ok (by simp)) (by omega) (by omega) _) ?_
    refine LG.val 28 (.int .u64 ([n].getD (k / 8) 0 : Nat)) w16 (by kernel_rfl) (by kernel_rfl) (Seg.run (HAW.el (k / 8) (by simp; omega)) hs.g (Ext.refl _) (by kernel_rfl)) ?_
    refine LG.val 29 (.int .i64 (k : Nat)) w16 (by kernel_rfl) (by kernel_rfl) (by kernel_rfl) ?_
    refine LG.val 30 (.int .i64 (k % 8 : Nat)) w16 (by kernel_rfl) (by kernel_rfl) (rint (opRem (t := 3) (u := 3) (x := .tmp 29) (y := .const (.int .i64 8)) (k := .i64) (a := ((k : Nat) : Int)) (b := (8 : Int)) (by kernel_rfl) (by kernel_rfl) (by kernel_rfl) (by omega) _) (tmodNat k 8)) ?_
    refine LG.val 31 (.int .i64 (8 * (k % 8) : Nat)) w16 (by kernel_rfl) (by kernel_rfl) (rint (ri64 (n := 8 * (k % 8 : Nat)) (by kernel_rfl) (by omega) (by omega)) (by omega)) ?_
    refine LG.val 32 (.int .u64 ([n].getD (k / 8) 0 / 2 ^ (8 * (k % 8)) : Nat)) w16 (by kernel_rfl) (by kernel_rfl) (opShrU (t := 54) (u := 3) (x := .tmp 28) (y := .tmp 31) (k := .u64) (ky := .i64) (a := [n].getD (k / 8) 0) (n := 8 * (k % 8)) (by kernel_rfl) (by kernel_rfl) (by kernel_rfl) (show 8 * (k % 8) ≤ 64 by omega) _) ?_
    refine LG.val 33 (.int .u8 (n / 256 ^ k % 256 : Nat)) w16 (by kernel_rfl) (by kernel_rfl) (rint (n := IntKind.wrap .u8 (([n].getD (k / 8) 0 / 2 ^ (8 * (k % 8)) : Nat) : Int)) (by kernel_rfl) (by rw [wrU8, byte_word (by omega)])) ?_
    refine LG.val 34 (.pointer (some ⟨b8, 0 + (((((nb n) + 7) / 8 : Nat) - 1 : Nat) - k : Nat) * 1, none⟩)) w16 (by kernel_rfl) (by kernel_rfl) (ixAddr (t := 107) (e := 5) (x := .tmp 19) (ix := .tmp 23) (A := some ⟨b8, 0, none⟩) (len := (((nb n) + 7) / 8 : Nat)) (cap := (((nb n) + 7) / 8 : Nat)) (sz := 1) (i := (((((nb n) + 7) / 8 : Nat) - 1 : Nat) - k : Nat)) (((((nb n) + 7) / 8 : Nat) - 1 : Nat) - k : Nat) (by kernel_rfl) (by kernel_rfl) (by kernel_rfl) (by kernel_rfl) (by kernel_rfl) rfl (by omega) (by omega) _) ?_
    refine LG.putA 0 (l) u8c 1 (((((nb n) + 7) / 8 : Nat) - 1 : Nat) - k : Nat) (n / 256 ^ k % 256) hs g (by kernel_rfl) (by kernel_rfl) (by kernel_rfl) rfl (fun _ => rfl) (by omega) (by kernel_rfl) (fun w25 pu hs => ?_)
    have hl26 : ((l).set (((((nb n) + 7) / 8 : Nat) - 1 : Nat) - k : Nat) (n / 256 ^ k % 256)).length = (((nb n) + 7) / 8 : Nat) := by rw [List.length_set]; exact hl
    refine LG.next (by kernel_rfl) ?_
    refine CG.to [(2, .slice none 0 0), (3, .int .i64 (((nb n) + 7) / 8 : Nat)), (4, .slice (some ⟨b8, 0, none⟩) (((nb n) + 7) / 8 : Nat) (((nb n) + 7) / 8 : Nat)), (5, .slice AW 1 1), (15, .int .i64 (((nb n) + 7) / 8 : Nat)), (16, .int .i64 (k : Nat))] (by kernel_rfl) ?_
    refine CG.listed ?_
    refine LG.val 35 (.int .i64 (k + 1 : Nat)) w25 (by kernel_rfl) (by kernel_rfl) (rint (ri64 (n := (k : Nat) + 1) (by kernel_rfl) (by omega) (by omega)) (by omega)) ?_
    refine LG.val 16 (.int .i64 (k + 1 : Nat)) w25 (by kernel_rfl) (by kernel_rfl) (by kernel_rfl) ?_
    refine LG.done (by kernel_rfl) ?_
    intro a_ ka
    refine ⟨_, _, ?_, ⟨k + 1, l.set ((nb n + 7) / 8 - 1 - k) (n / 256 ^ k % 256), h17, rfl, rfl, hs.to _ (by kernel_rfl), HAW, by omega, by rw [List.length_set]; exact hl, set_from_top hl (by omega) hv⟩, ka.to [(2, .slice none 0 0), (3, .int .i64 (((nb n) + 7) / 8 : Nat)), (4, .slice (some ⟨b8, 0, none⟩) (((nb n) + 7) / 8 : Nat) (((nb n) + 7) / 8 : Nat)), (5, .slice AW 1 1), (15, .int .i64 (((nb n) + 7) / 8 : Nat)), (16, .int .i64 ((k + 1) : Nat))] (by kernel_rfl)⟩
    omega

set_option maxRecDepth 100000 in
set_option maxHeartbeats 600000 in
theorem nWords00  (w : World) (h : Hp) (g : G w h) :
    Calls Tryz.prog 95 #[.agg #[.int .u64 0, .string (⟨#[]⟩)]] w (Ret w h fun v _ => v = .slice none 0 0) := by
  have hs := St.start g
  refine enter (n := 40) Tryz.func95 rfl rfl (Nat.le_of_ble_eq_true (by kernel_rfl)) [(0, .agg #[.int .u64 0, .string (⟨#[]⟩)])] rfl ?_
  refine CG.seq ?_
  refine CG.listed ?_
  refine LG.var 1 56 ([.int .u64 0, .string (⟨#[]⟩)]) hs (by kernel_rfl) (by kernel_rfl) (by kernel_rfl) (fun b1 w2 h3 nb_ u4 hs => ?_)
  refine LG.val 2 (.slice none 0 0) w2 (by kernel_rfl) (by kernel_rfl) (by kernel_rfl) ?_
  refine LG.next (by kernel_rfl) ?_
  refine CG.seq ?_
  refine CG.seq ?_
  refine CG.listed ?_
  refine LG.val 5 (.pointer (some ⟨b1, 1, none⟩)) w2 (by kernel_rfl) (by kernel_rfl) (by kernel_rfl) ?_
  refine LG.own 6 [(0, 1, 1)] (.string (⟨#[]⟩)) hs (by kernel_rfl) (by kernel_rfl) (by kernel_rfl) (by kernel_rfl) ?_
  refine LG.val 7 (.bool true) w2 (by kernel_rfl) (by kernel_rfl) (by kernel_rfl) ?_
  refine LG.val 8 (.bool true) w2 (by kernel_rfl) (by kernel_rfl) (by kernel_rfl) ?_
  refine LG.val 9 (.pointer (some ⟨b1, 0, none⟩)) w2 (by kernel_rfl) (by kernel_rfl) (by kernel_rfl) ?_
  refine LG.own 10 [(0, 0, 1)] (.int .u64 0) hs (by kernel_rfl) (by kernel_rfl) (by kernel_rfl) (by kernel_rfl) ?_
  refine LG.val 11 (.bool true) w2 (by kernel_rfl) (by kernel_rfl) (by kernel_rfl) ?_
  refine LG.val 12 (.bool true) w2 (by kernel_rfl) (by kernel_rfl) (by kernel_rfl) ?_
  refine LG.next (by kernel_rfl) ?_
  refine CG.to [(1, .pointer (some ⟨b1, 0, none⟩)), (2, .slice none 0 0), (12, .bool true)] (by kernel_rfl) ?_
  refine CG.condT (by kernel_rfl) (by kernel_rfl) ?_
  refine CG.seq ?_
  refine CG.listed ?_
  refine LG.val 2 (.slice none 0 0) w2 (by kernel_rfl) (by kernel_rfl) (by kernel_rfl) ?_
  refine LG.next (by kernel_rfl) ?_
  refine CG.ret ?_
  exact retP hs [] (.slice none 0 0) (by kernel_rfl) (by kernel_rfl) rfl

set_option maxRecDepth 100000 in
set_option maxHeartbeats 600000 in
theorem nBytes0  (w : World) (h : Hp) (g : G w h) :
    Calls Tryz.prog 119 #[.agg #[.int .u64 0, .string (⟨#[]⟩)]] w (Ret w h fun v h => ∃ A, v = .slice A 0 0) := by
  have hs := St.start g
  refine enter (n := 37) Tryz.func119 rfl rfl (Nat.le_of_ble_eq_true (by kernel_rfl)) [(0, .agg #[.int .u64 0, .string (⟨#[]⟩)])] rfl ?_
  refine CG.seq ?_
  refine CG.listed ?_
  refine LG.var 1 56 ([.int .u64 0, .string (⟨#[]⟩)]) hs (by kernel_rfl) (by kernel_rfl) (by kernel_rfl) (fun b1 w2 h3 nb_ u4 hs => ?_)
  refine LG.val 2 (.slice none 0 0) w2 (by kernel_rfl) (by kernel_rfl) (by kernel_rfl) ?_
  refine LG.next (by kernel_rfl) ?_
  refine CG.seq ?_
  refine CG.listed ?_
  refine LG.own 7 [(0, 0, 2)] (.agg #[.int .u64 0, .string (⟨#[]⟩)]) hs (by kernel_rfl) (by kernel_rfl) (by kernel_rfl) (by kernel_rfl) ?_
  refine LG.call 8 54 #[.agg #[.int .u64 0, .string (⟨#[]⟩)]] (by kernel_rfl) (by kernel_rfl) (by kernel_rfl) ?_
  refine (Ret.of_ext hs.g (cBits 0 (by omega) w2)).mono ?_
  rintro _ w5 ⟨vu7, h6, rfl, u7, rfl⟩
  refine ⟨_, rfl, ?_⟩
  replace hs := hs.step u7
  refine LG.val 9 (.int .i64 7) w5 (by kernel_rfl) (by kernel_rfl) (by kernel_rfl) ?_
  refine LG.val 10 (.int .i64 0) w5 (by kernel_rfl) (by kernel_rfl) (by kernel_rfl) ?_
  refine LG.val 3 (.int .i64 0) w5 (by kernel_rfl) (by kernel_rfl) (by kernel_rfl) ?_
  refine LG.next (by kernel_rfl) ?_
  refine CG.seq ?_
  refine CG.listed ?_
  refine LG.val 11 (.int .i64 0) w5 (by kernel_rfl) (by kernel_rfl) (by kernel_rfl) ?_
  refine LG.arr 12 5 0 ((List.replicate 0 0).flatMap u8c) hs (by kernel_rfl) (by kernel_rfl) (mkSl (t := 107) (e := 5) (x := .tmp 11) (y := .tmp 11) (z := .int .u8 0) (m := 0) (sz := 1) (bt := 1) (by kernel_rfl) (by kernel_rfl) (by kernel_rfl) (by kernel_rfl) (by kernel_rfl) (by kernel_rfl) (by kernel_rfl) (by decide) (by omega) (by omega) _) (fun b8 w9 h10 nb_ u11 hs => ?_)
  have hl12 : (List.replicate 0 0).length = 0 := by simp
  refine LG.val 4 (.slice (some ⟨b8, 0, none⟩) 0 0) w9 (by kernel_rfl) (by kernel_rfl) (by kernel_rfl) ?_
  refine LG.next (by kernel_rfl) ?_
  refine CG.to [(1, .pointer (some ⟨b1, 0, none⟩)), (2, .slice none 0 0), (3, .int .i64 0), (4, .slice (some ⟨b8, 0, none⟩) 0 0)] (by kernel_rfl) ?_
  refine CG.seq ?_
  refine CG.listed ?_
  refine LG.own 13 [(1, 0, 2)] (.agg #[.int .u64 0, .string (⟨#[]⟩)]) hs (by kernel_rfl) (by kernel_rfl) (by kernel_rfl) (by kernel_rfl) ?_
  refine LG.call 14 95 #[.agg #[.int .u64 0, .string (⟨#[]⟩)]] (by kernel_rfl) (by kernel_rfl) (by kernel_rfl) ?_
  refine (nWords00 w9 h10 hs.g).mono ?_
  rintro _ w13 ⟨vu15, h14, rfl, u15, rfl⟩
  refine ⟨_, rfl, ?_⟩
  replace hs := hs.step u15
  refine LG.val 5 (.slice none 0 0) w13 (by kernel_rfl) (by kernel_rfl) (by kernel_rfl) ?_
  refine LG.next (by kernel_rfl) ?_
  refine CG.seq ?_
  refine CG.seq ?_
  refine CG.listed ?_
  refine LG.val 15 (.int .i64 0) w13 (by kernel_rfl) (by kernel_rfl) (by kernel_rfl) ?_
  refine LG.val 16 (.int .i64 0) w13 (by kernel_rfl) (by kernel_rfl) (by kernel_rfl) ?_
  refine LG.next (by kernel_rfl) ?_
  refine CG.block ?_
  refine CG.to [(2, .slice none 0 0), (3, .int .i64 0), (4, .slice (some ⟨b8, 0, none⟩) 0 0), (5, .slice none 0 0), (15, .int .i64 0), (16, .int .i64 0)] (by kernel_rfl) ?_
  refine CG.loop (fun μ_ Γ w_ => ∃  (h_ : Hp), μ_ = 0 ∧ Γ = [(2, .slice none 0 0), (3, .int .i64 0), (4, .slice (some ⟨b8, 0, none⟩) 0 0), (5, .slice none 0 0), (15, .int .i64 0), (16, .int .i64 0)] ∧ St w h w_ h_ [⟨b8, 5, (List.replicate 0 0).flatMap u8c⟩, ⟨b1, 56, [.int .u64 0, .string (⟨#[]⟩)]⟩]) _ ⟨h14, rfl, rfl, hs.to _ (by kernel_rfl)⟩ ?_
  rintro _ _ w16 ⟨h17, hm18, rfl, hs⟩
  -- round
  refine CG.seq ?_
  refine CG.listed ?_
  refine LG.val 17 (.bool false) w16 (by kernel_rfl) (by kernel_rfl) (by kernel_rfl) ?_
  refine LG.next (by kernel_rfl) ?_
  refine CG.seq ?_
  refine CG.condF (by kernel_rfl) (by kernel_rfl) ?_
  refine CG.exit ?_
  show CG _ _ _ _ _ _ _ _
  refine CG.seq ?_
  refine CG.listed ?_
  refine LG.val 36 (.slice (some ⟨b8, 0, none⟩) 0 0) w16 (by kernel_rfl) (by kernel_rfl) (by kernel_rfl) ?_
  refine LG.val 2 (.slice (some ⟨b8, 0, none⟩) 0 0) w16 (by kernel_rfl) (by kernel_rfl) (by kernel_rfl) ?_
  refine LG.next (by kernel_rfl) ?_
  refine CG.to [(2, .slice (some ⟨b8, 0, none⟩) 0 0)] (by kernel_rfl) ?_
  refine CG.ret ?_
  exact retP hs [] (.slice (some ⟨b8, 0, none⟩) 0 0) (by kernel_rfl) (by kernel_rfl) ⟨_, rfl⟩


theorem nBytes (n : Nat) (hn : n < 18446744073709551616) (w : World) (h : Hp) (g : G w h) : Calls Tryz.prog 119 #[nv n] w (Ret w h fun v h => ∃ A, v = .slice A ((nb n + 7) / 8) ((nb n + 7) / 8) ∧ SlO 1 u8c 0 h A (byt n ((nb n + 7) / 8))) := by
  rcases Nat.eq_zero_or_pos n with h0 | h0
  · subst h0
    refine (nBytes0 w h g).mono ?_
    rintro e w' ⟨v, h', he, u, A, rfl⟩
    exact ⟨_, h', he, u, A, rfl, SlO.nil⟩
  · exact nBytes1 n h0 hn w h g
theorem getD_rep0 (m k : Nat) : (List.replicate m 0).getD k 0 = 0 := getD_rep m k
theorem lowL_init {n m : Nat} (h : n < 256 ^ m) : ∀ j, j < (m + 3) / 4 → (List.replicate ((m + 3) / 4) 0).getD j 0 = lowL n (m - 0) j := fun j _ => by rw [getD_rep, Nat.sub_zero, lowL_top h]
theorem lowL_next {l : List Nat} {n m i x : Nat} (hi : i < m) (hl : l.length = (m + 3) / 4) (hv : ∀ j, j < (m + 3) / 4 → l.getD j 0 = lowL n (m - i) j) (hx : x = lowL n (m - 1 - i) ((m - 1 - i) / 4)) :
    ∀ j, j < (m + 3) / 4 → (l.set ((m - 1 - i) / 4) x).getD j 0 = lowL n (m - (i + 1)) j := by
  intro j hj
  rw [show m - (i + 1) = m - 1 - i by omega]
  by_cases e : j = (m - 1 - i) / 4
  · subst e
    have : (m - 1 - i) / 4 < l.length := by omega
    simp [this, hx]
  · rw [lowL_step, if_neg e, show m - 1 - i + 1 = m - i by omega, ← hv j hj]
    simp only [List.getD_eq_getElem?_getD]
    rw [List.getElem?_set_ne (Ne.symm e)]
theorem from_or {n k : Nat} : lowL n (k + 1) (k / 4) ||| (n / 256 ^ k % 256) * 2 ^ (8 * (k % 4)) = lowL n k (k / 4) := by rw [lowL_step n k (k / 4), if_pos rfl]
theorem shl_fit32 {b k : Nat} (hb : b < 256) : b * 2 ^ (8 * (k % 4)) < 4294967296 := by
  have : k % 4 = 0 ∨ k % 4 = 1 ∨ k % 4 = 2 ∨ k % 4 = 3 := by omega
  rcases this with e | e | e | e <;> rw [e] <;> omega
theorem opShlU32 {P : Program} {Γ : Env} {o : Oper} {t u : TypeId} {x y : Operand} {ky : IntKind} {a n : Nat} (ho : o.op = .binOp .shl t x y u) (hx : ev Γ x = .int .u32 (a : Int)) (hy : ev Γ y = .int ky (n : Int)) (hn : n ≤ 32) (hf : a * 2 ^ n < 4294967296) (w : World) :
    (execOp (ev Γ) o).run P w = .ok (.value (.int .u32 ((a * 2 ^ n : Nat) : Int))) w := by
  have := opShl (P := P) ho hx hy hn w
  rw [show ((a : Int) * 2 ^ n) = ((a * 2 ^ n : Nat) : Int) by simp, fnU32 hf] at this
  exact this
theorem from_fin {l : List Nat} {n m : Nat} (hn : n < 256 ^ m) (hl : l.length = (m + 3) / 4) (hv : ∀ j, j < (m + 3) / 4 → l.getD j 0 = lowL n (m - m) j) : nval l = n ∧ ∀ x ∈ l, x < 4294967296 := by
  constructor
  · refine nval_of_digits l n (fun j hj => by rw [hv j (by omega), Nat.sub_self, lowL_zero]) ?_
    refine Nat.lt_of_lt_of_le hn ?_
    rw [hl, show (256 : Nat) = 2 ^ 8 by rfl, show (4294967296 : Nat) = 2 ^ 32 by rfl, ← Nat.pow_mul, ← Nat.pow_mul]
    exact Nat.pow_le_pow_right (by omega) (by omega)
  · intro x hx
    obtain ⟨j, hj, rfl⟩ := List.mem_iff_getElem.1 hx
    have := hv j (by omega)
    have e : l[j] = l.getD j 0 := by simp [hj]
    rw [e, this]
    exact lowL_lt _ _ _

set_option maxRecDepth 100000 in
set_option maxHeartbeats 600000 in
theorem rNatFrom (n m : Nat) (A : Option Addr) (cap : Nat) (hc : m ≤ cap) (hm : m ≤ 1099511627776) (hn : n < 256 ^ m) (w : World) (h : Hp) (g : G w h) (hA : SlO 1 u8c 0 h A (byt n m)) :
    Calls Tryz.prog 118 #[.slice A m cap] w (Ret w h fun v h => RN h v n) := by
  have hs := St.start g
  have hbl := byt_len n m
  refine enter (n := 44) Tryz.func118 rfl rfl (Nat.le_of_ble_eq_true (by kernel_rfl)) [(0, .slice A m cap)] rfl ?_
  refine CG.seq ?_
  refine CG.listed ?_
  refine LG.val 2 (.slice none 0 0) w (by kernel_rfl) (by kernel_rfl) (by kernel_rfl) ?_
  refine LG.next (by kernel_rfl) ?_
  refine CG.seq ?_
  refine CG.listed ?_
  refine LG.val 6 (.slice A m cap) w (by kernel_rfl) (by kernel_rfl) (by kernel_rfl) ?_
  refine LG.val 7 (.int .i64 (m : Nat)) w (by kernel_rfl) (by kernel_rfl) (by kernel_rfl) ?_
  refine LG.val 8 (.int .i64 (m + 3 : Nat)) w (by kernel_rfl) (by kernel_rfl) (rint (ri64 (n := (m : Nat) + 3) (by kernel_rfl) (by omega) (by omega)) (by omega)) ?_
  refine LG.val 9 (.int .i64 ((m + 3) / 4 : Nat)) w (by kernel_rfl) (by kernel_rfl) (rint (opQuo (t := 3) (u := 3) (x := .tmp 8) (y := .const (.int .i64 4)) (k := .i64) (a := ((m + 3 : Nat) : Int)) (b := (4 : Int)) (by kernel_rfl) (by kernel_rfl) (by kernel_rfl) (by omega) _) (quoI64 (m + 3) 4 (by omega))) ?_
  refine LG.arr 10 100 ((m + 3) / 4) ((List.replicate ((m + 3) / 4) 0).flatMap u32c) hs (by kernel_rfl) (by kernel_rfl) (mkSl (t := 41) (e := 100) (x := .tmp 9) (y := .tmp 9) (z := .int .u32 0) (m := ((m + 3) / 4)) (sz := 1) (bt := 4) (by kernel_rfl) (by kernel_rfl) (by kernel_rfl) (by kernel_rfl) (by kernel_rfl) (by kernel_rfl) (by kernel_rfl) (by decide) (by omega) (by omega) _) (fun b1 w2 h3 nb_ u4 hs => ?_)
  replace hA := hA.gw u4.gr.gw
  have hl5 : (List.replicate ((m + 3) / 4) 0).length = ((m + 3) / 4) := by simp
  refine LG.val 3 (.slice (some ⟨b1, 0, none⟩) ((m + 3) / 4) ((m + 3) / 4)) w2 (by kernel_rfl) (by kernel_rfl) (by kernel_rfl) ?_
  refine LG.next (by kernel_rfl) ?_
  refine CG.seq ?_
  refine CG.seq ?_
  refine CG.listed ?_
  refine LG.val 4 (.int .i64 0) w2 (by kernel_rfl) (by kernel_rfl) (by kernel_rfl) ?_
  refine LG.next (by kernel_rfl) ?_
  refine CG.block ?_
  refine CG.to [(0, .slice A m cap), (2, .slice none 0 0), (3, .slice (some ⟨b1, 0, none⟩) ((m + 3) / 4) ((m + 3) / 4)), (4, .int .i64 0)] (by kernel_rfl) ?_
  refine CG.loop (fun μ_ Γ w_ => ∃ (i : Nat) (l : List Nat) (h_ : Hp), μ_ = m - i ∧ Γ = [(0, .slice A m cap), (2, .slice none 0 0), (3, .slice (some ⟨b1, 0, none⟩) ((m + 3) / 4) ((m + 3) / 4)), (4, .int .i64 (i : Nat))] ∧ St w h w_ h_ [⟨b1, 100, (l).flatMap u32c⟩] ∧ (SlO 1 u8c 0 h_ A (byt n m)) ∧ (i ≤ m) ∧ (l.length = (m + 3) / 4) ∧ (∀ j, j < (m + 3) / 4 → l.getD j 0 = lowL n (m - i) j)) _ ⟨0, List.replicate ((m + 3) / 4) 0, h3, rfl, rfl, hs.to _ (by kernel_rfl), hA, Nat.zero_le _, (by simp), (lowL_init hn)⟩ ?_
  rintro _ _ w6 ⟨i, l, h7, hm8, rfl, hs, hA, hi, hl, hv⟩
  -- round
  refine CG.seq ?_
  refine CG.seq ?_
  refine CG.listed ?_
  refine LG.val 11 (.int .i64 (i : Nat)) w6 (by kernel_rfl) (by kernel_rfl) (by kernel_rfl) ?_
  refine LG.val 12 (.slice A m cap) w6 (by kernel_rfl) (by kernel_rfl) (by kernel_rfl) ?_
  refine LG.val 13 (.int .i64 (m : Nat)) w6 (by kernel_rfl) (by kernel_rfl) (by kernel_rfl) ?_
  cases hb9 : (decide (((i : Nat) : Int) < ((m : Nat) : Int)))
  ·
    have phb9 := of_decide_eq_false hb9
    refine LG.val 14 (.bool false) w6 (by kernel_rfl) (by kernel_rfl) (rb (by kernel_rfl) hb9) ?_
    refine LG.next (by kernel_rfl) ?_
    refine CG.condF (by kernel_rfl) (by kernel_rfl) ?_
    refine CG.exit ?_
    show CG _ _ _ _ _ _ _ _
    refine CG.seq ?_
    refine CG.listed ?_
    refine LG.val 42 (.slice (some ⟨b1, 0, none⟩) ((m + 3) / 4) ((m + 3) / 4)) w6 (by kernel_rfl) (by kernel_rfl) (by kernel_rfl) ?_
    refine LG.call 43 48 #[.slice (some ⟨b1, 0, none⟩) ((m + 3) / 4) ((m + 3) / 4)] (by kernel_rfl) (by kernel_rfl) (by kernel_rfl) ?_
    obtain ⟨h13, hs, pw14, sg15, oth17⟩ := hs.pub 0 (Nat.le_of_ble_eq_true (by kernel_rfl))
    replace hA := hA.gw pw14
    replace hs := hs.to [] (by kernel_rfl)
    have hA16 : SlO 1 u32c 0 h13 (some ⟨b1, 0, none⟩) (l) := SlO.of_flat (fun _ => rfl) sg15
    have ct18 := rTrim (some ⟨b1, 0, none⟩) (l) ((m + 3) / 4) (by omega) (by unfold Len; omega) w6 h13 hs.g hA16
    rw [hl] at ct18
    refine (ct18).mono ?_
    rintro _ w10 ⟨vu12, h11, rfl, u12, rfl⟩
    refine ⟨_, rfl, ?_⟩
    replace hs := hs.step u12
    replace hA := hA.gw u12.gr.gw
    replace hA16 := hA16.gw u12.gr.gw
    refine LG.val 2 (.slice (some ⟨b1, 0, none⟩) (tl l ((m + 3) / 4)) ((m + 3) / 4)) w10 (by kernel_rfl) (by kernel_rfl) (by kernel_rfl) ?_
    refine LG.next (by kernel_rfl) ?_
    refine CG.to [(2, .slice (some ⟨b1, 0, none⟩) (tl l ((m + 3) / 4)) ((m + 3) / 4))] (by kernel_rfl) ?_
    refine CG.ret ?_
    have him : i = m := by omega
    rw [him] at hv
    obtain ⟨hf1, hf2⟩ := from_fin hn hl hv
    exact retP hs [] (.slice (some ⟨b1, 0, none⟩) (tl l ((m + 3) / 4)) ((m + 3) / 4)) (by kernel_rfl) (by kernel_rfl) (by have := RN.trim (cap := (m + 3) / 4) hf2 (by omega) hA16; rw [hl, hf1] at this; exact this)
  ·
    have phb9 := of_decide_eq_true hb9
    have hvk := hv ((m - 1 - i) / 4) (by omega)
    have hor : l.getD ((m - 1 - i) / 4) 0 ||| (n / 256 ^ (m - 1 - i) % 256) * 2 ^ (8 * ((m - 1 - i) % 4)) = lowL n (m - 1 - i) ((m - 1 - i) / 4) := by rw [hvk, show m - i = m - 1 - i + 1 by omega]; exact from_or
    have hlt : l.getD ((m - 1 - i) / 4) 0 < 4294967296 := by rw [hvk]; exact lowL_lt _ _ _
    refine LG.val 14 (.bool true) w6 (by kernel_rfl) (by kernel_rfl) (rb (by kernel_rfl) hb9) ?_
    refine LG.next (by kernel_rfl) ?_
    refine CG.condT (by kernel_rfl) (by kernel_rfl) ?_
    refine CG.skipN ?_
    refine CG.seq ?_
    refine CG.block ?_
    refine CG.seq ?_
    refine CG.listed ?_
    refine LG.val 17 (.slice A m cap) w6 (by kernel_rfl) (by kernel_rfl) (by kernel_rfl) ?_
    refine LG.val 18 (.int .i64 (m : Nat)) w6 (by kernel_rfl) (by kernel_rfl) (by kernel_rfl) ?_
    refine LG.val 19 (.int .i64 (m - 1 : Nat)) w6 (by kernel_rfl) (by kernel_rfl) (rint (ri64 (n := (m : Nat) - 1) (by kernel_rfl) (by omega) (by omega)) (by omega)) ?_
    refine LG.val 20 (.int .i64 (i : Nat)) w6 (by kernel_rfl) (by kernel_rfl) (by kernel_rfl) ?_
    refine LG.val 21 (.int .i64 ((m - 1) - i : Nat)) w6 (by kernel_rfl) (by kernel_rfl) (rint (ri64 (n := (m - 1 : Nat) - (i : Nat)) (by kernel_rfl) (by omega) (by omega)) (by omega)) ?_
    refine LG.val 5 (.int .i64 ((m - 1) - i : Nat)) w6 (by kernel_rfl) (by kernel_rfl) (by kernel_rfl) ?_
    refine LG.next (by kernel_rfl) ?_
    refine CG.to [(0, .slice A m cap), (2, .slice none 0 0), (3, .slice (some ⟨b1, 0, none⟩) ((m + 3) / 4) ((m + 3) / 4)), (4, .int .i64 (i : Nat)), (5, .int .i64 ((m - 1) - i : Nat))] (by kernel_rfl) ?_
    have hsr := hs
    refine CG.region ⟨[], none⟩ 19 [] mixed (by kernel_rfl) hs.g al_nil (fun _ hb => by cases hb) ?_
    refine Rg.pure 0 22 (.slice (some ⟨b1, 0, none⟩) ((m + 3) / 4) ((m + 3) / 4)) (by kernel_rfl) (by kernel_rfl) (fun _ => by kernel_rfl) ?_
    refine Rg.pure 1 23 (.int .i64 ((m - 1) - i : Nat)) (by kernel_rfl) (by kernel_rfl) (fun _ => by kernel_rfl) ?_
    refine Rg.pure 2 24 (.int .i64 (((m - 1) - i) / 4 : Nat)) (by kernel_rfl) (by kernel_rfl) (fun _ => rint (opQuo (t := 3) (u := 3) (x := .tmp 23) (y := .const (.int .i64 4)) (k := .i64) (a := (((m - 1) - i : Nat) : Int)) (b := (4 : Int)) (by kernel_rfl) (by kernel_rfl) (by kernel_rfl) (by omega) _) (quoI64 ((m - 1) - i) 4 (by omega))) ?_
    refine Rg.pure 3 25 (.slice (some ⟨b1, 0, none⟩) ((m + 3) / 4) ((m + 3) / 4)) (by kernel_rfl) (by kernel_rfl) (fun _ => by kernel_rfl) ?_
    refine Rg.pure 4 26 (.int .i64 ((m - 1) - i : Nat)) (by kernel_rfl) (by kernel_rfl) (fun _ => by kernel_rfl) ?_
    refine Rg.pure 5 27 (.int .i64 (((m - 1) - i) / 4 : Nat)) (by kernel_rfl) (by kernel_rfl) (fun _ => rint (opQuo (t := 3) (u := 3) (x := .tmp 26) (y := .const (.int .i64 4)) (k := .i64) (a := (((m - 1) - i : Nat) : Int)) (b := (4 : Int)) (by kernel_rfl) (by kernel_rfl) (by kernel_rfl) (by omega) _) (quoI64 ((m - 1) - i) 4 (by omega))) ?_
    refine Rg.pure 6 28 (.pointer (some ⟨b1, 0 + (((m - 1) - i) / 4 : Nat) * 1, none⟩)) (by kernel_rfl) (by kernel_rfl) (fun _ => ixAddr (t := 41) (e := 100) (x := .tmp 25) (ix := .tmp 27) (A := some ⟨b1, 0, none⟩) (len := ((m + 3) / 4)) (cap := ((m + 3) / 4)) (sz := 1) (i := (((m - 1) - i) / 4 : Nat)) (((m - 1) - i) / 4 : Nat) (by kernel_rfl) (by kernel_rfl) (by kernel_rfl) (by kernel_rfl) (by kernel_rfl) rfl (by omega) (by omega) _) ?_
    refine Rg.ownA 7 29 0 (l) u32c 1 0 (((m - 1) - i) / 4 : Nat) (.int .u32 ((l).getD (((m - 1) - i) / 4 : Nat) 0 : Nat)) hs (by kernel_rfl) (by kernel_rfl) List.not_mem_nil (by kernel_rfl) rfl (fun _ => rfl) (by omega) (by kernel_rfl) ?_
    refine Rg.pure 8 30 (.slice A m cap) (by kernel_rfl) (by kernel_rfl) (fun _ => by kernel_rfl) ?_
    refine Rg.pure 9 31 (.int .i64 (i : Nat)) (by kernel_rfl) (by kernel_rfl) (fun _ => by kernel_rfl) ?_
    refine Rg.pure 10 32 (.pointer (some ⟨(aB A), aO A + i * 1, none⟩)) (by kernel_rfl) (by kernel_rfl) (fun _ => ixAddr (t := 107) (e := 5) (x := .tmp 30) (ix := .tmp 31) (A := A) (len := m) (cap := cap) (sz := 1) (i := (i : Nat)) i (by kernel_rfl) (by kernel_rfl) (by kernel_rfl) (by kernel_rfl) (by kernel_rfl) (hA.ok (by omega)) (by omega) (by omega) _) ?_
    refine Rg.load 11 33 (.int .u8 (n / 256 ^ (m - 1 - i) % 256 : Nat)) (by kernel_rfl) (by kernel_rfl) (fun _ hx => rint (n := ((byt n m).getD i 0 : Nat)) (Seg.run (hA.el i (by omega)) hs.g hx.ext (by kernel_rfl)) (by rw [byt_get n m _ (by omega)])) ?_
    refine Rg.pure 12 34 (.int .u32 (n / 256 ^ (m - 1 - i) % 256 : Nat)) (by kernel_rfl) (by kernel_rfl) (fun _ => rint (n := IntKind.wrap .u32 ((n / 256 ^ (m - 1 - i) % 256 : Nat) : Int)) (by kernel_rfl) (fitU32 (by omega) (by omega))) ?_
    refine Rg.pure 13 35 (.int .i64 ((m - 1) - i : Nat)) (by kernel_rfl) (by kernel_rfl) (fun _ => by kernel_rfl) ?_
    refine Rg.pure 14 36 (.int .i64 (((m - 1) - i) % 4 : Nat)) (by kernel_rfl) (by kernel_rfl) (fun _ => rint (opRem (t := 3) (u := 3) (x := .tmp 35) (y := .const (.int .i64 4)) (k := .i64) (a := (((m - 1) - i : Nat) : Int)) (b := (4 : Int)) (by kernel_rfl) (by kernel_rfl) (by kernel_rfl) (by omega) _) (tmodNat ((m - 1) - i) 4)) ?_
    refine Rg.pure 15 37 (.int .i64 (8 * (((m - 1) - i) % 4 : Nat) : Nat)) (by kernel_rfl) (by kernel_rfl) (fun _ => rint (ri64 (n := 8 * (((m - 1) - i) % 4 : Nat)) (by kernel_rfl) (by omega) (by omega)) (by omega)) ?_
    refine Rg.pure 16 38 (.int .u64 (8 * (((m - 1) - i) % 4 : Nat) : Nat)) (by kernel_rfl) (by kernel_rfl) (fun _ => rint (n := IntKind.wrap .u64 ((8 * (((m - 1) - i) % 4 : Nat) : Nat) : Int)) (by kernel_rfl) (fitU64 (by omega) (by omega))) ?_
    refine Rg.pure 17 39 (.int .u32 ((n / 256 ^ (m - 1 - i) % 256) * 2 ^ (8 * ((m - 1 - i) % 4)) : Nat)) (by kernel_rfl) (by kernel_rfl) (fun _ => opShlU32 (t := 100) (u := 101) (x := .tmp 34) (y := .tmp 38) (ky := .u64) (a := n / 256 ^ (m - 1 - i) % 256) (n := 8 * ((m - 1 - i) % 4)) (by kernel_rfl) (by kernel_rfl) (by kernel_rfl) (by omega) (shl_fit32 (by omega)) _) ?_
    refine Rg.pure 18 40 (.int .u32 (lowL n (m - 1 - i) ((m - 1 - i) / 4) : Nat)) (by kernel_rfl) (by kernel_rfl) (fun _ => rint (opOr32 (t := 100) (u := 100) (x := .tmp 29) (y := .tmp 39) (a := l.getD ((m - 1 - i) / 4) 0) (b := (n / 256 ^ (m - 1 - i) % 256) * 2 ^ (8 * ((m - 1 - i) % 4))) (by kernel_rfl) (by kernel_rfl) (by kernel_rfl) hlt (shl_fit32 (by omega)) _) (congrArg Int.ofNat hor)) ?_
    refine Rg.fin0 (by kernel_rfl) (fun w19 h20 u21 => ?_)
    replace hs := hs.step u21
    replace hA := hA.gw u21.gr.gw
    refine T.val 19 41 (.pointer (some ⟨b1, 0 + (((m - 1) - i) / 4 : Nat) * 1, none⟩)) w19 (by kernel_rfl) (by kernel_rfl) (ixAddr (t := 41) (e := 100) (x := .tmp 22) (ix := .tmp 24) (A := some ⟨b1, 0, none⟩) (len := ((m + 3) / 4)) (cap := ((m + 3) / 4)) (sz := 1) (i := (((m - 1) - i) / 4 : Nat)) (((m - 1) - i) / 4 : Nat) (by kernel_rfl) (by kernel_rfl) (by kernel_rfl) (by kernel_rfl) (by kernel_rfl) rfl (by omega) (by omega) _) ?_
    refine T.putA 20 0 (l) u32c 1 (((m - 1) - i) / 4 : Nat) (lowL n (m - 1 - i) ((m - 1 - i) / 4) : Nat) hs g (by kernel_rfl) (by kernel_rfl) (by kernel_rfl) rfl (fun _ => rfl) (by omega) (by kernel_rfl) (fun w22 pu hs => ?_)
    have hl23 : ((l).set (((m - 1) - i) / 4 : Nat) (lowL n (m - 1 - i) ((m - 1 - i) / 4) : Nat)).length = ((m + 3) / 4) := by rw [List.length_set]; exact hl
    refine T.next (by kernel_rfl) ?_
    refine CG.to [(0, .slice A m cap), (2, .slice none 0 0), (3, .slice (some ⟨b1, 0, none⟩) ((m + 3) / 4) ((m + 3) / 4)), (4, .int .i64 (i : Nat))] (by kernel_rfl) ?_
    refine CG.listed ?_
    refine LG.val 15 (.int .i64 (i : Nat)) w22 (by kernel_rfl) (by kernel_rfl) (by kernel_rfl) ?_
    refine LG.val 16 (.int .i64 (i + 1 : Nat)) w22 (by kernel_rfl) (by kernel_rfl) (rint (ri64 (n := (i : Nat) + 1) (by kernel_rfl) (by omega) (by omega)) (by omega)) ?_
    refine LG.val 4 (.int .i64 (i + 1 : Nat)) w22 (by kernel_rfl) (by kernel_rfl) (by kernel_rfl) ?_
    refine LG.done (by kernel_rfl) ?_
    intro a_ ka
    refine ⟨_, _, ?_, ⟨i + 1, l.set ((m - 1 - i) / 4) (lowL n (m - 1 - i) ((m - 1 - i) / 4)), h20, rfl, rfl, hs.to _ (by kernel_rfl), hA, by omega, by rw [List.length_set]; exact hl, (lowL_next (by omega) hl hv rfl)⟩, ka.to [(0, .slice A m cap), (2, .slice none 0 0), (3, .slice (some ⟨b1, 0, none⟩) ((m + 3) / 4) ((m + 3) / 4)), (4, .int .i64 ((i + 1) : Nat))] (by kernel_rfl)⟩
    omega

set_option maxRecDepth 100000 in
set_option maxHeartbeats 600000 in
theorem hOutNat (n : Nat) (hn : n < 18446744073709551616) (w : World) (h : Hp) (g : G w h) :
    Calls Tryz.prog 98 #[nv n] w (Ret w h fun v h => RN h v n) := by
  have hs := St.start g
  refine enter (n := 6) Tryz.func98 rfl rfl (Nat.le_of_ble_eq_true (by kernel_rfl)) [(0, nv n)] rfl ?_
  refine CG.seq ?_
  refine CG.listed ?_
  refine LG.var 1 56 (nc n) hs (by kernel_rfl) (by kernel_rfl) (by kernel_rfl) (fun b1 w2 h3 nb_ u4 hs => ?_)
  refine LG.val 2 (.slice none 0 0) w2 (by kernel_rfl) (by kernel_rfl) (by kernel_rfl) ?_
  refine LG.next (by kernel_rfl) ?_
  refine CG.seq ?_
  refine CG.listed ?_
  refine LG.own 3 [(0, 0, 2)] (nv n) hs (by kernel_rfl) (by kernel_rfl) (by kernel_rfl) (by kernel_rfl) ?_
  refine LG.call 4 119 #[nv n] (by kernel_rfl) (by kernel_rfl) (by kernel_rfl) ?_
  refine (nBytes n (by omega) w2 h3 hs.g).mono ?_
  rintro _ w7 ⟨vu9, h8, rfl, u9, ⟨A5, rfl, hA6⟩⟩
  refine ⟨_, rfl, ?_⟩
  replace hs := hs.step u9
  have hnb := nb_le (n := n) (k := 64) (by omega)
  refine LG.call 5 118 #[.slice A5 ((nb n + 7) / 8) ((nb n + 7) / 8)] (by kernel_rfl) (by kernel_rfl) (by kernel_rfl) ?_
  refine (rNatFrom n ((nb n + 7) / 8) A5 ((nb n + 7) / 8) (Nat.le_refl _) (by omega) (lt256 n) w7 h8 hs.g hA6).mono ?_
  rintro _ w14 ⟨vu16, h15, rfl, u16, ⟨A10, c11, rfl, hc12, hA13⟩⟩
  refine ⟨_, rfl, ?_⟩
  replace hs := hs.step u16
  replace hA6 := hA6.gw u16.gr.gw
  refine LG.val 2 (.slice A10 ((lim n).length) c11) w14 (by kernel_rfl) (by kernel_rfl) (by kernel_rfl) ?_
  refine LG.next (by kernel_rfl) ?_
  refine CG.ret ?_
  exact retP hs [] (.slice A10 ((lim n).length) c11) (by kernel_rfl) (by kernel_rfl) ⟨_, _, rfl, hc12, hA13⟩


theorem sgn_sign (z : Int) : sgn (decide (z.sign < 0)) (iabs z) = z := by
  unfold sgn iabs
  rcases Int.lt_trichotomy z 0 with h | h | h
  · rw [Int.sign_eq_neg_one_of_neg h]; simp; omega
  · subst h; rfl
  · rw [Int.sign_eq_one_of_pos h]; simp; omega

set_option maxRecDepth 100000 in
set_option maxHeartbeats 600000 in
theorem hOutInt0 (z : Int) (hz : iabs z < 18446744073709551616) (w : World) (h : Hp) (g : G w h) :
    Calls Tryz.prog 96 #[iv z] w (Ret w h fun v h => RI h v (sgn (decide (z.sign < 0)) (iabs z))) := by
  have hs := St.start g
  refine enter (n := 10) Tryz.func96 rfl rfl (Nat.le_of_ble_eq_true (by kernel_rfl)) [(0, iv z)] rfl ?_
  refine CG.seq ?_
  refine CG.listed ?_
  refine LG.var 1 58 (ic z) hs (by kernel_rfl) (by kernel_rfl) (by kernel_rfl) (fun b1 w2 h3 nb_ u4 hs => ?_)
  refine LG.var 2 43 ([.bool false, .slice none 0 0]) hs (by kernel_rfl) (by kernel_rfl) (by kernel_rfl) (fun b5 w6 h7 nb_ u8 hs => ?_)
  refine LG.next (by kernel_rfl) ?_
  refine CG.seq ?_
  have hsr := hs
  refine CG.region ⟨[], none⟩ 7 [] mixed (by kernel_rfl) hs.g al_nil (fun _ hb => by cases hb) ?_
  refine Rg.own 0 3 [(1, 0, 3)] (iv z) hs (by kernel_rfl) (by kernel_rfl) (fun _ _ => List.not_mem_nil) (by kernel_rfl) (by kernel_rfl) ?_
  refine Rg.own 3 6 [(1, 0, 3)] (iv z) hs (by kernel_rfl) (by kernel_rfl) (fun _ _ => List.not_mem_nil) (by kernel_rfl) (by kernel_rfl) ?_
  refine Rg.call 1 4 50 #[iv z] (by kernel_rfl) (by kernel_rfl) (fun _ => by kernel_rfl) (fun w12 h13 u14 => ?_)
  replace hs := hs.step u14
  refine (Ret.of_ext hs.g (cWSign z (by omega) w12)).mono ?_
  rintro _ w9 ⟨vu11, h10, rfl, u11, rfl⟩
  refine ⟨_, h10, rfl, u11.m _, ?_⟩
  replace hs := hs.step u11
  refine Rg.pure 2 5 (.bool (decide ((z.sign : Int) < (0 : Int)))) (by kernel_rfl) (by kernel_rfl) (fun _ => by kernel_rfl) ?_
  refine Rg.call 4 7 53 #[iv z] (by kernel_rfl) (by kernel_rfl) (fun _ => by kernel_rfl) (fun w18 h19 u20 => ?_)
  replace hs := hs.step u20
  refine (Ret.of_ext hs.g (cWAbs z (by omega) w18)).mono ?_
  rintro _ w15 ⟨vu17, h16, rfl, u17, rfl⟩
  refine ⟨_, h16, rfl, u17.m _, ?_⟩
  replace hs := hs.step u17
  refine Rg.call 5 8 98 #[nv (iabs z)] (by kernel_rfl) (by kernel_rfl) (fun _ => by kernel_rfl) (fun w28 h29 u30 => ?_)
  replace hs := hs.step u30
  refine (hOutNat (iabs z) (by first | assumption | omega) w28 h29 hs.g).mono ?_
  rintro _ w25 ⟨vu27, h26, rfl, u27, ⟨A21, c22, rfl, hc23, hA24⟩⟩
  refine ⟨_, h26, rfl, u27.m _, ?_⟩
  replace hs := hs.step u27
  refine Rg.call 6 9 47 #[.bool (decide ((z.sign : Int) < (0 : Int))), .slice A21 ((lim (iabs z)).length) c22] (by kernel_rfl) (by kernel_rfl) (fun _ => by kernel_rfl) (fun w38 h39 u40 => ?_)
  replace hs := hs.step u40
  replace hA24 := hA24.gw u40.gr.gw
  refine (rI (decide ((z.sign : Int) < (0 : Int))) (iabs z) A21 c22 hc23 w38 h39 hs.g hA24).mono ?_
  rintro _ w35 ⟨vu37, h36, rfl, u37, ⟨A31, c32, rfl, hc33, hA34⟩⟩
  refine ⟨_, h36, rfl, u37.m _, ?_⟩
  replace hs := hs.step u37
  replace hA24 := hA24.gw u37.gr.gw
  refine Rg.fin0 (by kernel_rfl) (fun w41 h42 u43 => ?_)
  replace hs := hs.step u43
  replace hA24 := hA24.gw u43.gr.gw
  replace hA34 := hA34.gw u43.gr.gw
  refine T.put 7 0 0 ([.bool (ineg (sgn (decide ((z.sign : Int) < (0 : Int))) (iabs z))), .slice A31 ((lim (iabs (sgn (decide ((z.sign : Int) < (0 : Int))) (iabs z)))).length) c32]) hs g (by kernel_rfl) (by kernel_rfl) (by kernel_rfl) (by kernel_rfl) (fun w44 pu hs => ?_)
  refine T.next (by kernel_rfl) ?_
  refine CG.to [(2, .pointer (some ⟨b5, 0, none⟩))] (by kernel_rfl) ?_
  refine CG.ret ?_
  exact retP hs [(0, 0, 2)] (.agg #[.bool (ineg (sgn (decide ((z.sign : Int) < (0 : Int))) (iabs z))), .slice A31 ((lim (iabs (sgn (decide ((z.sign : Int) < (0 : Int))) (iabs z)))).length) c32]) (by kernel_rfl) (by kernel_rfl) ⟨_, _, rfl, hc33, hA34⟩


theorem hOutInt (z : Int) (hz : iabs z < 18446744073709551616) (w : World) (h : Hp) (g : G w h) : Calls Tryz.prog 96 #[iv z] w (Ret w h fun v h => RI h v z) := by
  have := hOutInt0 z hz w h g
  rw [sgn_sign] at this
  exact this

set_option maxRecDepth 100000 in
set_option maxHeartbeats 600000 in
theorem hOut (q : Rat) (hq : iabs q.num < 18446744073709551616) (hd : q.den < 18446744073709551616) (w : World) (h : Hp) (g : G w h) :
    Calls Tryz.prog 74 #[qv q] w (Ret w h fun v h => RQ h v q) := by
  have hs := St.start g
  refine enter (n := 10) Tryz.func74 rfl rfl (Nat.le_of_ble_eq_true (by kernel_rfl)) [(0, qv q)] rfl ?_
  refine CG.seq ?_
  refine CG.listed ?_
  refine LG.var 1 60 (qc q) hs (by kernel_rfl) (by kernel_rfl) (by kernel_rfl) (fun b1 w2 h3 nb_ u4 hs => ?_)
  refine LG.var 2 45 ([.bool false, .slice none 0 0, .slice none 0 0]) hs (by kernel_rfl) (by kernel_rfl) (by kernel_rfl) (fun b5 w6 h7 nb_ u8 hs => ?_)
  refine LG.next (by kernel_rfl) ?_
  refine CG.seq ?_
  have hsr := hs
  refine CG.region ⟨[], none⟩ 7 [] mixed (by kernel_rfl) hs.g al_nil (fun _ hb => by cases hb) ?_
  refine Rg.own 0 3 [(1, 0, 5)] (qv q) hs (by kernel_rfl) (by kernel_rfl) (fun _ _ => List.not_mem_nil) (by kernel_rfl) (by kernel_rfl) ?_
  refine Rg.own 3 6 [(1, 0, 5)] (qv q) hs (by kernel_rfl) (by kernel_rfl) (fun _ _ => List.not_mem_nil) (by kernel_rfl) (by kernel_rfl) ?_
  refine Rg.call 1 4 97 #[qv q] (by kernel_rfl) (by kernel_rfl) (fun _ => by kernel_rfl) (fun w12 h13 u14 => ?_)
  replace hs := hs.step u14
  refine (Ret.of_ext hs.g (cNum q hq hd w12)).mono ?_
  rintro _ w9 ⟨vu11, h10, rfl, u11, rfl⟩
  refine ⟨_, h10, rfl, u11.m _, ?_⟩
  replace hs := hs.step u11
  refine Rg.call 2 5 96 #[iv q.num] (by kernel_rfl) (by kernel_rfl) (fun _ => by kernel_rfl) (fun w22 h23 u24 => ?_)
  replace hs := hs.step u24
  refine (hOutInt q.num (by first | assumption | omega) w22 h23 hs.g).mono ?_
  rintro _ w19 ⟨vu21, h20, rfl, u21, ⟨A15, c16, rfl, hc17, hA18⟩⟩
  refine ⟨_, h20, rfl, u21.m _, ?_⟩
  replace hs := hs.step u21
  refine Rg.call 4 7 62 #[qv q] (by kernel_rfl) (by kernel_rfl) (fun _ => by kernel_rfl) (fun w28 h29 u30 => ?_)
  replace hs := hs.step u30
  replace hA18 := hA18.gw u30.gr.gw
  refine (Ret.of_ext hs.g (cDen64 q hq hd w28)).mono ?_
  rintro _ w25 ⟨vu27, h26, rfl, u27, rfl⟩
  refine ⟨_, h26, rfl, u27.m _, ?_⟩
  replace hs := hs.step u27
  replace hA18 := hA18.gw u27.gr.gw
  refine Rg.call 5 8 98 #[nv q.den] (by kernel_rfl) (by kernel_rfl) (fun _ => by kernel_rfl) (fun w38 h39 u40 => ?_)
  replace hs := hs.step u40
  replace hA18 := hA18.gw u40.gr.gw
  refine (hOutNat q.den (by first | assumption | omega) w38 h39 hs.g).mono ?_
  rintro _ w35 ⟨vu37, h36, rfl, u37, ⟨A31, c32, rfl, hc33, hA34⟩⟩
  refine ⟨_, h36, rfl, u37.m _, ?_⟩
  replace hs := hs.step u37
  replace hA18 := hA18.gw u37.gr.gw
  refine Rg.pure 6 9 (.agg #[.bool (ineg q.num), .slice A15 ((lim (iabs q.num)).length) c16, .slice A31 ((lim q.den).length) c32]) (by kernel_rfl) (by kernel_rfl) (fun _ => by kernel_rfl) ?_
  refine Rg.fin0 (by kernel_rfl) (fun w41 h42 u43 => ?_)
  replace hs := hs.step u43
  replace hA18 := hA18.gw u43.gr.gw
  replace hA34 := hA34.gw u43.gr.gw
  refine T.put 7 0 0 ([.bool (ineg q.num), .slice A15 ((lim (iabs q.num)).length) c16, .slice A31 ((lim q.den).length) c32]) hs g (by kernel_rfl) (by kernel_rfl) (by kernel_rfl) (by kernel_rfl) (fun w44 pu hs => ?_)
  refine T.next (by kernel_rfl) ?_
  refine CG.to [(2, .pointer (some ⟨b5, 0, none⟩))] (by kernel_rfl) ?_
  refine CG.ret ?_
  exact retP hs [(0, 0, 3)] (.agg #[.bool (ineg q.num), .slice A15 ((lim (iabs q.num)).length) c16, .slice A31 ((lim q.den).length) c32]) (by kernel_rfl) (by kernel_rfl) ⟨_, _, _, _, rfl, hc17, hc33, hA18, hA34⟩


/-- Are two fractions the same? -/
def sameQ (a b : Rat) : Bool := decide (a = b)
theorem sameQ_t {a b : Rat} (h1 : cmpN (iabs a.num) (iabs b.num) = 0) (h2 : ineg a.num = ineg b.num) (h3 : cmpN a.den b.den = 0) : true = sameQ a b := by
  have e1 : iabs a.num = iabs b.num := by unfold cmpN at h1; split at h1; omega; split at h1; omega; omega
  have e3 : a.den = b.den := by unfold cmpN at h3; split at h3; omega; split at h3; omega; omega
  have e2 : a.num = b.num := by rw [← sgn_self a.num, ← sgn_self b.num, e1, h2]
  symm
  exact decide_eq_true (Rat.ext e2 e3)
theorem cmpN_self (a : Nat) : cmpN a a = 0 := by simp [cmpN]
theorem sameQ_f {a b : Rat} (h : cmpN (iabs a.num) (iabs b.num) ≠ 0 ∨ ineg a.num ≠ ineg b.num ∨ cmpN a.den b.den ≠ 0) : false = sameQ a b := by
  symm
  refine decide_eq_false ?_
  rintro rfl
  rcases h with h | h | h
  · exact h (cmpN_self _)
  · exact h rfl
  · exact h (cmpN_self _)

set_option maxRecDepth 100000 in
set_option maxHeartbeats 600000 in
theorem hSame (q r : Rat) (hq : iabs q.num < 18446744073709551616) (hd : q.den < 18446744073709551616) (hr : iabs r.num < 18446744073709551616) (hrd : r.den < 18446744073709551616) (A : Option Addr) (c : Nat) (hc : (lim (iabs r.num)).length ≤ c) (D : Option Addr) (d : Nat) (hcd : (lim r.den).length ≤ d) (w : World) (h : Hp) (g : G w h) (hA : SlO 1 u32c 0 h A (lim (iabs r.num))) (hD : SlO 1 u32c 0 h D (lim r.den)) :
    Calls Tryz.prog 43 #[qv q, .agg #[.bool (ineg r.num), .slice A ((lim (iabs r.num)).length) c, .slice D ((lim r.den).length) d]] w (Ret w h fun v _ => v = .bool (sameQ q r)) := by
  have hs := St.start g
  have hpd : 0 < (lim r.den).length := lim_pos.2 r.den_pos
  refine enter (n := 38) Tryz.func43 rfl rfl (Nat.le_of_ble_eq_true (by kernel_rfl)) [(0, qv q), (1, .agg #[.bool (ineg r.num), .slice A ((lim (iabs r.num)).length) c, .slice D ((lim r.den).length) d])] rfl ?_
  refine CG.seq ?_
  refine CG.listed ?_
  refine LG.var 2 60 (qc q) hs (by kernel_rfl) (by kernel_rfl) (by kernel_rfl) (fun b1 w2 h3 nb_ u4 hs => ?_)
  replace hA := hA.gw u4.gr.gw
  replace hD := hD.gw u4.gr.gw
  refine LG.var 3 45 ([.bool (ineg r.num), .slice A ((lim (iabs r.num)).length) c, .slice D ((lim r.den).length) d]) hs (by kernel_rfl) (by kernel_rfl) (by kernel_rfl) (fun b5 w6 h7 nb_ u8 hs => ?_)
  replace hA := hA.gw u8.gr.gw
  replace hD := hD.gw u8.gr.gw
  refine LG.val 4 (.bool false) w6 (by kernel_rfl) (by kernel_rfl) (by kernel_rfl) ?_
  refine LG.next (by kernel_rfl) ?_
  refine CG.seq ?_
  refine CG.listed ?_
  refine LG.own 6 [(1, 0, 5)] (qv q) hs (by kernel_rfl) (by kernel_rfl) (by kernel_rfl) (by kernel_rfl) ?_
  refine LG.call 7 74 #[qv q] (by kernel_rfl) (by kernel_rfl) (by kernel_rfl) ?_
  refine (hOut q hq hd w6 h7 hs.g).mono ?_
  rintro _ w17 ⟨vu19, h18, rfl, u19, ⟨A9, c10, A13, c14, rfl, hc11, hc15, hA12, hA16⟩⟩
  refine ⟨_, rfl, ?_⟩
  replace hs := hs.step u19
  replace hA := hA.gw u19.gr.gw
  replace hD := hD.gw u19.gr.gw
  refine LG.var 5 45 ([.bool false, .slice none 0 0, .slice none 0 0]) hs (by kernel_rfl) (by kernel_rfl) (by kernel_rfl) (fun b20 w21 h22 nb_ u23 hs => ?_)
  replace hA := hA.gw u23.gr.gw
  replace hD := hD.gw u23.gr.gw
  replace hA12 := hA12.gw u23.gr.gw
  replace hA16 := hA16.gw u23.gr.gw
  refine LG.put 0 0 ([.bool (ineg q.num), .slice A9 ((lim (iabs q.num)).length) c10, .slice A13 ((lim q.den).length) c14]) hs g (by kernel_rfl) (by kernel_rfl) (by kernel_rfl) (by kernel_rfl) (fun w24 pu hs => ?_)
  refine LG.next (by kernel_rfl) ?_
  refine CG.seq ?_
  refine CG.seq ?_
  refine CG.listed ?_
  refine LG.val 8 (.pointer (some ⟨b5, 2, none⟩)) w24 (by kernel_rfl) (by kernel_rfl) (by kernel_rfl) ?_
  refine LG.own 9 [(1, 2, 1)] (.slice D ((lim r.den).length) d) hs (by kernel_rfl) (by kernel_rfl) (by kernel_rfl) (by kernel_rfl) ?_
  refine LG.val 10 (.int .i64 ((lim r.den).length : Nat)) w24 (by kernel_rfl) (by kernel_rfl) (by kernel_rfl) ?_
  have hb25 : ((((lim r.den).length : Nat) : Int) == (0 : Int)) = false := (by simp; exact fun h => Nat.lt_irrefl 0 (by rw [h] at hpd; exact hpd))
  have phb25 := neOfBeq hb25
  refine LG.val 11 (.bool false) w24 (by kernel_rfl) (by kernel_rfl) (rb (by kernel_rfl) hb25) ?_
  refine LG.next (by kernel_rfl) ?_
  refine CG.to [(3, .pointer (some ⟨b5, 0, none⟩)), (4, .bool false), (5, .pointer (some ⟨b20, 0, none⟩)), (11, .bool false)] (by kernel_rfl) ?_
  refine CG.condF (by kernel_rfl) (by kernel_rfl) ?_
  refine CG.skipN ?_
  refine CG.seq ?_
  refine CG.listed ?_
  refine LG.val 13 (.pointer (some ⟨b20, 0, none⟩)) w24 (by kernel_rfl) (by kernel_rfl) (by kernel_rfl) ?_
  refine LG.val 14 (.pointer (some ⟨b20, 1, none⟩)) w24 (by kernel_rfl) (by kernel_rfl) (by kernel_rfl) ?_
  refine LG.own 15 [(0, 1, 1)] (.slice A9 ((lim (iabs q.num)).length) c10) hs (by kernel_rfl) (by kernel_rfl) (by kernel_rfl) (by kernel_rfl) ?_
  refine LG.val 16 (.pointer (some ⟨b5, 0, none⟩)) w24 (by kernel_rfl) (by kernel_rfl) (by kernel_rfl) ?_
  refine LG.val 17 (.pointer (some ⟨b5, 1, none⟩)) w24 (by kernel_rfl) (by kernel_rfl) (by kernel_rfl) ?_
  refine LG.own 18 [(1, 1, 1)] (.slice A ((lim (iabs r.num)).length) c) hs (by kernel_rfl) (by kernel_rfl) (by kernel_rfl) (by kernel_rfl) ?_
  refine LG.call 19 75 #[.slice A9 ((lim (iabs q.num)).length) c10, .slice A ((lim (iabs r.num)).length) c] (by kernel_rfl) (by kernel_rfl) (by kernel_rfl) ?_
  refine (rNatCmp (iabs q.num) A9 c10 hc11 (iabs r.num) A c hc (len_small (by omega)) (len_small (by omega)) w24 h22 hs.g hA12 hA).mono ?_
  rintro _ w26 ⟨vu28, h27, rfl, u28, rfl⟩
  refine ⟨_, rfl, ?_⟩
  replace hs := hs.step u28
  replace hA := hA.gw u28.gr.gw
  replace hD := hD.gw u28.gr.gw
  replace hA12 := hA12.gw u28.gr.gw
  replace hA16 := hA16.gw u28.gr.gw
  cases hb29 : ((cmpN (iabs q.num) (iabs r.num) : Int) == (0 : Int))
  ·
    have phb29 := neOfBeq hb29
    refine LG.val 20 (.bool false) w26 (by kernel_rfl) (by kernel_rfl) (rb (by kernel_rfl) hb29) ?_
    refine LG.val 21 (.bool false) w26 (by kernel_rfl) (by kernel_rfl) (by kernel_rfl) ?_
    refine LG.out 22 (by kernel_rfl) (by kernel_rfl) ?_
    refine LG.out 23 (by kernel_rfl) (by kernel_rfl) ?_
    refine LG.out 24 (by kernel_rfl) (by kernel_rfl) ?_
    refine LG.out 25 (by kernel_rfl) (by kernel_rfl) ?_
    refine LG.out 26 (by kernel_rfl) (by kernel_rfl) ?_
    refine LG.out 27 (by kernel_rfl) (by kernel_rfl) ?_
    refine LG.out 28 (by kernel_rfl) (by kernel_rfl) ?_
    refine LG.val 29 (.bool false) w26 (by kernel_rfl) (by kernel_rfl) (by kernel_rfl) ?_
    refine LG.val 30 (.bool false) w26 (by kernel_rfl) (by kernel_rfl) (by kernel_rfl) ?_
    refine LG.out 31 (by kernel_rfl) (by kernel_rfl) ?_
    refine LG.out 32 (by kernel_rfl) (by kernel_rfl) ?_
    refine LG.out 33 (by kernel_rfl) (by kernel_rfl) ?_
    refine LG.out 34 (by kernel_rfl) (by kernel_rfl) ?_
    refine LG.out 35 (by kernel_rfl) (by kernel_rfl) ?_
    refine LG.out 36 (by kernel_rfl) (by kernel_rfl) ?_
    refine LG.val 37 (.bool false) w26 (by kernel_rfl) (by kernel_rfl) (by kernel_rfl) ?_
    refine LG.val 4 (.bool false) w26 (by kernel_rfl) (by kernel_rfl) (by kernel_rfl) ?_
    refine LG.next (by kernel_rfl) ?_
    refine CG.to [(4, .bool false)] (by kernel_rfl) ?_
    refine CG.ret ?_
    exact retP hs [] (.bool false) (by kernel_rfl) (by kernel_rfl) (congrArg Value.bool (sameQ_f (by first | (left; assumption) | (right; right; assumption) | (right; left; exact beq_eq_false_iff_ne.1 ‹_›))))
  ·
    have phb29 := eq_of_beq hb29
    refine LG.val 20 (.bool true) w26 (by kernel_rfl) (by kernel_rfl) (rb (by kernel_rfl) hb29) ?_
    refine LG.val 21 (.bool true) w26 (by kernel_rfl) (by kernel_rfl) (by kernel_rfl) ?_
    refine LG.val 22 (.pointer (some ⟨b20, 0, none⟩)) w26 (by kernel_rfl) (by kernel_rfl) (by kernel_rfl) ?_
    refine LG.val 23 (.pointer (some ⟨b20, 0, none⟩)) w26 (by kernel_rfl) (by kernel_rfl) (by kernel_rfl) ?_
    refine LG.own 24 [(0, 0, 1)] (.bool (ineg q.num)) hs (by kernel_rfl) (by kernel_rfl) (by kernel_rfl) (by kernel_rfl) ?_
    refine LG.val 25 (.pointer (some ⟨b5, 0, none⟩)) w26 (by kernel_rfl) (by kernel_rfl) (by kernel_rfl) ?_
    refine LG.val 26 (.pointer (some ⟨b5, 0, none⟩)) w26 (by kernel_rfl) (by kernel_rfl) (by kernel_rfl) ?_
    refine LG.own 27 [(1, 0, 1)] (.bool (ineg r.num)) hs (by kernel_rfl) (by kernel_rfl) (by kernel_rfl) (by kernel_rfl) ?_
    cases hb30 : ((ineg q.num) == (ineg r.num))
    ·
      refine LG.val 28 (.bool false) w26 (by kernel_rfl) (by kernel_rfl) (rb (by kernel_rfl) hb30) ?_
      refine LG.val 29 (.bool false) w26 (by kernel_rfl) (by kernel_rfl) (by kernel_rfl) ?_
      refine LG.val 30 (.bool false) w26 (by kernel_rfl) (by kernel_rfl) (by kernel_rfl) ?_
      refine LG.out 31 (by kernel_rfl) (by kernel_rfl) ?_
      refine LG.out 32 (by kernel_rfl) (by kernel_rfl) ?_
      refine LG.out 33 (by kernel_rfl) (by kernel_rfl) ?_
      refine LG.out 34 (by kernel_rfl) (by kernel_rfl) ?_
      refine LG.out 35 (by kernel_rfl) (by kernel_rfl) ?_
      refine LG.out 36 (by kernel_rfl) (by kernel_rfl) ?_
      refine LG.val 37 (.bool false) w26 (by kernel_rfl) (by kernel_rfl) (by kernel_rfl) ?_
      refine LG.val 4 (.bool false) w26 (by kernel_rfl) (by kernel_rfl) (by kernel_rfl) ?_
      refine LG.next (by kernel_rfl) ?_
      refine CG.to [(4, .bool false)] (by kernel_rfl) ?_
      refine CG.ret ?_
      exact retP hs [] (.bool false) (by kernel_rfl) (by kernel_rfl) (congrArg Value.bool (sameQ_f (by first | (left; assumption) | (right; right; assumption) | (right; left; exact beq_eq_false_iff_ne.1 ‹_›))))
    ·
      refine LG.val 28 (.bool true) w26 (by kernel_rfl) (by kernel_rfl) (rb (by kernel_rfl) hb30) ?_
      refine LG.val 29 (.bool true) w26 (by kernel_rfl) (by kernel_rfl) (by kernel_rfl) ?_
      refine LG.val 30 (.bool true) w26 (by kernel_rfl) (by kernel_rfl) (by kernel_rfl) ?_
      refine LG.val 31 (.pointer (some ⟨b20, 2, none⟩)) w26 (by kernel_rfl) (by kernel_rfl) (by kernel_rfl) ?_
      refine LG.own 32 [(0, 2, 1)] (.slice A13 ((lim q.den).length) c14) hs (by kernel_rfl) (by kernel_rfl) (by kernel_rfl) (by kernel_rfl) ?_
      refine LG.val 33 (.pointer (some ⟨b5, 2, none⟩)) w26 (by kernel_rfl) (by kernel_rfl) (by kernel_rfl) ?_
      refine LG.own 34 [(1, 2, 1)] (.slice D ((lim r.den).length) d) hs (by kernel_rfl) (by kernel_rfl) (by kernel_rfl) (by kernel_rfl) ?_
      refine LG.call 35 75 #[.slice A13 ((lim q.den).length) c14, .slice D ((lim r.den).length) d] (by kernel_rfl) (by kernel_rfl) (by kernel_rfl) ?_
      refine (rNatCmp q.den A13 c14 hc15 r.den D d hcd (len_small (by omega)) (len_small (by omega)) w26 h27 hs.g hA16 hD).mono ?_
      rintro _ w31 ⟨vu33, h32, rfl, u33, rfl⟩
      refine ⟨_, rfl, ?_⟩
      replace hs := hs.step u33
      replace hA := hA.gw u33.gr.gw
      replace hD := hD.gw u33.gr.gw
      replace hA12 := hA12.gw u33.gr.gw
      replace hA16 := hA16.gw u33.gr.gw
      cases hb34 : ((cmpN q.den r.den : Int) == (0 : Int))
      ·
        have phb34 := neOfBeq hb34
        refine LG.val 36 (.bool false) w31 (by kernel_rfl) (by kernel_rfl) (rb (by kernel_rfl) hb34) ?_
        refine LG.val 37 (.bool false) w31 (by kernel_rfl) (by kernel_rfl) (by kernel_rfl) ?_
        refine LG.val 4 (.bool false) w31 (by kernel_rfl) (by kernel_rfl) (by kernel_rfl) ?_
        refine LG.next (by kernel_rfl) ?_
        refine CG.to [(4, .bool false)] (by kernel_rfl) ?_
        refine CG.ret ?_
        exact retP hs [] (.bool false) (by kernel_rfl) (by kernel_rfl) (congrArg Value.bool (sameQ_f (by first | (left; assumption) | (right; right; assumption) | (right; left; exact beq_eq_false_iff_ne.1 ‹_›))))
      ·
        have phb34 := eq_of_beq hb34
        refine LG.val 36 (.bool true) w31 (by kernel_rfl) (by kernel_rfl) (rb (by kernel_rfl) hb34) ?_
        refine LG.val 37 (.bool true) w31 (by kernel_rfl) (by kernel_rfl) (by kernel_rfl) ?_
        refine LG.val 4 (.bool true) w31 (by kernel_rfl) (by kernel_rfl) (by kernel_rfl) ?_
        refine LG.next (by kernel_rfl) ?_
        refine CG.to [(4, .bool true)] (by kernel_rfl) ?_
        refine CG.ret ?_
        exact retP hs [] (.bool true) (by kernel_rfl) (by kernel_rfl) (congrArg Value.bool (sameQ_t (by assumption) (eq_of_beq ‹_›) (by assumption)))

set_option maxRecDepth 100000 in
set_option maxHeartbeats 600000 in
theorem hIs (q : Rat) (z e : Int) (hq : iabs q.num < 18446744073709551616) (hd : q.den < 18446744073709551616) (hz0 : -9223372036854775808 ≤ z) (hz1 : z < 9223372036854775808) (he : 0 < e) (he1 : e < 4294967296) (w : World) (h : Hp) (g : G w h) :
    Calls Tryz.prog 19 #[qv q, .int .i64 z, .int .i64 e] w (Ret w h fun v _ => v = .bool (sameQ q (mkRat z (iabs e)))) := by
  have hs := St.start g
  obtain ⟨p1, p2, p3, p4⟩ := mkRat_parts z (iabs e) (by unfold iabs; omega)
  have hb1 : iabs (mkRat z (iabs e)).num < 18446744073709551616 := by rw [p1]; exact Nat.lt_of_le_of_lt (iabs_div_le _ _ p3) (by unfold iabs; omega)
  have hb2 : (mkRat z (iabs e)).den < 18446744073709551616 := by rw [p2]; exact Nat.lt_of_le_of_lt (Nat.div_le_self _ _) (by unfold iabs; omega)
  refine enter (n := 12) Tryz.func19 rfl rfl (Nat.le_of_ble_eq_true (by kernel_rfl)) [(0, qv q), (1, .int .i64 z), (2, .int .i64 e)] rfl ?_
  refine CG.seq ?_
  refine CG.listed ?_
  refine LG.var 3 60 (qc q) hs (by kernel_rfl) (by kernel_rfl) (by kernel_rfl) (fun b1 w2 h3 nb_ u4 hs => ?_)
  refine LG.val 6 (.bool false) w2 (by kernel_rfl) (by kernel_rfl) (by kernel_rfl) ?_
  refine LG.next (by kernel_rfl) ?_
  refine CG.seq ?_
  have hsr := hs
  refine CG.region ⟨[], none⟩ 5 [] mixed (by kernel_rfl) hs.g al_nil (fun _ hb => by cases hb) ?_
  refine Rg.own 0 7 [(0, 0, 5)] (qv q) hs (by kernel_rfl) (by kernel_rfl) (fun _ _ => List.not_mem_nil) (by kernel_rfl) (by kernel_rfl) ?_
  refine Rg.pure 1 8 (.int .i64 z) (by kernel_rfl) (by kernel_rfl) (fun _ => by kernel_rfl) ?_
  refine Rg.pure 2 9 (.int .i64 e) (by kernel_rfl) (by kernel_rfl) (fun _ => by kernel_rfl) ?_
  refine Rg.call 3 10 30 #[.int .i64 z, .int .i64 e] (by kernel_rfl) (by kernel_rfl) (fun _ => by kernel_rfl) (fun w16 h17 u18 => ?_)
  replace hs := hs.step u18
  refine (rOver z e hz0 hz1 he he1 w16 h17 hs.g).mono ?_
  rintro _ w13 ⟨vu15, h14, rfl, u15, ⟨A5, c6, A9, c10, rfl, hc7, hc11, hA8, hA12⟩⟩
  refine ⟨_, h14, rfl, u15.m _, ?_⟩
  replace hs := hs.step u15
  refine Rg.call 4 11 43 #[qv q, .agg #[.bool (ineg (mkRat z (iabs e)).num), .slice A5 ((lim (iabs (mkRat z (iabs e)).num)).length) c6, .slice A9 ((lim (mkRat z (iabs e)).den).length) c10]] (by kernel_rfl) (by kernel_rfl) (fun _ => by kernel_rfl) (fun w22 h23 u24 => ?_)
  replace hs := hs.step u24
  replace hA8 := hA8.gw u24.gr.gw
  replace hA12 := hA12.gw u24.gr.gw
  refine (hSame q (mkRat z (iabs e)) hq hd hb1 hb2 A5 c6 hc7 A9 c10 hc11 w22 h23 hs.g hA8 hA12).mono ?_
  rintro _ w19 ⟨vu21, h20, rfl, u21, rfl⟩
  refine ⟨_, h20, rfl, u21.m _, ?_⟩
  replace hs := hs.step u21
  replace hA8 := hA8.gw u21.gr.gw
  replace hA12 := hA12.gw u21.gr.gw
  refine Rg.fin0 (by kernel_rfl) (fun w25 h26 u27 => ?_)
  replace hs := hs.step u27
  replace hA8 := hA8.gw u27.gr.gw
  replace hA12 := hA12.gw u27.gr.gw
  refine T.val 5 6 (.bool (sameQ q (mkRat z (iabs e)))) w25 (by kernel_rfl) (by kernel_rfl) (by kernel_rfl) ?_
  refine T.next (by kernel_rfl) ?_
  refine CG.to [(6, .bool (sameQ q (mkRat z (iabs e))))] (by kernel_rfl) ?_
  refine CG.ret ?_
  exact retP hs [] (.bool (sameQ q (mkRat z (iabs e)))) (by kernel_rfl) (by kernel_rfl) rfl

end Go.Proofs.YtmkonbkdjmfjhaaGreatDoor
