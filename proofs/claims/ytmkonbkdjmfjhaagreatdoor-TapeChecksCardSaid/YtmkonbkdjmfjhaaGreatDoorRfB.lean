/- Contracts of the reference's numbers: IntOf, NatCmp, one, NatDiv by one limb, NatGcd. -/
import Derived.Test.YtmkonbkdjmfjhaaGreatDoorRfA
import Derived.Test.YtmkonbkdjmfjhaaGreatDoorWholeS
namespace Go.Proofs.YtmkonbkdjmfjhaaGreatDoor
open Go.RowKit


theorem getD_lim_lt (n k : Nat) : (lim n).getD k 0 < 4294967296 := by
  rcases Nat.lt_or_ge k (lim n).length with h | h
  · have := lim_lt n ((lim n)[k]) (List.getElem_mem h); simpa [h] using this
  · simp [List.getElem?_eq_none h]
theorem lim_cmp_len {a b : Nat} (h : (lim a).length < (lim b).length) : a < b := by
  rcases Nat.lt_or_ge a b with hl | hl
  · exact hl
  · exfalso
    have h1 : a < 4294967296 ^ (lim a).length := by have := nval_lt (lim_lt a); rwa [nval_lim] at this
    have hp : 0 < b := lim_pos.1 (by omega)
    have h2 := lim_last b hp
    have h3 : 4294967296 ^ ((lim b).length - 1) ≤ b := by
      have e := nval_take_succ (l := lim b) (k := (lim b).length - 1) (by omega)
      rw [show (lim b).length - 1 + 1 = (lim b).length by omega, List.take_length, nval_lim] at e
      have : 4294967296 ^ ((lim b).length - 1) * 1 ≤ 4294967296 ^ ((lim b).length - 1) * (lim b).getD ((lim b).length - 1) 0 := Nat.mul_le_mul_left _ (by omega)
      omega
    have h4 : 4294967296 ^ (lim a).length ≤ 4294967296 ^ ((lim b).length - 1) := Nat.pow_le_pow_right (by omega) (by omega)
    omega

set_option maxRecDepth 100000 in
set_option maxHeartbeats 600000 in
theorem rIntOf_neg (z : Int) (h0 : z < 0) (h1 : -9223372036854775808 ≤ z) (w : World) (h : Hp) (g : G w h) :
    Calls Tryz.prog 28 #[.int .i64 z] w (Ret w h fun v h => RI h v (sgn true (iabs z))) := by
  have hs := St.start g
  have hi : iabs z < 18446744073709551616 := by unfold iabs; omega
  refine enter (n := 14) Tryz.func28 rfl rfl (Nat.le_of_ble_eq_true (by kernel_rfl)) [(0, .int .i64 z)] rfl ?_
  refine CG.seq ?_
  refine CG.listed ?_
  refine LG.var 2 43 ([.bool false, .slice none 0 0]) hs (by kernel_rfl) (by kernel_rfl) (by kernel_rfl) (fun b1 w2 h3 nb_ u4 hs => ?_)
  refine LG.next (by kernel_rfl) ?_
  refine CG.seq ?_
  refine CG.seq ?_
  refine CG.listed ?_
  refine LG.val 3 (.int .i64 z) w2 (by kernel_rfl) (by kernel_rfl) (by kernel_rfl) ?_
  have hb5 : (decide ((z : Int) < (0 : Int))) = true := decide_eq_true h0
  have phb5 := of_decide_eq_true hb5
  refine LG.val 4 (.bool true) w2 (by kernel_rfl) (by kernel_rfl) (rb (by kernel_rfl) hb5) ?_
  refine LG.next (by kernel_rfl) ?_
  refine CG.condT (by kernel_rfl) (by kernel_rfl) ?_
  refine CG.seq ?_
  refine CG.listed ?_
  refine LG.val 5 (.int .i64 z) w2 (by kernel_rfl) (by kernel_rfl) (by kernel_rfl) ?_
  refine LG.val 6 (.int .u64 (z + 18446744073709551616)) w2 (by kernel_rfl) (by kernel_rfl) (rint (n := IntKind.wrap .u64 z) (by kernel_rfl) (by rw [IntKind.wrap_u64]; omega)) ?_
  refine LG.val 7 (.int .u64 (iabs z : Nat)) w2 (by kernel_rfl) (by kernel_rfl) (rint (n := IntKind.wrap .u64 (0 - (z + 18446744073709551616))) (by kernel_rfl) (by rw [IntKind.wrap_u64]; unfold iabs; omega)) ?_
  refine LG.call 8 29 #[.int .u64 (iabs z : Nat)] (by kernel_rfl) (by kernel_rfl) (by kernel_rfl) ?_
  refine (rNatOf ((iabs z)) (by omega) w2 h3 hs.g).mono ?_
  rintro _ w10 ⟨vu12, h11, rfl, u12, ⟨A6, c7, rfl, hc8, hA9⟩⟩
  refine ⟨_, rfl, ?_⟩
  replace hs := hs.step u12
  refine LG.call 9 47 #[.bool true, .slice A6 ((lim (iabs z)).length) c7] (by kernel_rfl) (by kernel_rfl) (by kernel_rfl) ?_
  refine (rI true (iabs z) A6 c7 hc8 w10 h11 hs.g hA9).mono ?_
  rintro _ w17 ⟨vu19, h18, rfl, u19, ⟨A13, c14, rfl, hc15, hA16⟩⟩
  refine ⟨_, rfl, ?_⟩
  replace hs := hs.step u19
  replace hA9 := hA9.gw u19.gr.gw
  refine LG.put 0 0 ([.bool (ineg (sgn true (iabs z))), .slice A13 ((lim (iabs (sgn true (iabs z)))).length) c14]) hs g (by kernel_rfl) (by kernel_rfl) (by kernel_rfl) (by kernel_rfl) (fun w20 pu hs => ?_)
  refine LG.next (by kernel_rfl) ?_
  refine CG.to [(0, .int .i64 z), (2, .pointer (some ⟨b1, 0, none⟩))] (by kernel_rfl) ?_
  refine CG.ret ?_
  exact retP hs [(0, 0, 2)] (.agg #[.bool (ineg (sgn true (iabs z))), .slice A13 ((lim (iabs (sgn true (iabs z)))).length) c14]) (by kernel_rfl) (by kernel_rfl) ⟨_, _, rfl, hc15, hA16⟩

set_option maxRecDepth 100000 in
set_option maxHeartbeats 600000 in
theorem rIntOf_pos (z : Nat) (h1 : z < 9223372036854775808) (w : World) (h : Hp) (g : G w h) :
    Calls Tryz.prog 28 #[.int .i64 (z : Nat)] w (Ret w h fun v h => RI h v (sgn false z)) := by
  have hs := St.start g
  refine enter (n := 14) Tryz.func28 rfl rfl (Nat.le_of_ble_eq_true (by kernel_rfl)) [(0, .int .i64 (z : Nat))] rfl ?_
  refine CG.seq ?_
  refine CG.listed ?_
  refine LG.var 2 43 ([.bool false, .slice none 0 0]) hs (by kernel_rfl) (by kernel_rfl) (by kernel_rfl) (fun b1 w2 h3 nb_ u4 hs => ?_)
  refine LG.next (by kernel_rfl) ?_
  refine CG.seq ?_
  refine CG.seq ?_
  refine CG.listed ?_
  refine LG.val 3 (.int .i64 (z : Nat)) w2 (by kernel_rfl) (by kernel_rfl) (by kernel_rfl) ?_
  have hb5 : (decide (((z : Nat) : Int) < (0 : Int))) = false := decide_eq_false (by omega)
  have phb5 := of_decide_eq_false hb5
  refine LG.val 4 (.bool false) w2 (by kernel_rfl) (by kernel_rfl) (rb (by kernel_rfl) hb5) ?_
  refine LG.next (by kernel_rfl) ?_
  refine CG.condF (by kernel_rfl) (by kernel_rfl) ?_
  refine CG.skipN ?_
  refine CG.seq ?_
  refine CG.listed ?_
  refine LG.val 10 (.int .i64 (z : Nat)) w2 (by kernel_rfl) (by kernel_rfl) (by kernel_rfl) ?_
  refine LG.val 11 (.int .u64 (z : Nat)) w2 (by kernel_rfl) (by kernel_rfl) (rint (n := IntKind.wrap .u64 ((z : Nat) : Int)) (by kernel_rfl) (fitU64 (by omega) (by omega))) ?_
  refine LG.call 12 29 #[.int .u64 (z : Nat)] (by kernel_rfl) (by kernel_rfl) (by kernel_rfl) ?_
  refine (rNatOf (z) (by omega) w2 h3 hs.g).mono ?_
  rintro _ w10 ⟨vu12, h11, rfl, u12, ⟨A6, c7, rfl, hc8, hA9⟩⟩
  refine ⟨_, rfl, ?_⟩
  replace hs := hs.step u12
  refine LG.call 13 47 #[.bool false, .slice A6 ((lim z).length) c7] (by kernel_rfl) (by kernel_rfl) (by kernel_rfl) ?_
  refine (rI false z A6 c7 hc8 w10 h11 hs.g hA9).mono ?_
  rintro _ w17 ⟨vu19, h18, rfl, u19, ⟨A13, c14, rfl, hc15, hA16⟩⟩
  refine ⟨_, rfl, ?_⟩
  replace hs := hs.step u19
  replace hA9 := hA9.gw u19.gr.gw
  refine LG.put 0 0 ([.bool (ineg (sgn false z)), .slice A13 ((lim (iabs (sgn false z))).length) c14]) hs g (by kernel_rfl) (by kernel_rfl) (by kernel_rfl) (by kernel_rfl) (fun w20 pu hs => ?_)
  refine LG.next (by kernel_rfl) ?_
  refine CG.to [(2, .pointer (some ⟨b1, 0, none⟩))] (by kernel_rfl) ?_
  refine CG.ret ?_
  exact retP hs [(0, 0, 2)] (.agg #[.bool (ineg (sgn false z)), .slice A13 ((lim (iabs (sgn false z))).length) c14]) (by kernel_rfl) (by kernel_rfl) ⟨_, _, rfl, hc15, hA16⟩


theorem rIntOf (z : Int) (h0 : -9223372036854775808 ≤ z) (h1 : z < 9223372036854775808) (w : World) (h : Hp) (g : G w h) : Calls Tryz.prog 28 #[.int .i64 z] w (Ret w h fun v h => RI h v z) := by
  rcases Int.lt_or_le z 0 with hz | hz
  · have e : sgn true (iabs z) = z := by unfold sgn iabs; simp; omega
    have := rIntOf_neg z hz h0 w h g
    rw [e] at this
    exact this
  · obtain ⟨n, rfl⟩ := Int.eq_ofNat_of_zero_le hz
    exact rIntOf_pos n (by omega) w h g
/-- Two rows of one length that agree above k, and differ there. -/
theorem lim_cmp_at {a b k : Nat} (hlen : (lim a).length = (lim b).length) (hk : k < (lim a).length) (hd : (lim a).drop (k + 1) = (lim b).drop (k + 1)) (hlt : (lim a).getD k 0 < (lim b).getD k 0) : a < b := by
  have ea : a = nval ((lim a).take (k + 1)) + 4294967296 ^ (k + 1) * nval ((lim a).drop (k + 1)) := by
    have := nval_append ((lim a).take (k + 1)) ((lim a).drop (k + 1))
    rw [List.take_append_drop, nval_lim, List.length_take, Nat.min_eq_left (by omega)] at this
    exact this
  have eb : b = nval ((lim b).take (k + 1)) + 4294967296 ^ (k + 1) * nval ((lim b).drop (k + 1)) := by
    have := nval_append ((lim b).take (k + 1)) ((lim b).drop (k + 1))
    rw [List.take_append_drop, nval_lim, List.length_take, Nat.min_eq_left (by omega)] at this
    exact this
  rw [hd] at ea
  have ta := nval_take_succ (l := lim a) (k := k) hk
  have tb := nval_take_succ (l := lim b) (k := k) (by omega)
  have la : nval ((lim a).take k) < 4294967296 ^ k := by
    have := nval_lt (l := (lim a).take k) (fun x hx => lim_lt a x (List.mem_of_mem_take hx))
    rwa [List.length_take, Nat.min_eq_left (by omega)] at this
  have hm : 4294967296 ^ k * (lim a).getD k 0 + 4294967296 ^ k ≤ 4294967296 ^ k * (lim b).getD k 0 := by
    rw [← Nat.mul_succ]; exact Nat.mul_le_mul_left _ hlt
  omega
theorem cmpN_gt {a b : Nat} (h : b < a) : cmpN a b = 1 := by unfold cmpN; rw [if_neg (by omega), if_pos h]
theorem cmpN_eq {a b : Nat} (h : a = b) : cmpN a b = 0 := by unfold cmpN; rw [if_neg (by omega), if_neg (by omega)]
theorem lim_inj {a b : Nat} (h : lim a = lim b) : a = b := by rw [← nval_lim a, ← nval_lim b, h]
theorem drop_step {l m : List Nat} {k : Nat} (hl : l.length = m.length) (hk : k < l.length) (hd : l.drop (k + 1) = m.drop (k + 1)) (he : l.getD k 0 = m.getD k 0) : l.drop k = m.drop k := by
  rw [List.drop_eq_getElem_cons hk, List.drop_eq_getElem_cons (l := m) (i := k) (by omega), hd]
  simp [hk, show k < m.length by omega] at he
  rw [he]

set_option maxRecDepth 100000 in
set_option maxHeartbeats 600000 in
theorem rNatCmp (a : Nat) (A : Option Addr) (c : Nat) (hc : (lim a).length ≤ c) (b : Nat) (D : Option Addr) (d : Nat) (hd : (lim b).length ≤ d) (hLa : Len (lim a).length) (hLb : Len (lim b).length) (w : World) (h : Hp) (g : G w h) (hA : SlO 1 u32c 0 h A (lim a)) (hD : SlO 1 u32c 0 h D (lim b)) :
    Calls Tryz.prog 75 #[.slice A ((lim a).length) c, .slice D ((lim b).length) d] w (Ret w h fun v _ => v = .int .i64 (cmpN a b)) := by
  have hs := St.start g
  unfold Len at hLa hLb
  refine enter (n := 41) Tryz.func75 rfl rfl (Nat.le_of_ble_eq_true (by kernel_rfl)) [(0, .slice A ((lim a).length) c), (1, .slice D ((lim b).length) d)] rfl ?_
  refine CG.seq ?_
  refine CG.listed ?_
  refine LG.val 4 (.int .i64 0) w (by kernel_rfl) (by kernel_rfl) (by kernel_rfl) ?_
  refine LG.next (by kernel_rfl) ?_
  refine CG.seq ?_
  refine CG.seq ?_
  refine CG.listed ?_
  refine LG.val 6 (.slice A ((lim a).length) c) w (by kernel_rfl) (by kernel_rfl) (by kernel_rfl) ?_
  refine LG.val 7 (.int .i64 ((lim a).length : Nat)) w (by kernel_rfl) (by kernel_rfl) (by kernel_rfl) ?_
  refine LG.val 8 (.slice D ((lim b).length) d) w (by kernel_rfl) (by kernel_rfl) (by kernel_rfl) ?_
  refine LG.val 9 (.int .i64 ((lim b).length : Nat)) w (by kernel_rfl) (by kernel_rfl) (by kernel_rfl) ?_
  cases hb1 : ((((lim a).length : Nat) : Int) != (((lim b).length : Nat) : Int))
  ·
    have phb1 := eqOfBne hb1
    refine LG.val 10 (.bool false) w (by kernel_rfl) (by kernel_rfl) (rb (by kernel_rfl) hb1) ?_
    refine LG.next (by kernel_rfl) ?_
    refine CG.condF (by kernel_rfl) (by kernel_rfl) ?_
    refine CG.skipN ?_
    refine CG.seq ?_
    refine CG.seq ?_
    refine CG.listed ?_
    refine LG.val 16 (.slice A ((lim a).length) c) w (by kernel_rfl) (by kernel_rfl) (by kernel_rfl) ?_
    refine LG.val 17 (.int .i64 ((lim a).length : Nat)) w (by kernel_rfl) (by kernel_rfl) (by kernel_rfl) ?_
    refine LG.val 18 (.int .i64 (((lim a).length : Nat) - 1)) w (by kernel_rfl) (by kernel_rfl) (ri64 (by kernel_rfl) (by omega) (by omega)) ?_
    refine LG.val 5 (.int .i64 (((lim a).length : Nat) - 1)) w (by kernel_rfl) (by kernel_rfl) (by kernel_rfl) ?_
    refine LG.next (by kernel_rfl) ?_
    refine CG.to [(0, .slice A ((lim a).length) c), (1, .slice D ((lim b).length) d), (4, .int .i64 0), (5, .int .i64 (((lim a).length : Nat) - 1))] (by kernel_rfl) ?_
    refine CG.block ?_
    refine CG.to [(0, .slice A ((lim a).length) c), (1, .slice D ((lim b).length) d), (5, .int .i64 (((lim a).length : Nat) - 1))] (by kernel_rfl) ?_
    refine CG.loop (fun μ_ Γ w_ => ∃ (m : Nat) (h_ : Hp), μ_ = m ∧ Γ = [(0, .slice A ((lim a).length) c), (1, .slice D ((lim b).length) d), (5, .int .i64 ((m : Nat) - 1))] ∧ St w h w_ h_ [] ∧ (SlO 1 u32c 0 h_ A (lim a)) ∧ (SlO 1 u32c 0 h_ D (lim b)) ∧ (m ≤ (lim a).length) ∧ ((lim a).drop m = (lim b).drop m)) _ ⟨(lim a).length, h, rfl, rfl, hs.to _ (by kernel_rfl), hA, hD, Nat.le_refl _, by rw [List.drop_eq_nil_of_le (Nat.le_refl _), List.drop_eq_nil_of_le (by omega)]⟩ ?_
    rintro _ _ w2 ⟨m, h3, hm4, rfl, hs, hA, hD, hm, hdr⟩
    -- round
    refine CG.seq ?_
    refine CG.seq ?_
    refine CG.listed ?_
    refine LG.val 19 (.int .i64 ((m : Nat) - 1)) w2 (by kernel_rfl) (by kernel_rfl) (by kernel_rfl) ?_
    cases hb5 : (decide ((0 : Int) ≤ ((m : Nat) - 1 : Int)))
    ·
      have phb5 := of_decide_eq_false hb5
      refine LG.val 20 (.bool false) w2 (by kernel_rfl) (by kernel_rfl) (rb (by kernel_rfl) hb5) ?_
      refine LG.next (by kernel_rfl) ?_
      refine CG.condF (by kernel_rfl) (by kernel_rfl) ?_
      refine CG.exit ?_
      show CG _ _ _ _ _ _ _ _
      refine CG.seq ?_
      refine CG.listed ?_
      refine LG.val 4 (.int .i64 0) w2 (by kernel_rfl) (by kernel_rfl) (by kernel_rfl) ?_
      refine LG.next (by kernel_rfl) ?_
      refine CG.ret ?_
      exact retP hs [] (.int .i64 0) (by kernel_rfl) (by kernel_rfl) (by rw [cmpN_eq (lim_inj (by obtain rfl : m = 0 := (by omega); simpa using hdr))])
    ·
      have phb5 := of_decide_eq_true hb5
      refine LG.val 20 (.bool true) w2 (by kernel_rfl) (by kernel_rfl) (rb (by kernel_rfl) hb5) ?_
      refine LG.next (by kernel_rfl) ?_
      refine CG.condT (by kernel_rfl) (by kernel_rfl) ?_
      refine CG.skipN ?_
      refine CG.seq ?_
      refine CG.block ?_
      refine CG.seq ?_
      have hsr := hs
      refine CG.region ⟨[], none⟩ 9 [] mixed (by kernel_rfl) hs.g al_nil (fun _ hb => by cases hb) ?_
      refine Rg.pure 0 23 (.slice A ((lim a).length) c) (by kernel_rfl) (by kernel_rfl) (fun _ => by kernel_rfl) ?_
      refine Rg.pure 1 24 (.int .i64 ((m : Nat) - 1)) (by kernel_rfl) (by kernel_rfl) (fun _ => by kernel_rfl) ?_
      refine Rg.pure 2 25 (.pointer (some ⟨(aB A), aO A + (m - 1) * 1, none⟩)) (by kernel_rfl) (by kernel_rfl) (fun _ => ixAddr (t := 41) (e := 100) (x := .tmp 23) (ix := .tmp 24) (A := A) (len := (lim a).length) (cap := c) (sz := 1) (i := (m : Nat) - 1) (m - 1) (by kernel_rfl) (by kernel_rfl) (by kernel_rfl) (by kernel_rfl) (by kernel_rfl) (hA.ok (by omega)) (by omega) (by omega) _) ?_
      refine Rg.load 3 26 (.int .u32 ((lim a).getD (m - 1) 0 : Nat)) (by kernel_rfl) (by kernel_rfl) (fun _ hx => Seg.run (hA.el (m - 1) (by omega)) hs.g hx.ext (by kernel_rfl)) ?_
      refine Rg.pure 4 27 (.slice D ((lim b).length) d) (by kernel_rfl) (by kernel_rfl) (fun _ => by kernel_rfl) ?_
      refine Rg.pure 5 28 (.int .i64 ((m : Nat) - 1)) (by kernel_rfl) (by kernel_rfl) (fun _ => by kernel_rfl) ?_
      refine Rg.pure 6 29 (.pointer (some ⟨(aB D), aO D + (m - 1) * 1, none⟩)) (by kernel_rfl) (by kernel_rfl) (fun _ => ixAddr (t := 41) (e := 100) (x := .tmp 27) (ix := .tmp 28) (A := D) (len := (lim b).length) (cap := d) (sz := 1) (i := (m : Nat) - 1) (m - 1) (by kernel_rfl) (by kernel_rfl) (by kernel_rfl) (by kernel_rfl) (by kernel_rfl) (hD.ok (by omega)) (by omega) (by omega) _) ?_
      refine Rg.load 7 30 (.int .u32 ((lim b).getD (m - 1) 0 : Nat)) (by kernel_rfl) (by kernel_rfl) (fun _ hx => Seg.run (hD.el (m - 1) (by omega)) hs.g hx.ext (by kernel_rfl)) ?_
      cases hb6 : ((((lim a).getD (m - 1) 0 : Nat) : Int) != (((lim b).getD (m - 1) 0 : Nat) : Int))
      ·
        have phb6 := eqOfBne hb6
        refine Rg.pure 8 31 (.bool false) (by kernel_rfl) (by kernel_rfl) (fun _ => rb (by kernel_rfl) hb6) ?_
        refine Rg.fin0 (by kernel_rfl) (fun w7 h8 u9 => ?_)
        replace hs := hs.step u9
        replace hA := hA.gw u9.gr.gw
        replace hD := hD.gw u9.gr.gw
        refine T.next (by kernel_rfl) ?_
        refine CG.to [(0, .slice A ((lim a).length) c), (1, .slice D ((lim b).length) d), (5, .int .i64 ((m : Nat) - 1)), (31, .bool false)] (by kernel_rfl) ?_
        refine CG.condF (by kernel_rfl) (by kernel_rfl) ?_
        refine CG.skipN ?_
        refine CG.listed ?_
        refine LG.val 21 (.int .i64 ((m : Nat) - 1)) w7 (by kernel_rfl) (by kernel_rfl) (by kernel_rfl) ?_
        refine LG.val 22 (.int .i64 (((m : Nat) - 1) - 1)) w7 (by kernel_rfl) (by kernel_rfl) (ri64 (by kernel_rfl) (by omega) (by omega)) ?_
        refine LG.val 5 (.int .i64 (((m : Nat) - 1) - 1)) w7 (by kernel_rfl) (by kernel_rfl) (by kernel_rfl) ?_
        refine LG.done (by kernel_rfl) ?_
        intro a_ ka
        rw [show ((m : Nat) : Int) - 1 - 1 = ((m - 1 : Nat) : Int) - 1 by omega] at ka
        refine ⟨_, _, ?_, ⟨m - 1, h8, rfl, rfl, hs.to _ (by kernel_rfl), hA, hD, by omega, drop_step (by omega) (by omega) (by rw [show m - 1 + 1 = m by omega]; exact hdr) (by omega)⟩, ka.to [(0, .slice A ((lim a).length) c), (1, .slice D ((lim b).length) d), (5, .int .i64 (((m - 1) : Nat) - 1))] (by kernel_rfl)⟩
        omega
      ·
        have phb6 := neOfBne hb6
        refine Rg.pure 8 31 (.bool true) (by kernel_rfl) (by kernel_rfl) (fun _ => rb (by kernel_rfl) hb6) ?_
        refine Rg.fin0 (by kernel_rfl) (fun w10 h11 u12 => ?_)
        replace hs := hs.step u12
        replace hA := hA.gw u12.gr.gw
        replace hD := hD.gw u12.gr.gw
        refine T.next (by kernel_rfl) ?_
        refine CG.to [(0, .slice A ((lim a).length) c), (1, .slice D ((lim b).length) d), (5, .int .i64 ((m : Nat) - 1)), (31, .bool true)] (by kernel_rfl) ?_
        refine CG.condT (by kernel_rfl) (by kernel_rfl) ?_
        refine CG.seq ?_
        refine CG.seq ?_
        have hsr := hs
        refine CG.region ⟨[], none⟩ 9 [] mixed (by kernel_rfl) hs.g al_nil (fun _ hb => by cases hb) ?_
        refine Rg.pure 0 32 (.slice A ((lim a).length) c) (by kernel_rfl) (by kernel_rfl) (fun _ => by kernel_rfl) ?_
        refine Rg.pure 1 33 (.int .i64 ((m : Nat) - 1)) (by kernel_rfl) (by kernel_rfl) (fun _ => by kernel_rfl) ?_
        refine Rg.pure 2 34 (.pointer (some ⟨(aB A), aO A + (m - 1) * 1, none⟩)) (by kernel_rfl) (by kernel_rfl) (fun _ => ixAddr (t := 41) (e := 100) (x := .tmp 32) (ix := .tmp 33) (A := A) (len := (lim a).length) (cap := c) (sz := 1) (i := (m : Nat) - 1) (m - 1) (by kernel_rfl) (by kernel_rfl) (by kernel_rfl) (by kernel_rfl) (by kernel_rfl) (hA.ok (by omega)) (by omega) (by omega) _) ?_
        refine Rg.load 3 35 (.int .u32 ((lim a).getD (m - 1) 0 : Nat)) (by kernel_rfl) (by kernel_rfl) (fun _ hx => Seg.run (hA.el (m - 1) (by omega)) hs.g hx.ext (by kernel_rfl)) ?_
        refine Rg.pure 4 36 (.slice D ((lim b).length) d) (by kernel_rfl) (by kernel_rfl) (fun _ => by kernel_rfl) ?_
        refine Rg.pure 5 37 (.int .i64 ((m : Nat) - 1)) (by kernel_rfl) (by kernel_rfl) (fun _ => by kernel_rfl) ?_
        refine Rg.pure 6 38 (.pointer (some ⟨(aB D), aO D + (m - 1) * 1, none⟩)) (by kernel_rfl) (by kernel_rfl) (fun _ => ixAddr (t := 41) (e := 100) (x := .tmp 36) (ix := .tmp 37) (A := D) (len := (lim b).length) (cap := d) (sz := 1) (i := (m : Nat) - 1) (m - 1) (by kernel_rfl) (by kernel_rfl) (by kernel_rfl) (by kernel_rfl) (by kernel_rfl) (hD.ok (by omega)) (by omega) (by omega) _) ?_
        refine Rg.load 7 39 (.int .u32 ((lim b).getD (m - 1) 0 : Nat)) (by kernel_rfl) (by kernel_rfl) (fun _ hx => Seg.run (hD.el (m - 1) (by omega)) hs.g hx.ext (by kernel_rfl)) ?_
        cases hb13 : (decide ((((lim a).getD (m - 1) 0 : Nat) : Int) < (((lim b).getD (m - 1) 0 : Nat) : Int)))
        ·
          have phb13 := of_decide_eq_false hb13
          refine Rg.pure 8 40 (.bool false) (by kernel_rfl) (by kernel_rfl) (fun _ => rb (by kernel_rfl) hb13) ?_
          refine Rg.fin0 (by kernel_rfl) (fun w14 h15 u16 => ?_)
          replace hs := hs.step u16
          replace hA := hA.gw u16.gr.gw
          replace hD := hD.gw u16.gr.gw
          refine T.next (by kernel_rfl) ?_
          refine CG.to [(0, .slice A ((lim a).length) c), (1, .slice D ((lim b).length) d), (5, .int .i64 ((m : Nat) - 1)), (40, .bool false)] (by kernel_rfl) ?_
          refine CG.condF (by kernel_rfl) (by kernel_rfl) ?_
          refine CG.skipN ?_
          refine CG.seq ?_
          refine CG.listed ?_
          refine LG.val 4 (.int .i64 1) w14 (by kernel_rfl) (by kernel_rfl) (by kernel_rfl) ?_
          refine LG.next (by kernel_rfl) ?_
          refine CG.ret ?_
          exact retP hs [] (.int .i64 1) (by kernel_rfl) (by kernel_rfl) (by rw [cmpN_gt (by first | exact lim_cmp_len (by omega) | exact lim_cmp_at (k := m - 1) (by omega) (by omega) (by rw [show m - 1 + 1 = m by omega]; exact hdr.symm) (by omega))])
        ·
          have phb13 := of_decide_eq_true hb13
          refine Rg.pure 8 40 (.bool true) (by kernel_rfl) (by kernel_rfl) (fun _ => rb (by kernel_rfl) hb13) ?_
          refine Rg.fin0 (by kernel_rfl) (fun w17 h18 u19 => ?_)
          replace hs := hs.step u19
          replace hA := hA.gw u19.gr.gw
          replace hD := hD.gw u19.gr.gw
          refine T.next (by kernel_rfl) ?_
          refine CG.to [(0, .slice A ((lim a).length) c), (1, .slice D ((lim b).length) d), (5, .int .i64 ((m : Nat) - 1)), (40, .bool true)] (by kernel_rfl) ?_
          refine CG.condT (by kernel_rfl) (by kernel_rfl) ?_
          refine CG.seq ?_
          refine CG.listed ?_
          refine LG.val 4 (.int .i64 (-1)) w17 (by kernel_rfl) (by kernel_rfl) (by kernel_rfl) ?_
          refine LG.next (by kernel_rfl) ?_
          refine CG.ret ?_
          exact retP hs [] (.int .i64 (-1)) (by kernel_rfl) (by kernel_rfl) (by rw [cmpN_lt (by first | exact lim_cmp_len (by omega) | exact lim_cmp_at (k := m - 1) (by omega) (by omega) (by rw [show m - 1 + 1 = m by omega]; exact hdr) (by omega))])
  ·
    have phb1 := neOfBne hb1
    refine LG.val 10 (.bool true) w (by kernel_rfl) (by kernel_rfl) (rb (by kernel_rfl) hb1) ?_
    refine LG.next (by kernel_rfl) ?_
    refine CG.condT (by kernel_rfl) (by kernel_rfl) ?_
    refine CG.seq ?_
    refine CG.seq ?_
    refine CG.listed ?_
    refine LG.val 11 (.slice A ((lim a).length) c) w (by kernel_rfl) (by kernel_rfl) (by kernel_rfl) ?_
    refine LG.val 12 (.int .i64 ((lim a).length : Nat)) w (by kernel_rfl) (by kernel_rfl) (by kernel_rfl) ?_
    refine LG.val 13 (.slice D ((lim b).length) d) w (by kernel_rfl) (by kernel_rfl) (by kernel_rfl) ?_
    refine LG.val 14 (.int .i64 ((lim b).length : Nat)) w (by kernel_rfl) (by kernel_rfl) (by kernel_rfl) ?_
    cases hb20 : (decide ((((lim a).length : Nat) : Int) < (((lim b).length : Nat) : Int)))
    ·
      have phb20 := of_decide_eq_false hb20
      refine LG.val 15 (.bool false) w (by kernel_rfl) (by kernel_rfl) (rb (by kernel_rfl) hb20) ?_
      refine LG.next (by kernel_rfl) ?_
      refine CG.to [(0, .slice A ((lim a).length) c), (1, .slice D ((lim b).length) d), (4, .int .i64 0), (15, .bool false)] (by kernel_rfl) ?_
      refine CG.condF (by kernel_rfl) (by kernel_rfl) ?_
      refine CG.skipN ?_
      refine CG.seq ?_
      refine CG.listed ?_
      refine LG.val 4 (.int .i64 1) w (by kernel_rfl) (by kernel_rfl) (by kernel_rfl) ?_
      refine LG.next (by kernel_rfl) ?_
      refine CG.ret ?_
      exact retP hs [] (.int .i64 1) (by kernel_rfl) (by kernel_rfl) (by rw [cmpN_gt (by first | exact lim_cmp_len (by omega) | exact lim_cmp_at (k := m - 1) (by omega) (by omega) (by rw [show m - 1 + 1 = m by omega]; exact hdr.symm) (by omega))])
    ·
      have phb20 := of_decide_eq_true hb20
      refine LG.val 15 (.bool true) w (by kernel_rfl) (by kernel_rfl) (rb (by kernel_rfl) hb20) ?_
      refine LG.next (by kernel_rfl) ?_
      refine CG.to [(0, .slice A ((lim a).length) c), (1, .slice D ((lim b).length) d), (4, .int .i64 0), (15, .bool true)] (by kernel_rfl) ?_
      refine CG.condT (by kernel_rfl) (by kernel_rfl) ?_
      refine CG.seq ?_
      refine CG.listed ?_
      refine LG.val 4 (.int .i64 (-1)) w (by kernel_rfl) (by kernel_rfl) (by kernel_rfl) ?_
      refine LG.next (by kernel_rfl) ?_
      refine CG.ret ?_
      exact retP hs [] (.int .i64 (-1)) (by kernel_rfl) (by kernel_rfl) (by rw [cmpN_lt (by first | exact lim_cmp_len (by omega) | exact lim_cmp_at (k := m - 1) (by omega) (by omega) (by rw [show m - 1 + 1 = m by omega]; exact hdr) (by omega))])

end Go.Proofs.YtmkonbkdjmfjhaaGreatDoor
