/- Contracts of the reference's numbers: one, NatDiv by one limb, NatGcd, Make, Over, Of. -/
import Derived.Test.YtmkonbkdjmfjhaaGreatDoorRfB
namespace Go.Proofs.YtmkonbkdjmfjhaaGreatDoor
open Go.RowKit


theorem one_fit {r x b : Nat} (hr : r < b) (hx : x < 4294967296) : (r * 4294967296 + x) / b < 4294967296 := by
  apply Nat.div_lt_of_lt_mul
  have : (r + 1) * 4294967296 ≤ b * 4294967296 := Nat.mul_le_mul_right _ hr
  omega
theorem nval_drop_set {l : List Nat} {k q : Nat} (hk : k < l.length) : nval ((l.set k q).drop k) = q + 4294967296 * nval (l.drop (k + 1)) := by
  rw [nval_drop (by simpa using hk)]
  simp [hk, List.drop_set_of_lt]
theorem mem_set_lt {l : List Nat} {k q : Nat} (h : ∀ x ∈ l, x < 4294967296) (hq : q < 4294967296) : ∀ x ∈ l.set k q, x < 4294967296 := fun x hx => by
  rcases List.mem_or_eq_of_mem_set hx with h1 | h1
  · exact h x h1
  · omega
theorem one_step {a m b r : Nat} {l : List Nat} (hm : m ≤ (lim a).length) (h0 : 0 < m) (hl : l.length = (lim a).length) (hv : nval ((lim a).drop m) = b * nval (l.drop m) + r) :
    nval ((lim a).drop (m - 1)) = b * nval ((l.set (m - 1) ((r * 4294967296 + (lim a).getD (m - 1) 0) / b)).drop (m - 1)) + (r * 4294967296 + (lim a).getD (m - 1) 0) % b := by
  rw [nval_drop (by omega), nval_drop_set (by omega), show m - 1 + 1 = m by omega, hv]
  have := Nat.div_add_mod (r * 4294967296 + (lim a).getD (m - 1) 0) b
  have e : b * ((r * 4294967296 + (lim a).getD (m - 1) 0) / b + 4294967296 * nval (l.drop m)) = b * ((r * 4294967296 + (lim a).getD (m - 1) 0) / b) + 4294967296 * (b * nval (l.drop m)) := by rw [Nat.mul_add, Nat.mul_left_comm]
  rw [e]
  omega
def R2 (P : Value → Value → Hp → Prop) (v : Value) (h : Hp) : Prop := ∃ a b, v = .tuple #[a, b] ∧ P a b h

set_option maxRecDepth 100000 in
set_option maxHeartbeats 600000 in
theorem rOne (a : Nat) (A : Option Addr) (c : Nat) (hc : (lim a).length ≤ c) (hLa : Len (lim a).length) (b : Nat) (hb0 : 0 < b) (hb1 : b < 4294967296) (w : World) (h : Hp) (g : G w h) (hA : SlO 1 u32c 0 h A (lim a)) :
    Calls Tryz.prog 100 #[.slice A ((lim a).length) c, .int .u32 (b : Nat)] w (Ret w h fun v h => ∃ q, v = .tuple #[q, .int .u32 (a % b : Nat)] ∧ RN h q (a / b)) := by
  have hs := St.start g
  unfold Len at hLa
  refine enter (n := 43) Tryz.func100 rfl rfl (Nat.le_of_ble_eq_true (by kernel_rfl)) [(0, .slice A ((lim a).length) c), (1, .int .u32 (b : Nat))] rfl ?_
  refine CG.seq ?_
  refine CG.listed ?_
  refine LG.val 4 (.slice none 0 0) w (by kernel_rfl) (by kernel_rfl) (by kernel_rfl) ?_
  refine LG.val 5 (.int .u32 0) w (by kernel_rfl) (by kernel_rfl) (by kernel_rfl) ?_
  refine LG.next (by kernel_rfl) ?_
  refine CG.seq ?_
  refine CG.listed ?_
  refine LG.val 9 (.slice A ((lim a).length) c) w (by kernel_rfl) (by kernel_rfl) (by kernel_rfl) ?_
  refine LG.val 10 (.int .i64 ((lim a).length : Nat)) w (by kernel_rfl) (by kernel_rfl) (by kernel_rfl) ?_
  refine LG.arr 11 100 ((lim a).length) ((List.replicate ((lim a).length) 0).flatMap u32c) hs (by kernel_rfl) (by kernel_rfl) (mkSl (t := 41) (e := 100) (x := .tmp 10) (y := .tmp 10) (z := .int .u32 0) (m := ((lim a).length)) (sz := 1) (bt := 4) (by kernel_rfl) (by kernel_rfl) (by kernel_rfl) (by kernel_rfl) (by kernel_rfl) (by kernel_rfl) (by kernel_rfl) (by decide) (by omega) (by omega) _) (fun b1 w2 h3 nb_ u4 hs => ?_)
  replace hA := hA.gw u4.gr.gw
  have hl5 : (List.replicate ((lim a).length) 0).length = ((lim a).length) := by simp
  refine LG.val 6 (.slice (some ⟨b1, 0, none⟩) ((lim a).length) ((lim a).length)) w2 (by kernel_rfl) (by kernel_rfl) (by kernel_rfl) ?_
  refine LG.next (by kernel_rfl) ?_
  refine CG.seq ?_
  refine CG.listed ?_
  refine LG.val 7 (.int .u64 0) w2 (by kernel_rfl) (by kernel_rfl) (by kernel_rfl) ?_
  refine LG.next (by kernel_rfl) ?_
  refine CG.seq ?_
  refine CG.seq ?_
  refine CG.listed ?_
  refine LG.val 12 (.slice A ((lim a).length) c) w2 (by kernel_rfl) (by kernel_rfl) (by kernel_rfl) ?_
  refine LG.val 13 (.int .i64 ((lim a).length : Nat)) w2 (by kernel_rfl) (by kernel_rfl) (by kernel_rfl) ?_
  refine LG.val 14 (.int .i64 (((lim a).length : Nat) - 1)) w2 (by kernel_rfl) (by kernel_rfl) (ri64 (by kernel_rfl) (by omega) (by omega)) ?_
  refine LG.val 8 (.int .i64 (((lim a).length : Nat) - 1)) w2 (by kernel_rfl) (by kernel_rfl) (by kernel_rfl) ?_
  refine LG.next (by kernel_rfl) ?_
  refine CG.block ?_
  refine CG.to [(0, .slice A ((lim a).length) c), (1, .int .u32 (b : Nat)), (4, .slice none 0 0), (5, .int .u32 0), (6, .slice (some ⟨b1, 0, none⟩) ((lim a).length) ((lim a).length)), (8, .int .i64 (((lim a).length : Nat) - 1)), (7, .int .u64 0)] (by kernel_rfl) ?_
  refine CG.loop (fun μ_ Γ w_ => ∃ (m : Nat) (r : Nat) (l : List Nat) (h_ : Hp), μ_ = m ∧ Γ = [(0, .slice A ((lim a).length) c), (1, .int .u32 (b : Nat)), (4, .slice none 0 0), (5, .int .u32 0), (6, .slice (some ⟨b1, 0, none⟩) ((lim a).length) ((lim a).length)), (8, .int .i64 ((m : Nat) - 1)), (7, .int .u64 (r : Nat))] ∧ St w h w_ h_ [⟨b1, 100, (l).flatMap u32c⟩] ∧ (SlO 1 u32c 0 h_ A (lim a)) ∧ (m ≤ (lim a).length) ∧ (r < b) ∧ (l.length = (lim a).length) ∧ (∀ x ∈ l, x < 4294967296) ∧ (nval ((lim a).drop m) = b * nval (l.drop m) + r)) _ ⟨(lim a).length, 0, List.replicate (lim a).length 0, h3, rfl, rfl, hs.to _ (by kernel_rfl), hA, Nat.le_refl _, hb0, (by simp), (by intro x hx; rw [List.eq_of_mem_replicate hx]; omega), (by rw [List.drop_eq_nil_of_le (Nat.le_refl _), List.drop_eq_nil_of_le (by simp)]; rfl)⟩ ?_
  rintro _ _ w6 ⟨m, r, l, h7, hm8, rfl, hs, hA, hm, hr, hl, hx32, hv⟩
  have hx := getD_lim_lt a (m - 1)
  -- round
  refine CG.seq ?_
  refine CG.seq ?_
  refine CG.listed ?_
  refine LG.val 15 (.int .i64 ((m : Nat) - 1)) w6 (by kernel_rfl) (by kernel_rfl) (by kernel_rfl) ?_
  cases hb9 : (decide ((0 : Int) ≤ ((m : Nat) - 1 : Int)))
  ·
    have phb9 := of_decide_eq_false hb9
    refine LG.val 16 (.bool false) w6 (by kernel_rfl) (by kernel_rfl) (rb (by kernel_rfl) hb9) ?_
    refine LG.next (by kernel_rfl) ?_
    refine CG.condF (by kernel_rfl) (by kernel_rfl) ?_
    refine CG.exit ?_
    show CG _ _ _ _ _ _ _ _
    refine CG.seq ?_
    refine CG.listed ?_
    refine LG.val 39 (.slice (some ⟨b1, 0, none⟩) ((lim a).length) ((lim a).length)) w6 (by kernel_rfl) (by kernel_rfl) (by kernel_rfl) ?_
    refine LG.call 40 48 #[.slice (some ⟨b1, 0, none⟩) ((lim a).length) ((lim a).length)] (by kernel_rfl) (by kernel_rfl) (by kernel_rfl) ?_
    obtain ⟨h13, hs, pw14, sg15, oth17⟩ := hs.pub 0 (Nat.le_of_ble_eq_true (by kernel_rfl))
    replace hA := hA.gw pw14
    replace hs := hs.to [] (by kernel_rfl)
    have hA16 : SlO 1 u32c 0 h13 (some ⟨b1, 0, none⟩) (l) := SlO.of_flat (fun _ => rfl) sg15
    have ct18 := rTrim (some ⟨b1, 0, none⟩) (l) ((lim a).length) (by omega) (by unfold Len; omega) w6 h13 hs.g hA16
    rw [hl] at ct18
    refine (ct18).mono ?_
    rintro _ w10 ⟨vu12, h11, rfl, u12, rfl⟩
    refine ⟨_, rfl, ?_⟩
    replace hs := hs.step u12
    replace hA := hA.gw u12.gr.gw
    replace hA16 := hA16.gw u12.gr.gw
    refine LG.val 41 (.int .u64 (r : Nat)) w10 (by kernel_rfl) (by kernel_rfl) (by kernel_rfl) ?_
    refine LG.val 42 (.int .u32 (r : Nat)) w10 (by kernel_rfl) (by kernel_rfl) (rint (n := IntKind.wrap .u32 ((r : Nat) : Int)) (by kernel_rfl) (fitU32 (by omega) (by omega))) ?_
    refine LG.val 4 (.slice (some ⟨b1, 0, none⟩) (tl l ((lim a).length)) ((lim a).length)) w10 (by kernel_rfl) (by kernel_rfl) (by kernel_rfl) ?_
    refine LG.val 5 (.int .u32 (r : Nat)) w10 (by kernel_rfl) (by kernel_rfl) (by kernel_rfl) ?_
    refine LG.next (by kernel_rfl) ?_
    refine CG.to [(4, .slice (some ⟨b1, 0, none⟩) (tl l ((lim a).length)) ((lim a).length)), (5, .int .u32 (r : Nat))] (by kernel_rfl) ?_
    refine CG.ret ?_
    obtain rfl : m = 0 := by omega
    have ha : a = b * nval l + r := by simpa [nval_lim] using hv
    have hq : nval l = a / b := by rw [ha, Nat.mul_add_div hb0, Nat.div_eq_of_lt hr, Nat.add_zero]
    have hrr : r = a % b := by rw [ha, Nat.mul_add_mod, Nat.mod_eq_of_lt hr]
    exact retP hs [] (.tuple #[.slice (some ⟨b1, 0, none⟩) (tl l ((lim a).length)) ((lim a).length), .int .u32 (r : Nat)]) (by kernel_rfl) (by kernel_rfl) (by rw [hrr]; exact ⟨_, rfl, hq ▸ hl ▸ RN.trim hx32 (by omega) hA16⟩)
  ·
    have phb9 := of_decide_eq_true hb9
    refine LG.val 16 (.bool true) w6 (by kernel_rfl) (by kernel_rfl) (rb (by kernel_rfl) hb9) ?_
    refine LG.next (by kernel_rfl) ?_
    refine CG.condT (by kernel_rfl) (by kernel_rfl) ?_
    refine CG.skipN ?_
    refine CG.seq ?_
    refine CG.block ?_
    refine CG.seq ?_
    refine CG.listed ?_
    refine LG.val 19 (.int .u64 (r : Nat)) w6 (by kernel_rfl) (by kernel_rfl) (by kernel_rfl) ?_
    refine LG.val 20 (.int .u64 (r * 4294967296 : Nat)) w6 (by kernel_rfl) (by kernel_rfl) (rint (n := IntKind.wrap .u64 (((r : Nat) : Int) * 4294967296)) (by kernel_rfl) ((fitU64 (by omega) (by omega)).trans (by omega))) ?_
    refine LG.val 21 (.slice A ((lim a).length) c) w6 (by kernel_rfl) (by kernel_rfl) (by kernel_rfl) ?_
    refine LG.val 22 (.int .i64 ((m : Nat) - 1)) w6 (by kernel_rfl) (by kernel_rfl) (by kernel_rfl) ?_
    refine LG.val 23 (.pointer (some ⟨(aB A), aO A + (m - 1) * 1, none⟩)) w6 (by kernel_rfl) (by kernel_rfl) (ixAddr (t := 41) (e := 100) (x := .tmp 21) (ix := .tmp 22) (A := A) (len := (lim a).length) (cap := c) (sz := 1) (i := (m : Nat) - 1) (m - 1) (by kernel_rfl) (by kernel_rfl) (by kernel_rfl) (by kernel_rfl) (by kernel_rfl) (hA.ok (by omega)) (by omega) (by omega) _) ?_
    refine LG.val 24 (.int .u32 ((lim a).getD (m - 1) 0 : Nat)) w6 (by kernel_rfl) (by kernel_rfl) (Seg.run (hA.el (m - 1) (by omega)) hs.g (Ext.refl _) (by kernel_rfl)) ?_
    refine LG.val 25 (.int .u64 ((lim a).getD (m - 1) 0 : Nat)) w6 (by kernel_rfl) (by kernel_rfl) (rint (n := IntKind.wrap .u64 (((lim a).getD (m - 1) 0 : Nat) : Int)) (by kernel_rfl) (fitU64 (by omega) (by omega))) ?_
    refine LG.val 26 (.int .u64 (r * 4294967296 + ((lim a).getD (m - 1) 0) : Nat)) w6 (by kernel_rfl) (by kernel_rfl) (opOrAdd (t := 54) (u := 54) (x := .tmp 20) (y := .tmp 25) (r := r) (b := ((lim a).getD (m - 1) 0)) (by kernel_rfl) (by kernel_rfl) (by kernel_rfl) (by omega) (by omega) _) ?_
    refine LG.val 7 (.int .u64 (r * 4294967296 + ((lim a).getD (m - 1) 0) : Nat)) w6 (by kernel_rfl) (by kernel_rfl) (by kernel_rfl) ?_
    refine LG.next (by kernel_rfl) ?_
    refine CG.to [(0, .slice A ((lim a).length) c), (1, .int .u32 (b : Nat)), (4, .slice none 0 0), (5, .int .u32 0), (6, .slice (some ⟨b1, 0, none⟩) ((lim a).length) ((lim a).length)), (8, .int .i64 ((m : Nat) - 1)), (7, .int .u64 (r * 4294967296 + ((lim a).getD (m - 1) 0) : Nat))] (by kernel_rfl) ?_
    refine CG.seq ?_
    refine CG.listed ?_
    refine LG.val 27 (.slice (some ⟨b1, 0, none⟩) ((lim a).length) ((lim a).length)) w6 (by kernel_rfl) (by kernel_rfl) (by kernel_rfl) ?_
    refine LG.val 28 (.int .i64 ((m : Nat) - 1)) w6 (by kernel_rfl) (by kernel_rfl) (by kernel_rfl) ?_
    refine LG.val 29 (.int .u64 (r * 4294967296 + ((lim a).getD (m - 1) 0) : Nat)) w6 (by kernel_rfl) (by kernel_rfl) (by kernel_rfl) ?_
    refine LG.val 30 (.int .u32 (b : Nat)) w6 (by kernel_rfl) (by kernel_rfl) (by kernel_rfl) ?_
    refine LG.val 31 (.int .u64 (b : Nat)) w6 (by kernel_rfl) (by kernel_rfl) (rint (n := IntKind.wrap .u64 ((b : Nat) : Int)) (by kernel_rfl) (fitU64 (by omega) (by omega))) ?_
    refine LG.val 32 (.int .u64 ((r * 4294967296 + ((lim a).getD (m - 1) 0) : Nat) / b : Nat)) w6 (by kernel_rfl) (by kernel_rfl) (rint (opQuo (t := 54) (u := 54) (x := .tmp 29) (y := .tmp 31) (k := .u64) (a := ((r * 4294967296 + ((lim a).getD (m - 1) 0) : Nat) : Int)) (b := ((b : Nat) : Int)) (by kernel_rfl) (by kernel_rfl) (by kernel_rfl) (by omega) _) (quoU64 (r * 4294967296 + ((lim a).getD (m - 1) 0) : Nat) b (by omega))) ?_
    refine LG.val 33 (.int .u32 ((r * 4294967296 + (lim a).getD (m - 1) 0) / b : Nat)) w6 (by kernel_rfl) (by kernel_rfl) (rint (n := IntKind.wrap .u32 (((r * 4294967296 + (lim a).getD (m - 1) 0) / b : Nat) : Int)) (by kernel_rfl) (fnU32 (one_fit hr hx))) ?_
    refine LG.val 34 (.pointer (some ⟨b1, 0 + (m - 1) * 1, none⟩)) w6 (by kernel_rfl) (by kernel_rfl) (ixAddr (t := 41) (e := 100) (x := .tmp 27) (ix := .tmp 28) (A := some ⟨b1, 0, none⟩) (len := ((lim a).length)) (cap := ((lim a).length)) (sz := 1) (i := (m : Nat) - 1) (m - 1) (by kernel_rfl) (by kernel_rfl) (by kernel_rfl) (by kernel_rfl) (by kernel_rfl) rfl (by omega) (by omega) _) ?_
    refine LG.putA 0 (l) u32c 1 (m - 1) ((r * 4294967296 + (lim a).getD (m - 1) 0) / b : Nat) hs g (by kernel_rfl) (by kernel_rfl) (by kernel_rfl) rfl (fun _ => rfl) (by omega) (by kernel_rfl) (fun w19 pu hs => ?_)
    have hl20 : ((l).set (m - 1) ((r * 4294967296 + (lim a).getD (m - 1) 0) / b : Nat)).length = ((lim a).length) := by rw [List.length_set]; exact hl
    refine LG.next (by kernel_rfl) ?_
    refine CG.to [(0, .slice A ((lim a).length) c), (1, .int .u32 (b : Nat)), (4, .slice none 0 0), (5, .int .u32 0), (6, .slice (some ⟨b1, 0, none⟩) ((lim a).length) ((lim a).length)), (8, .int .i64 ((m : Nat) - 1)), (7, .int .u64 (r * 4294967296 + ((lim a).getD (m - 1) 0) : Nat))] (by kernel_rfl) ?_
    refine CG.listed ?_
    refine LG.val 35 (.int .u64 (r * 4294967296 + ((lim a).getD (m - 1) 0) : Nat)) w19 (by kernel_rfl) (by kernel_rfl) (by kernel_rfl) ?_
    refine LG.val 36 (.int .u32 (b : Nat)) w19 (by kernel_rfl) (by kernel_rfl) (by kernel_rfl) ?_
    refine LG.val 37 (.int .u64 (b : Nat)) w19 (by kernel_rfl) (by kernel_rfl) (rint (n := IntKind.wrap .u64 ((b : Nat) : Int)) (by kernel_rfl) (fitU64 (by omega) (by omega))) ?_
    refine LG.val 38 (.int .u64 ((r * 4294967296 + ((lim a).getD (m - 1) 0) : Nat) % b : Nat)) w19 (by kernel_rfl) (by kernel_rfl) (rint (opRem (t := 54) (u := 54) (x := .tmp 35) (y := .tmp 37) (k := .u64) (a := ((r * 4294967296 + ((lim a).getD (m - 1) 0) : Nat) : Int)) (b := ((b : Nat) : Int)) (by kernel_rfl) (by kernel_rfl) (by kernel_rfl) (by omega) _) (tmodNat (r * 4294967296 + ((lim a).getD (m - 1) 0) : Nat) b)) ?_
    refine LG.val 7 (.int .u64 ((r * 4294967296 + ((lim a).getD (m - 1) 0) : Nat) % b : Nat)) w19 (by kernel_rfl) (by kernel_rfl) (by kernel_rfl) ?_
    refine LG.next (by kernel_rfl) ?_
    refine CG.listed ?_
    refine LG.val 17 (.int .i64 ((m : Nat) - 1)) w19 (by kernel_rfl) (by kernel_rfl) (by kernel_rfl) ?_
    refine LG.val 18 (.int .i64 (((m : Nat) - 1) - 1)) w19 (by kernel_rfl) (by kernel_rfl) (ri64 (by kernel_rfl) (by omega) (by omega)) ?_
    refine LG.val 8 (.int .i64 (((m : Nat) - 1) - 1)) w19 (by kernel_rfl) (by kernel_rfl) (by kernel_rfl) ?_
    refine LG.done (by kernel_rfl) ?_
    intro a_ ka
    rw [show ((m : Nat) : Int) - 1 - 1 = ((m - 1 : Nat) : Int) - 1 by omega] at ka
    refine ⟨_, _, ?_, ⟨m - 1, (r * 4294967296 + (lim a).getD (m - 1) 0) % b, l.set (m - 1) ((r * 4294967296 + (lim a).getD (m - 1) 0) / b), h7, rfl, rfl, hs.to _ (by kernel_rfl), hA, by omega, Nat.mod_lt _ hb0, by rw [List.length_set]; exact hl, mem_set_lt hx32 (one_fit hr hx), one_step hm (by omega) hl hv⟩, ka.to [(0, .slice A ((lim a).length) c), (1, .int .u32 (b : Nat)), (4, .slice none 0 0), (5, .int .u32 0), (6, .slice (some ⟨b1, 0, none⟩) ((lim a).length) ((lim a).length)), (8, .int .i64 (((m - 1) : Nat) - 1)), (7, .int .u64 (((r * 4294967296 + (lim a).getD (m - 1) 0) % b) : Nat))] (by kernel_rfl)⟩
    omega


theorem cmpN_neg {a b : Nat} (h : cmpN a b < 0) : a < b := by unfold cmpN at h; split at h; assumption; split at h <;> omega
theorem cmpN_nneg {a b : Nat} (h : ¬ cmpN a b < 0) : b ≤ a := by unfold cmpN at h; split at h; omega; omega
theorem RN.nil {h : Hp} : RN h (.slice none 0 0) 0 := ⟨none, 0, rfl, Nat.le_refl _, SlO.nil⟩

set_option maxRecDepth 100000 in
set_option maxHeartbeats 600000 in
theorem rNatDiv (a : Nat) (A : Option Addr) (c : Nat) (hc : (lim a).length ≤ c) (b : Nat) (D : Option Addr) (d : Nat) (hd : (lim b).length ≤ d) (hLa : Len (lim a).length) (hb0 : 0 < b) (hb1 : b < 4294967296) (w : World) (h : Hp) (g : G w h) (hA : SlO 1 u32c 0 h A (lim a)) (hD : SlO 1 u32c 0 h D (lim b)) :
    Calls Tryz.prog 79 #[.slice A ((lim a).length) c, .slice D ((lim b).length) d] w (Ret w h fun v h => ∃ q r, v = .tuple #[q, r] ∧ RN h q (a / b) ∧ RN h r (a % b)) := by
  have hs := St.start g
  have hbl : lim b = [b] := lim_one hb0 hb1
  have hlb : (lim b).length = 1 := by rw [hbl]; rfl
  have hg : (lim b).getD 0 0 = b := by rw [hbl]; rfl
  have hmod : a % b < b := Nat.mod_lt _ hb0
  have hLb : Len (lim b).length := by unfold Len; omega
  refine enter (n := 258) Tryz.func79 rfl rfl (Nat.le_of_ble_eq_true (by kernel_rfl)) [(0, .slice A ((lim a).length) c), (1, .slice D ((lim b).length) d)] rfl ?_
  refine CG.seq ?_
  refine CG.listed ?_
  refine LG.val 4 (.slice none 0 0) w (by kernel_rfl) (by kernel_rfl) (by kernel_rfl) ?_
  refine LG.val 5 (.slice none 0 0) w (by kernel_rfl) (by kernel_rfl) (by kernel_rfl) ?_
  refine LG.next (by kernel_rfl) ?_
  refine CG.seq ?_
  refine CG.seq ?_
  refine CG.listed ?_
  refine LG.val 25 (.slice A ((lim a).length) c) w (by kernel_rfl) (by kernel_rfl) (by kernel_rfl) ?_
  refine LG.val 26 (.slice D ((lim b).length) d) w (by kernel_rfl) (by kernel_rfl) (by kernel_rfl) ?_
  refine LG.call 27 75 #[.slice A ((lim a).length) c, .slice D ((lim b).length) d] (by kernel_rfl) (by kernel_rfl) (by kernel_rfl) ?_
  refine (rNatCmp a A c hc b D d hd hLa hLb w h hs.g hA hD).mono ?_
  rintro _ w1 ⟨vu3, h2, rfl, u3, rfl⟩
  refine ⟨_, rfl, ?_⟩
  replace hs := hs.step u3
  replace hA := hA.gw u3.gr.gw
  replace hD := hD.gw u3.gr.gw
  cases hb4 : (decide ((cmpN a b : Int) < (0 : Int)))
  ·
    have phb4 := of_decide_eq_false hb4
    refine LG.val 28 (.bool false) w1 (by kernel_rfl) (by kernel_rfl) (rb (by kernel_rfl) hb4) ?_
    refine LG.next (by kernel_rfl) ?_
    refine CG.condF (by kernel_rfl) (by kernel_rfl) ?_
    refine CG.skipN ?_
    refine CG.seq ?_
    refine CG.seq ?_
    refine CG.listed ?_
    refine LG.val 30 (.slice D ((lim b).length) d) w1 (by kernel_rfl) (by kernel_rfl) (by kernel_rfl) ?_
    refine LG.val 31 (.int .i64 ((lim b).length : Nat)) w1 (by kernel_rfl) (by kernel_rfl) (by kernel_rfl) ?_
    have hb5 : ((((lim b).length : Nat) : Int) == (1 : Int)) = true := (by rw [hlb]; rfl)
    have phb5 := eq_of_beq hb5
    refine LG.val 32 (.bool true) w1 (by kernel_rfl) (by kernel_rfl) (rb (by kernel_rfl) hb5) ?_
    refine LG.next (by kernel_rfl) ?_
    refine CG.condT (by kernel_rfl) (by kernel_rfl) ?_
    refine CG.seq ?_
    refine CG.listed ?_
    refine LG.val 34 (.slice A ((lim a).length) c) w1 (by kernel_rfl) (by kernel_rfl) (by kernel_rfl) ?_
    refine LG.val 35 (.slice D ((lim b).length) d) w1 (by kernel_rfl) (by kernel_rfl) (by kernel_rfl) ?_
    refine LG.val 36 (.pointer (some ⟨(aB D), aO D + 0 * 1, none⟩)) w1 (by kernel_rfl) (by kernel_rfl) (ixAddr (t := 41) (e := 100) (x := .tmp 35) (ix := .const (.int .i64 0)) (A := D) (len := (lim b).length) (cap := d) (sz := 1) (i := 0) 0 (by kernel_rfl) (by kernel_rfl) (by kernel_rfl) (by kernel_rfl) (by kernel_rfl) (hD.ok (by omega)) (by omega) (by omega) _) ?_
    refine LG.val 37 (.int .u32 (b : Nat)) w1 (by kernel_rfl) (by kernel_rfl) (rint (n := ((lim b).getD 0 0 : Nat)) (Seg.run (hD.el 0 (by omega)) hs.g (Ext.refl _) (by kernel_rfl)) (by rw [hg])) ?_
    refine LG.call 38 100 #[.slice A ((lim a).length) c, .int .u32 (b : Nat)] (by kernel_rfl) (by kernel_rfl) (by kernel_rfl) ?_
    refine (rOne a A c hc hLa b (by omega) (by omega) w1 h2 hs.g hA).mono ?_
    rintro _ w10 ⟨vu12, h11, rfl, u12, ⟨_, rfl, A6, c7, rfl, hc8, hA9⟩⟩
    refine ⟨_, rfl, ?_⟩
    replace hs := hs.step u12
    replace hA := hA.gw u12.gr.gw
    replace hD := hD.gw u12.gr.gw
    refine LG.val 33 (.tuple #[.slice A6 ((lim (a / b)).length) c7, .int .u32 (a % b : Nat)]) w10 (by kernel_rfl) (by kernel_rfl) (by kernel_rfl) ?_
    refine LG.val 39 (.slice A6 ((lim (a / b)).length) c7) w10 (by kernel_rfl) (by kernel_rfl) (by kernel_rfl) ?_
    refine LG.val 40 (.int .u32 (a % b : Nat)) w10 (by kernel_rfl) (by kernel_rfl) (by kernel_rfl) ?_
    refine LG.val 6 (.slice A6 ((lim (a / b)).length) c7) w10 (by kernel_rfl) (by kernel_rfl) (by kernel_rfl) ?_
    refine LG.val 7 (.int .u32 (a % b : Nat)) w10 (by kernel_rfl) (by kernel_rfl) (by kernel_rfl) ?_
    refine LG.next (by kernel_rfl) ?_
    refine CG.to [(0, .slice A ((lim a).length) c), (1, .slice D ((lim b).length) d), (4, .slice none 0 0), (5, .slice none 0 0), (6, .slice A6 ((lim (a / b)).length) c7), (7, .int .u32 (a % b : Nat))] (by kernel_rfl) ?_
    refine CG.seq ?_
    refine CG.listed ?_
    refine LG.val 41 (.slice A6 ((lim (a / b)).length) c7) w10 (by kernel_rfl) (by kernel_rfl) (by kernel_rfl) ?_
    refine LG.val 42 (.int .u32 (a % b : Nat)) w10 (by kernel_rfl) (by kernel_rfl) (by kernel_rfl) ?_
    refine LG.val 43 (.int .u64 (a % b : Nat)) w10 (by kernel_rfl) (by kernel_rfl) (rint (n := IntKind.wrap .u64 ((a % b : Nat) : Int)) (by kernel_rfl) (fitU64 (by omega) (by omega))) ?_
    refine LG.call 44 29 #[.int .u64 (a % b : Nat)] (by kernel_rfl) (by kernel_rfl) (by kernel_rfl) ?_
    refine (rNatOf ((a % b)) (by omega) w10 h11 hs.g).mono ?_
    rintro _ w17 ⟨vu19, h18, rfl, u19, ⟨A13, c14, rfl, hc15, hA16⟩⟩
    refine ⟨_, rfl, ?_⟩
    replace hs := hs.step u19
    replace hA := hA.gw u19.gr.gw
    replace hD := hD.gw u19.gr.gw
    replace hA9 := hA9.gw u19.gr.gw
    refine LG.val 4 (.slice A6 ((lim (a / b)).length) c7) w17 (by kernel_rfl) (by kernel_rfl) (by kernel_rfl) ?_
    refine LG.val 5 (.slice A13 ((lim (a % b)).length) c14) w17 (by kernel_rfl) (by kernel_rfl) (by kernel_rfl) ?_
    refine LG.next (by kernel_rfl) ?_
    refine CG.ret ?_
    exact retP hs [] (.tuple #[.slice A6 ((lim (a / b)).length) c7, .slice A13 ((lim (a % b)).length) c14]) (by kernel_rfl) (by kernel_rfl) ⟨_, _, rfl, ⟨_, _, rfl, hc8, hA9⟩, ⟨_, _, rfl, hc15, hA16⟩⟩
  ·
    have phb4 := of_decide_eq_true hb4
    refine LG.val 28 (.bool true) w1 (by kernel_rfl) (by kernel_rfl) (rb (by kernel_rfl) hb4) ?_
    refine LG.next (by kernel_rfl) ?_
    refine CG.condT (by kernel_rfl) (by kernel_rfl) ?_
    refine CG.seq ?_
    refine CG.listed ?_
    refine LG.val 29 (.slice A ((lim a).length) c) w1 (by kernel_rfl) (by kernel_rfl) (by kernel_rfl) ?_
    refine LG.val 4 (.slice none 0 0) w1 (by kernel_rfl) (by kernel_rfl) (by kernel_rfl) ?_
    refine LG.val 5 (.slice A ((lim a).length) c) w1 (by kernel_rfl) (by kernel_rfl) (by kernel_rfl) ?_
    refine LG.next (by kernel_rfl) ?_
    refine CG.ret ?_
    exact retP hs [] (.tuple #[.slice none 0 0, .slice A ((lim a).length) c]) (by kernel_rfl) (by kernel_rfl) ⟨_, _, rfl, by rw [Nat.div_eq_of_lt (cmpN_neg ‹_›)]; exact RN.nil, by rw [Nat.mod_eq_of_lt (cmpN_neg ‹_›)]; exact ⟨_, _, rfl, hc, hA⟩⟩

set_option maxRecDepth 100000 in
set_option maxHeartbeats 600000 in
theorem rNatGcd (a : Nat) (A : Option Addr) (c : Nat) (hc : (lim a).length ≤ c) (hLa : Len (lim a).length) (b : Nat) (D : Option Addr) (d : Nat) (hd : (lim b).length ≤ d) (hb1 : b < 4294967296) (w : World) (h : Hp) (g : G w h) (hA : SlO 1 u32c 0 h A (lim a)) (hD : SlO 1 u32c 0 h D (lim b)) :
    Calls Tryz.prog 78 #[.slice A ((lim a).length) c, .slice D ((lim b).length) d] w (Ret w h fun v h => RN h v (Nat.gcd a b)) := by
  have hs := St.start g
  refine enter (n := 19) Tryz.func78 rfl rfl (Nat.le_of_ble_eq_true (by kernel_rfl)) [(0, .slice A ((lim a).length) c), (1, .slice D ((lim b).length) d)] rfl ?_
  refine CG.seq ?_
  refine CG.listed ?_
  refine LG.val 4 (.slice none 0 0) w (by kernel_rfl) (by kernel_rfl) (by kernel_rfl) ?_
  refine LG.next (by kernel_rfl) ?_
  refine CG.seq ?_
  refine CG.block ?_
  refine CG.to [(4, .slice none 0 0), (0, .slice A ((lim a).length) c), (1, .slice D ((lim b).length) d)] (by kernel_rfl) ?_
  refine CG.loop (fun μ_ Γ w_ => ∃ (x : Nat) (Ax : Option Addr) (cx : Nat) (y : Nat) (Ay : Option Addr) (cy : Nat) (h_ : Hp), μ_ = y ∧ Γ = [(4, .slice none 0 0), (0, .slice Ax ((lim x).length) cx), (1, .slice Ay ((lim y).length) cy)] ∧ St w h w_ h_ [] ∧ ((lim x).length ≤ cx) ∧ ((lim y).length ≤ cy) ∧ (SlO 1 u32c 0 h_ Ax (lim x)) ∧ (SlO 1 u32c 0 h_ Ay (lim y)) ∧ (y < 4294967296) ∧ (Nat.gcd x y = Nat.gcd a b) ∧ (Len (lim x).length)) _ ⟨a, A, c, b, D, d, h, rfl, rfl, hs.to _ (by kernel_rfl), hc, hd, hA, hD, hb1, rfl, hLa⟩ ?_
  rintro _ _ w1 ⟨x, Ax, cx, y, Ay, cy, h2, hm3, rfl, hs, hcx, hcy, hAx, hAy, hy, hgc, hLx⟩
  have hpy := @lim_pos y
  -- round
  refine CG.seq ?_
  refine CG.seq ?_
  refine CG.listed ?_
  refine LG.val 7 (.slice Ay ((lim y).length) cy) w1 (by kernel_rfl) (by kernel_rfl) (by kernel_rfl) ?_
  refine LG.val 8 (.int .i64 ((lim y).length : Nat)) w1 (by kernel_rfl) (by kernel_rfl) (by kernel_rfl) ?_
  cases hb4 : (decide ((0 : Int) < (((lim y).length : Nat) : Int)))
  ·
    have phb4 := of_decide_eq_false hb4
    refine LG.val 9 (.bool false) w1 (by kernel_rfl) (by kernel_rfl) (rb (by kernel_rfl) hb4) ?_
    refine LG.next (by kernel_rfl) ?_
    refine CG.condF (by kernel_rfl) (by kernel_rfl) ?_
    refine CG.exit ?_
    show CG _ _ _ _ _ _ _ _
    refine CG.seq ?_
    refine CG.listed ?_
    refine LG.val 18 (.slice Ax ((lim x).length) cx) w1 (by kernel_rfl) (by kernel_rfl) (by kernel_rfl) ?_
    refine LG.val 4 (.slice Ax ((lim x).length) cx) w1 (by kernel_rfl) (by kernel_rfl) (by kernel_rfl) ?_
    refine LG.next (by kernel_rfl) ?_
    refine CG.ret ?_
    have hy0 : y = 0 := by omega
    exact retP hs [] (.slice Ax ((lim x).length) cx) (by kernel_rfl) (by kernel_rfl) (by rw [← hgc, hy0, Nat.gcd_zero_right]; exact ⟨_, _, rfl, hcx, hAx⟩)
  ·
    have phb4 := of_decide_eq_true hb4
    refine LG.val 9 (.bool true) w1 (by kernel_rfl) (by kernel_rfl) (rb (by kernel_rfl) hb4) ?_
    refine LG.next (by kernel_rfl) ?_
    refine CG.condT (by kernel_rfl) (by kernel_rfl) ?_
    refine CG.skipN ?_
    refine CG.block ?_
    refine CG.seq ?_
    refine CG.listed ?_
    refine LG.val 11 (.slice Ax ((lim x).length) cx) w1 (by kernel_rfl) (by kernel_rfl) (by kernel_rfl) ?_
    refine LG.val 12 (.slice Ay ((lim y).length) cy) w1 (by kernel_rfl) (by kernel_rfl) (by kernel_rfl) ?_
    refine LG.call 13 79 #[.slice Ax ((lim x).length) cx, .slice Ay ((lim y).length) cy] (by kernel_rfl) (by kernel_rfl) (by kernel_rfl) ?_
    refine (rNatDiv x Ax cx hcx y Ay cy hcy hLx (by omega) (by omega) w1 h2 hs.g hAx hAy).mono ?_
    rintro _ w13 ⟨vu15, h14, rfl, u15, ⟨_, _, rfl, ⟨A5, c6, rfl, hc7, hA8⟩, ⟨A9, c10, rfl, hc11, hA12⟩⟩⟩
    refine ⟨_, rfl, ?_⟩
    replace hs := hs.step u15
    replace hAx := hAx.gw u15.gr.gw
    replace hAy := hAy.gw u15.gr.gw
    refine LG.val 10 (.tuple #[.slice A5 ((lim (x / y)).length) c6, .slice A9 ((lim (x % y)).length) c10]) w13 (by kernel_rfl) (by kernel_rfl) (by kernel_rfl) ?_
    refine LG.val 14 (.slice A5 ((lim (x / y)).length) c6) w13 (by kernel_rfl) (by kernel_rfl) (by kernel_rfl) ?_
    refine LG.val 15 (.slice A9 ((lim (x % y)).length) c10) w13 (by kernel_rfl) (by kernel_rfl) (by kernel_rfl) ?_
    refine LG.val 5 (.slice A5 ((lim (x / y)).length) c6) w13 (by kernel_rfl) (by kernel_rfl) (by kernel_rfl) ?_
    refine LG.val 6 (.slice A9 ((lim (x % y)).length) c10) w13 (by kernel_rfl) (by kernel_rfl) (by kernel_rfl) ?_
    refine LG.next (by kernel_rfl) ?_
    refine CG.to [(4, .slice none 0 0), (0, .slice Ax ((lim x).length) cx), (1, .slice Ay ((lim y).length) cy), (6, .slice A9 ((lim (x % y)).length) c10)] (by kernel_rfl) ?_
    refine CG.seq ?_
    refine CG.listed ?_
    refine LG.val 16 (.slice Ay ((lim y).length) cy) w13 (by kernel_rfl) (by kernel_rfl) (by kernel_rfl) ?_
    refine LG.val 0 (.slice Ay ((lim y).length) cy) w13 (by kernel_rfl) (by kernel_rfl) (by kernel_rfl) ?_
    refine LG.next (by kernel_rfl) ?_
    refine CG.listed ?_
    refine LG.val 17 (.slice A9 ((lim (x % y)).length) c10) w13 (by kernel_rfl) (by kernel_rfl) (by kernel_rfl) ?_
    refine LG.val 1 (.slice A9 ((lim (x % y)).length) c10) w13 (by kernel_rfl) (by kernel_rfl) (by kernel_rfl) ?_
    refine LG.done (by kernel_rfl) ?_
    have hy0 : 0 < y := by omega
    have hm3 := Nat.mod_lt x hy0
    intro a_ ka
    refine ⟨_, _, ?_, ⟨y, Ay, cy, x % y, A9, c10, h14, rfl, rfl, hs.to _ (by kernel_rfl), hcy, hc11, hAy, hA12, by omega, by rw [← hgc, Nat.gcd_comm x y, Nat.gcd_rec y x, Nat.gcd_comm], (by unfold Len; rw [lim_one hy0 hy]; simp)⟩, ka.to [(4, .slice none 0 0), (0, .slice Ay ((lim y).length) cy), (1, .slice A9 ((lim (x % y)).length) c10)] (by kernel_rfl)⟩
    omega


theorem mk_num (z e : Int) (he : 0 < e) : sgn (ineg z != ineg e) (iabs z / Nat.gcd (iabs z) (iabs e)) = (mkRat z (iabs e)).num := by
  obtain ⟨p1, p2, p3, p4⟩ := mkRat_parts z (iabs e) (by unfold iabs; omega)
  rw [p1, ← sgn_part z _ p3]
  congr 1
  have : ineg e = false := by unfold ineg; exact decide_eq_false (by omega)
  rw [this]
  unfold ineg
  rcases Int.lt_trichotomy z 0 with h | h | h
  · rw [Int.sign_eq_neg_one_of_neg h]; simp [h]
  · subst h; decide
  · rw [Int.sign_eq_one_of_pos h]; simp; omega
theorem mk_den (z e : Int) (he : 0 < e) : iabs e / Nat.gcd (iabs z) (iabs e) = (mkRat z (iabs e)).den := ((mkRat_parts z (iabs e) (by unfold iabs; omega)).2.1).symm

set_option maxRecDepth 100000 in
set_option maxHeartbeats 600000 in
theorem rMake0 (z : Int) (A : Option Addr) (c : Nat) (hc : (lim (iabs z)).length ≤ c) (e : Int) (D : Option Addr) (d : Nat) (hd : (lim (iabs e)).length ≤ d) (hLa : Len (lim (iabs z)).length) (he : 0 < e) (he1 : iabs e < 4294967296) (w : World) (h : Hp) (g : G w h) (hA : SlO 1 u32c 0 h A (lim (iabs z))) (hD : SlO 1 u32c 0 h D (lim (iabs e))) :
    Calls Tryz.prog 49 #[.agg #[.bool (ineg z), .slice A ((lim (iabs z)).length) c], .agg #[.bool (ineg e), .slice D ((lim (iabs e)).length) d]] w (Ret w h fun v h => RP h v (sgn (ineg z != ineg e) (iabs z / Nat.gcd (iabs z) (iabs e))) (iabs e / Nat.gcd (iabs z) (iabs e))) := by
  have hs := St.start g
  have hg0 : 0 < Nat.gcd (iabs z) (iabs e) := Nat.gcd_pos_of_pos_right _ (by unfold iabs; omega)
  have hg1 : Nat.gcd (iabs z) (iabs e) ≤ iabs e := Nat.le_of_dvd (by unfold iabs; omega) (Nat.gcd_dvd_right _ _)
  have hLe : Len (lim (iabs e)).length := by unfold Len; rw [lim_one (by unfold iabs; omega) he1]; simp
  refine enter (n := 38) Tryz.func49 rfl rfl (Nat.le_of_ble_eq_true (by kernel_rfl)) [(0, .agg #[.bool (ineg z), .slice A ((lim (iabs z)).length) c]), (1, .agg #[.bool (ineg e), .slice D ((lim (iabs e)).length) d])] rfl ?_
  refine CG.seq ?_
  refine CG.listed ?_
  refine LG.var 2 43 ([.bool (ineg z), .slice A ((lim (iabs z)).length) c]) hs (by kernel_rfl) (by kernel_rfl) (by kernel_rfl) (fun b1 w2 h3 nb_ u4 hs => ?_)
  replace hA := hA.gw u4.gr.gw
  replace hD := hD.gw u4.gr.gw
  refine LG.var 3 43 ([.bool (ineg e), .slice D ((lim (iabs e)).length) d]) hs (by kernel_rfl) (by kernel_rfl) (by kernel_rfl) (fun b5 w6 h7 nb_ u8 hs => ?_)
  replace hA := hA.gw u8.gr.gw
  replace hD := hD.gw u8.gr.gw
  refine LG.var 4 45 ([.bool false, .slice none 0 0, .slice none 0 0]) hs (by kernel_rfl) (by kernel_rfl) (by kernel_rfl) (fun b9 w10 h11 nb_ u12 hs => ?_)
  replace hA := hA.gw u12.gr.gw
  replace hD := hD.gw u12.gr.gw
  refine LG.next (by kernel_rfl) ?_
  refine CG.seq ?_
  refine CG.listed ?_
  refine LG.val 10 (.pointer (some ⟨b1, 1, none⟩)) w10 (by kernel_rfl) (by kernel_rfl) (by kernel_rfl) ?_
  refine LG.own 11 [(2, 1, 1)] (.slice A ((lim (iabs z)).length) c) hs (by kernel_rfl) (by kernel_rfl) (by kernel_rfl) (by kernel_rfl) ?_
  refine LG.val 12 (.pointer (some ⟨b5, 1, none⟩)) w10 (by kernel_rfl) (by kernel_rfl) (by kernel_rfl) ?_
  refine LG.own 13 [(1, 1, 1)] (.slice D ((lim (iabs e)).length) d) hs (by kernel_rfl) (by kernel_rfl) (by kernel_rfl) (by kernel_rfl) ?_
  refine LG.call 14 78 #[.slice A ((lim (iabs z)).length) c, .slice D ((lim (iabs e)).length) d] (by kernel_rfl) (by kernel_rfl) (by kernel_rfl) ?_
  refine (rNatGcd (iabs z) A c hc hLa (iabs e) D d hd (by omega) w10 h11 hs.g hA hD).mono ?_
  rintro _ w17 ⟨vu19, h18, rfl, u19, ⟨A13, c14, rfl, hc15, hA16⟩⟩
  refine ⟨_, rfl, ?_⟩
  replace hs := hs.step u19
  replace hA := hA.gw u19.gr.gw
  replace hD := hD.gw u19.gr.gw
  refine LG.val 5 (.slice A13 ((lim (Nat.gcd (iabs z) (iabs e))).length) c14) w17 (by kernel_rfl) (by kernel_rfl) (by kernel_rfl) ?_
  refine LG.next (by kernel_rfl) ?_
  refine CG.to [(2, .pointer (some ⟨b1, 0, none⟩)), (3, .pointer (some ⟨b5, 0, none⟩)), (4, .pointer (some ⟨b9, 0, none⟩)), (5, .slice A13 ((lim (Nat.gcd (iabs z) (iabs e))).length) c14)] (by kernel_rfl) ?_
  refine CG.seq ?_
  refine CG.listed ?_
  refine LG.val 16 (.pointer (some ⟨b1, 1, none⟩)) w17 (by kernel_rfl) (by kernel_rfl) (by kernel_rfl) ?_
  refine LG.own 17 [(2, 1, 1)] (.slice A ((lim (iabs z)).length) c) hs (by kernel_rfl) (by kernel_rfl) (by kernel_rfl) (by kernel_rfl) ?_
  refine LG.val 18 (.slice A13 ((lim (Nat.gcd (iabs z) (iabs e))).length) c14) w17 (by kernel_rfl) (by kernel_rfl) (by kernel_rfl) ?_
  refine LG.call 19 79 #[.slice A ((lim (iabs z)).length) c, .slice A13 ((lim (Nat.gcd (iabs z) (iabs e))).length) c14] (by kernel_rfl) (by kernel_rfl) (by kernel_rfl) ?_
  refine (rNatDiv (iabs z) A c hc (Nat.gcd (iabs z) (iabs e)) A13 c14 hc15 hLa (by omega) (by omega) w17 h18 hs.g hA hA16).mono ?_
  rintro _ w28 ⟨vu30, h29, rfl, u30, ⟨_, _, rfl, ⟨A20, c21, rfl, hc22, hA23⟩, ⟨A24, c25, rfl, hc26, hA27⟩⟩⟩
  refine ⟨_, rfl, ?_⟩
  replace hs := hs.step u30
  replace hA := hA.gw u30.gr.gw
  replace hD := hD.gw u30.gr.gw
  replace hA16 := hA16.gw u30.gr.gw
  refine LG.val 15 (.tuple #[.slice A20 ((lim ((iabs z) / (Nat.gcd (iabs z) (iabs e)))).length) c21, .slice A24 ((lim ((iabs z) % (Nat.gcd (iabs z) (iabs e)))).length) c25]) w28 (by kernel_rfl) (by kernel_rfl) (by kernel_rfl) ?_
  refine LG.val 20 (.slice A20 ((lim ((iabs z) / (Nat.gcd (iabs z) (iabs e)))).length) c21) w28 (by kernel_rfl) (by kernel_rfl) (by kernel_rfl) ?_
  refine LG.val 21 (.slice A24 ((lim ((iabs z) % (Nat.gcd (iabs z) (iabs e)))).length) c25) w28 (by kernel_rfl) (by kernel_rfl) (by kernel_rfl) ?_
  refine LG.val 6 (.slice A20 ((lim ((iabs z) / (Nat.gcd (iabs z) (iabs e)))).length) c21) w28 (by kernel_rfl) (by kernel_rfl) (by kernel_rfl) ?_
  refine LG.val 7 (.slice A24 ((lim ((iabs z) % (Nat.gcd (iabs z) (iabs e)))).length) c25) w28 (by kernel_rfl) (by kernel_rfl) (by kernel_rfl) ?_
  refine LG.next (by kernel_rfl) ?_
  refine CG.to [(2, .pointer (some ⟨b1, 0, none⟩)), (3, .pointer (some ⟨b5, 0, none⟩)), (4, .pointer (some ⟨b9, 0, none⟩)), (5, .slice A13 ((lim (Nat.gcd (iabs z) (iabs e))).length) c14), (6, .slice A20 ((lim ((iabs z) / (Nat.gcd (iabs z) (iabs e)))).length) c21)] (by kernel_rfl) ?_
  refine CG.seq ?_
  refine CG.listed ?_
  refine LG.val 23 (.pointer (some ⟨b5, 1, none⟩)) w28 (by kernel_rfl) (by kernel_rfl) (by kernel_rfl) ?_
  refine LG.own 24 [(1, 1, 1)] (.slice D ((lim (iabs e)).length) d) hs (by kernel_rfl) (by kernel_rfl) (by kernel_rfl) (by kernel_rfl) ?_
  refine LG.val 25 (.slice A13 ((lim (Nat.gcd (iabs z) (iabs e))).length) c14) w28 (by kernel_rfl) (by kernel_rfl) (by kernel_rfl) ?_
  refine LG.call 26 79 #[.slice D ((lim (iabs e)).length) d, .slice A13 ((lim (Nat.gcd (iabs z) (iabs e))).length) c14] (by kernel_rfl) (by kernel_rfl) (by kernel_rfl) ?_
  refine (rNatDiv (iabs e) D d hd (Nat.gcd (iabs z) (iabs e)) A13 c14 hc15 hLe (by omega) (by omega) w28 h29 hs.g hD hA16).mono ?_
  rintro _ w39 ⟨vu41, h40, rfl, u41, ⟨_, _, rfl, ⟨A31, c32, rfl, hc33, hA34⟩, ⟨A35, c36, rfl, hc37, hA38⟩⟩⟩
  refine ⟨_, rfl, ?_⟩
  replace hs := hs.step u41
  replace hA := hA.gw u41.gr.gw
  replace hD := hD.gw u41.gr.gw
  replace hA16 := hA16.gw u41.gr.gw
  replace hA23 := hA23.gw u41.gr.gw
  replace hA27 := hA27.gw u41.gr.gw
  refine LG.val 22 (.tuple #[.slice A31 ((lim ((iabs e) / (Nat.gcd (iabs z) (iabs e)))).length) c32, .slice A35 ((lim ((iabs e) % (Nat.gcd (iabs z) (iabs e)))).length) c36]) w39 (by kernel_rfl) (by kernel_rfl) (by kernel_rfl) ?_
  refine LG.val 27 (.slice A31 ((lim ((iabs e) / (Nat.gcd (iabs z) (iabs e)))).length) c32) w39 (by kernel_rfl) (by kernel_rfl) (by kernel_rfl) ?_
  refine LG.val 28 (.slice A35 ((lim ((iabs e) % (Nat.gcd (iabs z) (iabs e)))).length) c36) w39 (by kernel_rfl) (by kernel_rfl) (by kernel_rfl) ?_
  refine LG.val 8 (.slice A31 ((lim ((iabs e) / (Nat.gcd (iabs z) (iabs e)))).length) c32) w39 (by kernel_rfl) (by kernel_rfl) (by kernel_rfl) ?_
  refine LG.val 9 (.slice A35 ((lim ((iabs e) % (Nat.gcd (iabs z) (iabs e)))).length) c36) w39 (by kernel_rfl) (by kernel_rfl) (by kernel_rfl) ?_
  refine LG.next (by kernel_rfl) ?_
  refine CG.to [(2, .pointer (some ⟨b1, 0, none⟩)), (3, .pointer (some ⟨b5, 0, none⟩)), (4, .pointer (some ⟨b9, 0, none⟩)), (6, .slice A20 ((lim ((iabs z) / (Nat.gcd (iabs z) (iabs e)))).length) c21), (8, .slice A31 ((lim ((iabs e) / (Nat.gcd (iabs z) (iabs e)))).length) c32)] (by kernel_rfl) ?_
  refine CG.seq ?_
  refine CG.listed ?_
  refine LG.val 29 (.pointer (some ⟨b1, 0, none⟩)) w39 (by kernel_rfl) (by kernel_rfl) (by kernel_rfl) ?_
  refine LG.own 30 [(2, 0, 1)] (.bool (ineg z)) hs (by kernel_rfl) (by kernel_rfl) (by kernel_rfl) (by kernel_rfl) ?_
  refine LG.val 31 (.pointer (some ⟨b5, 0, none⟩)) w39 (by kernel_rfl) (by kernel_rfl) (by kernel_rfl) ?_
  refine LG.own 32 [(1, 0, 1)] (.bool (ineg e)) hs (by kernel_rfl) (by kernel_rfl) (by kernel_rfl) (by kernel_rfl) ?_
  refine LG.val 33 (.bool ((ineg z) != (ineg e))) w39 (by kernel_rfl) (by kernel_rfl) (by kernel_rfl) ?_
  refine LG.val 34 (.slice A20 ((lim ((iabs z) / (Nat.gcd (iabs z) (iabs e)))).length) c21) w39 (by kernel_rfl) (by kernel_rfl) (by kernel_rfl) ?_
  refine LG.call 35 47 #[.bool ((ineg z) != (ineg e)), .slice A20 ((lim ((iabs z) / (Nat.gcd (iabs z) (iabs e)))).length) c21] (by kernel_rfl) (by kernel_rfl) (by kernel_rfl) ?_
  refine (rI ((ineg z) != (ineg e)) ((iabs z) / (Nat.gcd (iabs z) (iabs e))) A20 c21 hc22 w39 h40 hs.g hA23).mono ?_
  rintro _ w46 ⟨vu48, h47, rfl, u48, ⟨A42, c43, rfl, hc44, hA45⟩⟩
  refine ⟨_, rfl, ?_⟩
  replace hs := hs.step u48
  replace hA := hA.gw u48.gr.gw
  replace hD := hD.gw u48.gr.gw
  replace hA16 := hA16.gw u48.gr.gw
  replace hA23 := hA23.gw u48.gr.gw
  replace hA27 := hA27.gw u48.gr.gw
  replace hA34 := hA34.gw u48.gr.gw
  replace hA38 := hA38.gw u48.gr.gw
  refine LG.val 36 (.slice A31 ((lim ((iabs e) / (Nat.gcd (iabs z) (iabs e)))).length) c32) w46 (by kernel_rfl) (by kernel_rfl) (by kernel_rfl) ?_
  refine LG.val 37 (.agg #[.bool (ineg (sgn ((ineg z) != (ineg e)) ((iabs z) / (Nat.gcd (iabs z) (iabs e))))), .slice A42 ((lim (iabs (sgn ((ineg z) != (ineg e)) ((iabs z) / (Nat.gcd (iabs z) (iabs e)))))).length) c43, .slice A31 ((lim ((iabs e) / (Nat.gcd (iabs z) (iabs e)))).length) c32]) w46 (by kernel_rfl) (by kernel_rfl) (by kernel_rfl) ?_
  refine LG.put 0 0 ([.bool (ineg (sgn ((ineg z) != (ineg e)) ((iabs z) / (Nat.gcd (iabs z) (iabs e))))), .slice A42 ((lim (iabs (sgn ((ineg z) != (ineg e)) ((iabs z) / (Nat.gcd (iabs z) (iabs e)))))).length) c43, .slice A31 ((lim ((iabs e) / (Nat.gcd (iabs z) (iabs e)))).length) c32]) hs g (by kernel_rfl) (by kernel_rfl) (by kernel_rfl) (by kernel_rfl) (fun w49 pu hs => ?_)
  refine LG.next (by kernel_rfl) ?_
  refine CG.to [(4, .pointer (some ⟨b9, 0, none⟩))] (by kernel_rfl) ?_
  refine CG.ret ?_
  exact retP hs [(0, 0, 3)] (.agg #[.bool (ineg (sgn ((ineg z) != (ineg e)) ((iabs z) / (Nat.gcd (iabs z) (iabs e))))), .slice A42 ((lim (iabs (sgn ((ineg z) != (ineg e)) ((iabs z) / (Nat.gcd (iabs z) (iabs e)))))).length) c43, .slice A31 ((lim ((iabs e) / (Nat.gcd (iabs z) (iabs e)))).length) c32]) (by kernel_rfl) (by kernel_rfl) ⟨_, _, _, _, rfl, hc44, hc33, hA45, hA34⟩


theorem rMake (z : Int) (A : Option Addr) (c : Nat) (hc : (lim (iabs z)).length ≤ c) (e : Int) (D : Option Addr) (d : Nat) (hd : (lim (iabs e)).length ≤ d) (hLa : Len (lim (iabs z)).length) (he : 0 < e) (he1 : iabs e < 4294967296) (w : World) (h : Hp) (g : G w h) (hA : SlO 1 u32c 0 h A (lim (iabs z))) (hD : SlO 1 u32c 0 h D (lim (iabs e))) :
    Calls Tryz.prog 49 #[.agg #[.bool (ineg z), .slice A (lim (iabs z)).length c], .agg #[.bool (ineg e), .slice D (lim (iabs e)).length d]] w (Ret w h fun v h => RQ h v (mkRat z (iabs e))) := by
  have := rMake0 z A c hc e D d hd hLa he he1 w h g hA hD
  rw [mk_num z e he, mk_den z e he] at this
  exact this
theorem len_small {n : Nat} (h : n < 18446744073709551616) : Len (lim n).length := by
  have := lim_len_le (n := n) (k := 2) (by omega)
  unfold Len; omega

set_option maxRecDepth 100000 in
set_option maxHeartbeats 600000 in
theorem rOver (z e : Int) (hz0 : -9223372036854775808 ≤ z) (hz1 : z < 9223372036854775808) (he : 0 < e) (he1 : e < 4294967296) (w : World) (h : Hp) (g : G w h) :
    Calls Tryz.prog 30 #[.int .i64 z, .int .i64 e] w (Ret w h fun v h => RQ h v (mkRat z (iabs e))) := by
  have hs := St.start g
  refine enter (n := 10) Tryz.func30 rfl rfl (Nat.le_of_ble_eq_true (by kernel_rfl)) [(0, .int .i64 z), (1, .int .i64 e)] rfl ?_
  refine CG.seq ?_
  refine CG.listed ?_
  refine LG.var 4 45 ([.bool false, .slice none 0 0, .slice none 0 0]) hs (by kernel_rfl) (by kernel_rfl) (by kernel_rfl) (fun b1 w2 h3 nb_ u4 hs => ?_)
  refine LG.next (by kernel_rfl) ?_
  refine CG.seq ?_
  refine CG.listed ?_
  refine LG.val 5 (.int .i64 z) w2 (by kernel_rfl) (by kernel_rfl) (by kernel_rfl) ?_
  refine LG.call 6 28 #[.int .i64 z] (by kernel_rfl) (by kernel_rfl) (by kernel_rfl) ?_
  refine (rIntOf (z) (by omega) (by omega) w2 h3 hs.g).mono ?_
  rintro _ w9 ⟨vu11, h10, rfl, u11, ⟨A5, c6, rfl, hc7, hA8⟩⟩
  refine ⟨_, rfl, ?_⟩
  replace hs := hs.step u11
  refine LG.val 7 (.int .i64 e) w9 (by kernel_rfl) (by kernel_rfl) (by kernel_rfl) ?_
  refine LG.call 8 28 #[.int .i64 e] (by kernel_rfl) (by kernel_rfl) (by kernel_rfl) ?_
  refine (rIntOf (e) (by omega) (by omega) w9 h10 hs.g).mono ?_
  rintro _ w16 ⟨vu18, h17, rfl, u18, ⟨A12, c13, rfl, hc14, hA15⟩⟩
  refine ⟨_, rfl, ?_⟩
  replace hs := hs.step u18
  replace hA8 := hA8.gw u18.gr.gw
  refine LG.call 9 49 #[.agg #[.bool (ineg z), .slice A5 ((lim (iabs z)).length) c6], .agg #[.bool (ineg e), .slice A12 ((lim (iabs e)).length) c13]] (by kernel_rfl) (by kernel_rfl) (by kernel_rfl) ?_
  refine (rMake z A5 c6 hc7 e A12 c13 hc14 (len_small (by unfold iabs; omega)) he (by unfold iabs; omega) w16 h17 hs.g hA8 hA15).mono ?_
  rintro _ w27 ⟨vu29, h28, rfl, u29, ⟨A19, c20, A23, c24, rfl, hc21, hc25, hA22, hA26⟩⟩
  refine ⟨_, rfl, ?_⟩
  replace hs := hs.step u29
  replace hA8 := hA8.gw u29.gr.gw
  replace hA15 := hA15.gw u29.gr.gw
  refine LG.put 0 0 ([.bool (ineg (mkRat z (iabs e)).num), .slice A19 ((lim (iabs (mkRat z (iabs e)).num)).length) c20, .slice A23 ((lim (mkRat z (iabs e)).den).length) c24]) hs g (by kernel_rfl) (by kernel_rfl) (by kernel_rfl) (by kernel_rfl) (fun w30 pu hs => ?_)
  refine LG.next (by kernel_rfl) ?_
  refine CG.to [(4, .pointer (some ⟨b1, 0, none⟩))] (by kernel_rfl) ?_
  refine CG.ret ?_
  exact retP hs [(0, 0, 3)] (.agg #[.bool (ineg (mkRat z (iabs e)).num), .slice A19 ((lim (iabs (mkRat z (iabs e)).num)).length) c20, .slice A23 ((lim (mkRat z (iabs e)).den).length) c24]) (by kernel_rfl) (by kernel_rfl) ⟨_, _, _, _, rfl, hc21, hc25, hA22, hA26⟩

set_option maxRecDepth 100000 in
set_option maxHeartbeats 600000 in
theorem rOf (z : Int) (hz0 : -9223372036854775808 ≤ z) (hz1 : z < 9223372036854775808) (w : World) (h : Hp) (g : G w h) :
    Calls Tryz.prog 12 #[.int .i64 z] w (Ret w h fun v h => RQ h v (z : Rat)) := by
  have hs := St.start g
  refine enter (n := 7) Tryz.func12 rfl rfl (Nat.le_of_ble_eq_true (by kernel_rfl)) [(0, .int .i64 z)] rfl ?_
  refine CG.seq ?_
  refine CG.listed ?_
  refine LG.var 2 45 ([.bool false, .slice none 0 0, .slice none 0 0]) hs (by kernel_rfl) (by kernel_rfl) (by kernel_rfl) (fun b1 w2 h3 nb_ u4 hs => ?_)
  refine LG.next (by kernel_rfl) ?_
  refine CG.seq ?_
  refine CG.listed ?_
  refine LG.val 3 (.int .i64 z) w2 (by kernel_rfl) (by kernel_rfl) (by kernel_rfl) ?_
  refine LG.call 4 28 #[.int .i64 z] (by kernel_rfl) (by kernel_rfl) (by kernel_rfl) ?_
  refine (rIntOf (z) (by omega) (by omega) w2 h3 hs.g).mono ?_
  rintro _ w9 ⟨vu11, h10, rfl, u11, ⟨A5, c6, rfl, hc7, hA8⟩⟩
  refine ⟨_, rfl, ?_⟩
  replace hs := hs.step u11
  refine LG.call 5 29 #[.int .u64 1] (by kernel_rfl) (by kernel_rfl) (by kernel_rfl) ?_
  refine (rNatOf (1) (by omega) w9 h10 hs.g).mono ?_
  rintro _ w16 ⟨vu18, h17, rfl, u18, ⟨A12, c13, rfl, hc14, hA15⟩⟩
  refine ⟨_, rfl, ?_⟩
  replace hs := hs.step u18
  replace hA8 := hA8.gw u18.gr.gw
  refine LG.val 6 (.agg #[.bool (ineg z), .slice A5 ((lim (iabs z)).length) c6, .slice A12 ((lim 1).length) c13]) w16 (by kernel_rfl) (by kernel_rfl) (by kernel_rfl) ?_
  refine LG.put 0 0 ([.bool (ineg z), .slice A5 ((lim (iabs z)).length) c6, .slice A12 ((lim 1).length) c13]) hs g (by kernel_rfl) (by kernel_rfl) (by kernel_rfl) (by kernel_rfl) (fun w19 pu hs => ?_)
  refine LG.next (by kernel_rfl) ?_
  refine CG.ret ?_
  exact retP hs [(0, 0, 3)] (.agg #[.bool (ineg z), .slice A5 ((lim (iabs z)).length) c6, .slice A12 ((lim 1).length) c13]) (by kernel_rfl) (by kernel_rfl) ⟨_, _, _, _, rfl, hc7, hc14, hA8, hA15⟩

end Go.Proofs.YtmkonbkdjmfjhaaGreatDoor
