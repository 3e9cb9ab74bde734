/- Contracts of the reference's numbers: trim, NatOf, I, IntOf, NatCmp. -/
import Derived.Test.YtmkonbkdjmfjhaaGreatDoorSlE
import Derived.Test.YtmkonbkdjmfjhaaGreatDoorVals
import Derived.Test.YtmkonbkdjmfjhaaGreatDoorByL
namespace Go.Proofs.YtmkonbkdjmfjhaaGreatDoor
open Go.RowKit


/-- The cells of a limb. -/
def u32c (x : Nat) : List Value := [.int .u32 (x : Nat)]

set_option maxRecDepth 100000 in
set_option maxHeartbeats 600000 in
theorem rTrim (A : Option Addr) (l : List Nat) (cap : Nat) (hc : l.length ≤ cap) (hl : Len l.length) (w : World) (h : Hp) (g : G w h) (hA : SlO 1 u32c 0 h A l) :
    Calls Tryz.prog 48 #[.slice A l.length cap] w (Ret w h fun v _ => v = .slice A (tl l l.length) cap) := by
  have hs := St.start g
  unfold Len at hl
  refine enter (n := 21) Tryz.func48 rfl rfl (Nat.le_of_ble_eq_true (by kernel_rfl)) [(0, .slice A l.length cap)] rfl ?_
  refine CG.seq ?_
  refine CG.listed ?_
  refine LG.val 2 (.slice none 0 0) w (by kernel_rfl) (by kernel_rfl) (by kernel_rfl) ?_
  refine LG.next (by kernel_rfl) ?_
  refine CG.seq ?_
  refine CG.listed ?_
  refine LG.val 4 (.slice A l.length cap) w (by kernel_rfl) (by kernel_rfl) (by kernel_rfl) ?_
  refine LG.val 5 (.int .i64 (l.length : Nat)) w (by kernel_rfl) (by kernel_rfl) (by kernel_rfl) ?_
  refine LG.val 3 (.int .i64 (l.length : Nat)) w (by kernel_rfl) (by kernel_rfl) (by kernel_rfl) ?_
  refine LG.next (by kernel_rfl) ?_
  refine CG.seq ?_
  refine CG.block ?_
  refine CG.to [(0, .slice A l.length cap), (2, .slice none 0 0), (3, .int .i64 (l.length : Nat))] (by kernel_rfl) ?_
  refine CG.loop (fun μ_ Γ w_ => ∃ (n : Nat) (h_ : Hp), μ_ = n ∧ Γ = [(0, .slice A l.length cap), (2, .slice none 0 0), (3, .int .i64 (n : Nat))] ∧ St w h w_ h_ [] ∧ (SlO 1 u32c 0 h_ A l) ∧ (n ≤ l.length) ∧ (tl l l.length = tl l n)) _ ⟨l.length, h, rfl, rfl, hs.to _ (by kernel_rfl), hA, Nat.le_refl _, rfl⟩ ?_
  rintro _ _ w1 ⟨n, h2, hm3, rfl, hs, hA, hn, ht⟩
  -- round
  refine CG.seq ?_
  refine CG.seq ?_
  refine CG.listed ?_
  refine LG.val 6 (.int .i64 (n : Nat)) w1 (by kernel_rfl) (by kernel_rfl) (by kernel_rfl) ?_
  cases hb4 : (decide ((0 : Int) < ((n : Nat) : Int)))
  ·
    have phb4 := of_decide_eq_false hb4
    refine LG.val 7 (.bool false) w1 (by kernel_rfl) (by kernel_rfl) (rb (by kernel_rfl) hb4) ?_
    refine LG.val 8 (.bool false) w1 (by kernel_rfl) (by kernel_rfl) (by kernel_rfl) ?_
    refine LG.out 9 (by kernel_rfl) (by kernel_rfl) ?_
    refine LG.out 10 (by kernel_rfl) (by kernel_rfl) ?_
    refine LG.out 11 (by kernel_rfl) (by kernel_rfl) ?_
    refine LG.out 12 (by kernel_rfl) (by kernel_rfl) ?_
    refine LG.out 13 (by kernel_rfl) (by kernel_rfl) ?_
    refine LG.out 14 (by kernel_rfl) (by kernel_rfl) ?_
    refine LG.val 15 (.bool false) w1 (by kernel_rfl) (by kernel_rfl) (by kernel_rfl) ?_
    refine LG.next (by kernel_rfl) ?_
    refine CG.to [(0, .slice A l.length cap), (2, .slice none 0 0), (3, .int .i64 (n : Nat)), (15, .bool false)] (by kernel_rfl) ?_
    refine CG.condF (by kernel_rfl) (by kernel_rfl) ?_
    refine CG.exit ?_
    show CG _ _ _ _ _ _ _ _
    refine CG.seq ?_
    refine CG.listed ?_
    refine LG.val 18 (.slice A l.length cap) w1 (by kernel_rfl) (by kernel_rfl) (by kernel_rfl) ?_
    refine LG.val 19 (.int .i64 (n : Nat)) w1 (by kernel_rfl) (by kernel_rfl) (by kernel_rfl) ?_
    refine LG.val 20 (.slice A n cap) w1 (by kernel_rfl) (by kernel_rfl) (slTo (t := 41) (e := 100) (x := .tmp 18) (hi := .tmp 19) (A := A) (len := l.length) (cap := cap) (i := (n : Nat)) n (by kernel_rfl) (by kernel_rfl) (by kernel_rfl) (by kernel_rfl) (by kernel_rfl) (by omega) (by omega) _) ?_
    refine LG.val 2 (.slice A n cap) w1 (by kernel_rfl) (by kernel_rfl) (by kernel_rfl) ?_
    refine LG.next (by kernel_rfl) ?_
    refine CG.ret ?_
    exact retP hs [] (.slice A n cap) (by kernel_rfl) (by kernel_rfl) (by rw [ht, tl_at (by omega)])
  ·
    have phb4 := of_decide_eq_true hb4
    refine LG.val 7 (.bool true) w1 (by kernel_rfl) (by kernel_rfl) (rb (by kernel_rfl) hb4) ?_
    refine LG.val 8 (.bool true) w1 (by kernel_rfl) (by kernel_rfl) (by kernel_rfl) ?_
    refine LG.val 9 (.slice A l.length cap) w1 (by kernel_rfl) (by kernel_rfl) (by kernel_rfl) ?_
    refine LG.val 10 (.int .i64 (n : Nat)) w1 (by kernel_rfl) (by kernel_rfl) (by kernel_rfl) ?_
    refine LG.val 11 (.int .i64 (n - 1 : Nat)) w1 (by kernel_rfl) (by kernel_rfl) (rint (ri64 (n := (n : Nat) - 1) (by kernel_rfl) (by omega) (by omega)) (by omega)) ?_
    refine LG.val 12 (.pointer (some ⟨(aB A), aO A + (n - 1) * 1, none⟩)) w1 (by kernel_rfl) (by kernel_rfl) (ixAddr (t := 41) (e := 100) (x := .tmp 9) (ix := .tmp 11) (A := A) (len := l.length) (cap := cap) (sz := 1) (i := (n - 1 : Nat)) (n - 1) (by kernel_rfl) (by kernel_rfl) (by kernel_rfl) (by kernel_rfl) (by kernel_rfl) (hA.ok (by omega)) (by omega) (by omega) _) ?_
    refine LG.val 13 (.int .u32 (l.getD (n - 1) 0 : Nat)) w1 (by kernel_rfl) (by kernel_rfl) (Seg.run (hA.el (n - 1) (by omega)) hs.g (Ext.refl _) (by kernel_rfl)) ?_
    cases hb5 : (((l.getD (n - 1) 0 : Nat) : Int) == (0 : Int))
    ·
      have phb5 := neOfBeq hb5
      refine LG.val 14 (.bool false) w1 (by kernel_rfl) (by kernel_rfl) (rb (by kernel_rfl) hb5) ?_
      refine LG.val 15 (.bool false) w1 (by kernel_rfl) (by kernel_rfl) (by kernel_rfl) ?_
      refine LG.next (by kernel_rfl) ?_
      refine CG.to [(0, .slice A l.length cap), (2, .slice none 0 0), (3, .int .i64 (n : Nat)), (15, .bool false)] (by kernel_rfl) ?_
      refine CG.condF (by kernel_rfl) (by kernel_rfl) ?_
      refine CG.exit ?_
      show CG _ _ _ _ _ _ _ _
      refine CG.seq ?_
      refine CG.listed ?_
      refine LG.val 18 (.slice A l.length cap) w1 (by kernel_rfl) (by kernel_rfl) (by kernel_rfl) ?_
      refine LG.val 19 (.int .i64 (n : Nat)) w1 (by kernel_rfl) (by kernel_rfl) (by kernel_rfl) ?_
      refine LG.val 20 (.slice A n cap) w1 (by kernel_rfl) (by kernel_rfl) (slTo (t := 41) (e := 100) (x := .tmp 18) (hi := .tmp 19) (A := A) (len := l.length) (cap := cap) (i := (n : Nat)) n (by kernel_rfl) (by kernel_rfl) (by kernel_rfl) (by kernel_rfl) (by kernel_rfl) (by omega) (by omega) _) ?_
      refine LG.val 2 (.slice A n cap) w1 (by kernel_rfl) (by kernel_rfl) (by kernel_rfl) ?_
      refine LG.next (by kernel_rfl) ?_
      refine CG.ret ?_
      exact retP hs [] (.slice A n cap) (by kernel_rfl) (by kernel_rfl) (by rw [ht, tl_at (by omega)])
    ·
      have phb5 := eq_of_beq hb5
      refine LG.val 14 (.bool true) w1 (by kernel_rfl) (by kernel_rfl) (rb (by kernel_rfl) hb5) ?_
      refine LG.val 15 (.bool true) w1 (by kernel_rfl) (by kernel_rfl) (by kernel_rfl) ?_
      refine LG.next (by kernel_rfl) ?_
      refine CG.to [(0, .slice A l.length cap), (2, .slice none 0 0), (3, .int .i64 (n : Nat)), (15, .bool true)] (by kernel_rfl) ?_
      refine CG.condT (by kernel_rfl) (by kernel_rfl) ?_
      refine CG.skipN ?_
      refine CG.block ?_
      refine CG.listed ?_
      refine LG.val 16 (.int .i64 (n : Nat)) w1 (by kernel_rfl) (by kernel_rfl) (by kernel_rfl) ?_
      refine LG.val 17 (.int .i64 (n - 1 : Nat)) w1 (by kernel_rfl) (by kernel_rfl) (rint (ri64 (n := (n : Nat) - 1) (by kernel_rfl) (by omega) (by omega)) (by omega)) ?_
      refine LG.val 3 (.int .i64 (n - 1 : Nat)) w1 (by kernel_rfl) (by kernel_rfl) (by kernel_rfl) ?_
      refine LG.done (by kernel_rfl) ?_
      have TL : tl l n = tl l (n - 1) := by obtain ⟨m, rfl⟩ : ∃ m, n = m + 1 := ⟨n - 1, by omega⟩; show (if _ then _ else _) = _; rw [if_pos (by simp only [Nat.add_sub_cancel] at *; omega)]; rfl
      intro a_ ka
      refine ⟨_, _, ?_, ⟨n - 1, h2, rfl, rfl, hs.to _ (by kernel_rfl), hA, by omega, by rw [ht]; exact TL⟩, ka.to [(0, .slice A l.length cap), (2, .slice none 0 0), (3, .int .i64 ((n - 1) : Nat))] (by kernel_rfl)⟩
      omega


/-- A number of the reference's. -/
def RN (h : Hp) (v : Value) (n : Nat) : Prop := SlV 1 u32c 0 h v (lim n)
theorem RN.gw {h h' : Hp} {v : Value} {n : Nat} (r : RN h v n) (u : Gw h h') : RN h' v n := SlV.gw r u
theorem SlO.take {α : Type} {sz : Nat} {f : α → List Value} {d : α} {h : Hp} {A : Option Addr} {l : List α} (s : SlO sz f d h A l) (k : Nat) : SlO sz f d h A (l.take k) := by
  refine ⟨fun h0 => s.ok (by simp at h0; omega), fun j hj => ?_⟩
  simp at hj
  have := s.el j (by omega)
  have e : (l.take k).getD j d = l.getD j d := by simp [List.getD, List.getElem?_take_of_lt (show j < k by omega)]
  rw [e]; exact this
/-- A whole number of the reference's. -/
def RI (h : Hp) (v : Value) (z : Int) : Prop := ∃ A c, v = .agg #[.bool (ineg z), .slice A (lim (iabs z)).length c] ∧ (lim (iabs z)).length ≤ c ∧ SlO 1 u32c 0 h A (lim (iabs z))
def RP (h : Hp) (v : Value) (z : Int) (n : Nat) : Prop := ∃ A c B d, v = .agg #[.bool (ineg z), .slice A (lim (iabs z)).length c, .slice B (lim n).length d] ∧ (lim (iabs z)).length ≤ c ∧ (lim n).length ≤ d ∧ SlO 1 u32c 0 h A (lim (iabs z)) ∧ SlO 1 u32c 0 h B (lim n)
/-- A fraction of the reference's. -/
def RQ (h : Hp) (v : Value) (q : Rat) : Prop := RP h v q.num q.den
theorem RP.gw {h h' : Hp} {v : Value} {z : Int} {n : Nat} (r : RP h v z n) (u : Gw h h') : RP h' v z n := by
  obtain ⟨A, c, B, d, h1, h2, h3, h4, h5⟩ := r
  exact ⟨A, c, B, d, h1, h2, h3, h4.gw u, h5.gw u⟩
theorem RQ.gw {h h' : Hp} {v : Value} {q : Rat} (r : RQ h v q) (u : Gw h h') : RQ h' v q := RP.gw r u
/-- What trim leaves is the row of the number. -/
theorem RN.trim {h : Hp} {A : Option Addr} {l : List Nat} {cap : Nat} (hl : ∀ x ∈ l, x < 4294967296) (hc : l.length ≤ cap) (s : SlO 1 u32c 0 h A l) : RN h (.slice A (tl l l.length) cap) (nval l) := by
  refine ⟨A, cap, by rw [lim_nval_len hl], ?_, ?_⟩
  · rw [lim_nval_len hl]; have := tl_le l l.length; omega
  · rw [lim_nval hl]; exact s.take _
theorem natOf_fin {h : Hp} {A : Option Addr} {n cap : Nat} (hn : n < 18446744073709551616) (hc : 2 ≤ cap) (s : SlO 1 u32c 0 h A [n % 4294967296, n / 4294967296]) : RN h (.slice A (tl [n % 4294967296, n / 4294967296] 2) cap) n := by
  have e : nval [n % 4294967296, n / 4294967296] = n := by simp only [nval]; omega
  have := RN.trim (by intro x hx; simp at hx; omega) (by simpa using hc) s
  rw [e] at this
  exact this

set_option maxRecDepth 100000 in
set_option maxHeartbeats 600000 in
theorem rNatOf (n : Nat) (hn : n < 18446744073709551616) (w : World) (h : Hp) (g : G w h) :
    Calls Tryz.prog 29 #[.int .u64 (n : Nat)] w (Ret w h fun v h => RN h v n) := by
  have hs := St.start g
  refine enter (n := 10) Tryz.func29 rfl rfl (Nat.le_of_ble_eq_true (by kernel_rfl)) [(0, .int .u64 (n : Nat))] rfl ?_
  refine CG.seq ?_
  refine CG.listed ?_
  refine LG.val 2 (.slice none 0 0) w (by kernel_rfl) (by kernel_rfl) (by kernel_rfl) ?_
  refine LG.next (by kernel_rfl) ?_
  refine CG.seq ?_
  refine CG.listed ?_
  refine LG.val 3 (.int .u64 (n : Nat)) w (by kernel_rfl) (by kernel_rfl) (by kernel_rfl) ?_
  refine LG.val 4 (.int .u32 (n % 4294967296 : Nat)) w (by kernel_rfl) (by kernel_rfl) (rint (n := IntKind.wrap .u32 ((n : Nat) : Int)) (by kernel_rfl) (wrU32 _)) ?_
  refine LG.val 5 (.int .u64 (n : Nat)) w (by kernel_rfl) (by kernel_rfl) (by kernel_rfl) ?_
  refine LG.val 6 (.int .u64 (n / 4294967296 : Nat)) w (by kernel_rfl) (by kernel_rfl) (rint (n := Int.fdiv ((n : Nat) : Int) 4294967296) (by kernel_rfl) (fdivNat _ 4294967296)) ?_
  refine LG.val 7 (.int .u32 (n / 4294967296 : Nat)) w (by kernel_rfl) (by kernel_rfl) (rint (n := IntKind.wrap .u32 ((n / 4294967296 : Nat) : Int)) (by kernel_rfl) (fitU32 (by omega) (by omega))) ?_
  refine LG.row 8 100 2 ([.int .u32 (n % 4294967296 : Nat), .int .u32 (n / 4294967296 : Nat)]) hs.g (by kernel_rfl) (by kernel_rfl) (by kernel_rfl) (fun b1 w2 h3 u4 hS5 => ?_)
  replace hs := hs.step u4
  have hA := SlO.of_flat (sz := 1) (f := u32c) (d := 0) (l := [n % 4294967296, n / 4294967296]) (fun _ => rfl) hS5
  refine LG.call 9 48 #[.slice (some ⟨b1, 0, none⟩) 2 2] (by kernel_rfl) (by kernel_rfl) (by kernel_rfl) ?_
  refine (rTrim (some ⟨b1, 0, none⟩) [n % 4294967296, n / 4294967296] 2 (by simp) (by unfold Len; simp) w2 h3 hs.g hA).mono ?_
  rintro _ w6 ⟨vu8, h7, rfl, u8, rfl⟩
  refine ⟨_, rfl, ?_⟩
  replace hs := hs.step u8
  replace hS5 := hS5.gw u8.gr.gw
  replace hA := hA.gw u8.gr.gw
  refine LG.val 2 (.slice (some ⟨b1, 0, none⟩) (tl [n % 4294967296, n / 4294967296] 2) 2) w6 (by kernel_rfl) (by kernel_rfl) (by kernel_rfl) ?_
  refine LG.next (by kernel_rfl) ?_
  refine CG.to [(2, .slice (some ⟨b1, 0, none⟩) (tl [n % 4294967296, n / 4294967296] 2) 2)] (by kernel_rfl) ?_
  refine CG.ret ?_
  exact retP hs [] (.slice (some ⟨b1, 0, none⟩) (tl [n % 4294967296, n / 4294967296] 2) 2) (by kernel_rfl) (by kernel_rfl) (natOf_fin hn (by omega) hA)


theorem ri_fin {h : Hp} {p b : Bool} {n cap : Nat} {A : Option Addr} (hb : b = (p && decide (0 < n))) (hc : (lim n).length ≤ cap) (hA : SlO 1 u32c 0 h A (lim n)) : RI h (.agg #[.bool b, .slice A (lim n).length cap]) (sgn p n) := by
  subst hb
  refine ⟨A, cap, ?_, ?_, ?_⟩
  · rw [ineg_sgn, iabs_sgn]
  · rw [iabs_sgn]; exact hc
  · rw [iabs_sgn]; exact hA

set_option maxRecDepth 100000 in
set_option maxHeartbeats 600000 in
theorem rI_f (n : Nat) (A : Option Addr) (cap : Nat) (hc : (lim n).length ≤ cap) (w : World) (h : Hp) (g : G w h) (hA : SlO 1 u32c 0 h A (lim n)) :
    Calls Tryz.prog 47 #[.bool false, .slice A ((lim n).length) cap] w (Ret w h fun v h => RI h v (sgn false n)) := by
  have hs := St.start g
  refine enter (n := 13) Tryz.func47 rfl rfl (Nat.le_of_ble_eq_true (by kernel_rfl)) [(0, .bool false), (1, .slice A ((lim n).length) cap)] rfl ?_
  refine CG.seq ?_
  refine CG.listed ?_
  refine LG.var 4 43 ([.bool false, .slice none 0 0]) hs (by kernel_rfl) (by kernel_rfl) (by kernel_rfl) (fun b1 w2 h3 nb_ u4 hs => ?_)
  replace hA := hA.gw u4.gr.gw
  refine LG.next (by kernel_rfl) ?_
  refine CG.seq ?_
  refine CG.listed ?_
  refine LG.val 5 (.bool false) w2 (by kernel_rfl) (by kernel_rfl) (by kernel_rfl) ?_
  refine LG.val 6 (.bool false) w2 (by kernel_rfl) (by kernel_rfl) (by kernel_rfl) ?_
  refine LG.out 7 (by kernel_rfl) (by kernel_rfl) ?_
  refine LG.out 8 (by kernel_rfl) (by kernel_rfl) ?_
  refine LG.out 9 (by kernel_rfl) (by kernel_rfl) ?_
  refine LG.val 10 (.bool false) w2 (by kernel_rfl) (by kernel_rfl) (by kernel_rfl) ?_
  refine LG.val 11 (.slice A ((lim n).length) cap) w2 (by kernel_rfl) (by kernel_rfl) (by kernel_rfl) ?_
  refine LG.val 12 (.agg #[.bool false, .slice A ((lim n).length) cap]) w2 (by kernel_rfl) (by kernel_rfl) (by kernel_rfl) ?_
  refine LG.put 0 0 ([.bool false, .slice A ((lim n).length) cap]) hs g (by kernel_rfl) (by kernel_rfl) (by kernel_rfl) (by kernel_rfl) (fun w5 pu hs => ?_)
  refine LG.next (by kernel_rfl) ?_
  refine CG.to [(4, .pointer (some ⟨b1, 0, none⟩))] (by kernel_rfl) ?_
  refine CG.ret ?_
  exact retP hs [(0, 0, 2)] (.agg #[.bool false, .slice A ((lim n).length) cap]) (by kernel_rfl) (by kernel_rfl) (ri_fin rfl hc hA)

set_option maxRecDepth 100000 in
set_option maxHeartbeats 600000 in
theorem rI_t (n : Nat) (A : Option Addr) (cap : Nat) (hc : (lim n).length ≤ cap) (w : World) (h : Hp) (g : G w h) (hA : SlO 1 u32c 0 h A (lim n)) :
    Calls Tryz.prog 47 #[.bool true, .slice A ((lim n).length) cap] w (Ret w h fun v h => RI h v (sgn true n)) := by
  have hs := St.start g
  have hp := @lim_pos n
  refine enter (n := 13) Tryz.func47 rfl rfl (Nat.le_of_ble_eq_true (by kernel_rfl)) [(0, .bool true), (1, .slice A ((lim n).length) cap)] rfl ?_
  refine CG.seq ?_
  refine CG.listed ?_
  refine LG.var 4 43 ([.bool false, .slice none 0 0]) hs (by kernel_rfl) (by kernel_rfl) (by kernel_rfl) (fun b1 w2 h3 nb_ u4 hs => ?_)
  replace hA := hA.gw u4.gr.gw
  refine LG.next (by kernel_rfl) ?_
  refine CG.seq ?_
  refine CG.listed ?_
  refine LG.val 5 (.bool true) w2 (by kernel_rfl) (by kernel_rfl) (by kernel_rfl) ?_
  refine LG.val 6 (.bool true) w2 (by kernel_rfl) (by kernel_rfl) (by kernel_rfl) ?_
  refine LG.val 7 (.slice A ((lim n).length) cap) w2 (by kernel_rfl) (by kernel_rfl) (by kernel_rfl) ?_
  refine LG.val 8 (.int .i64 ((lim n).length : Nat)) w2 (by kernel_rfl) (by kernel_rfl) (by kernel_rfl) ?_
  cases hb5 : (decide ((0 : Int) < (((lim n).length : Nat) : Int)))
  ·
    have phb5 := of_decide_eq_false hb5
    refine LG.val 9 (.bool false) w2 (by kernel_rfl) (by kernel_rfl) (rb (by kernel_rfl) hb5) ?_
    refine LG.val 10 (.bool false) w2 (by kernel_rfl) (by kernel_rfl) (by kernel_rfl) ?_
    refine LG.val 11 (.slice A ((lim n).length) cap) w2 (by kernel_rfl) (by kernel_rfl) (by kernel_rfl) ?_
    refine LG.val 12 (.agg #[.bool false, .slice A ((lim n).length) cap]) w2 (by kernel_rfl) (by kernel_rfl) (by kernel_rfl) ?_
    refine LG.put 0 0 ([.bool false, .slice A ((lim n).length) cap]) hs g (by kernel_rfl) (by kernel_rfl) (by kernel_rfl) (by kernel_rfl) (fun w6 pu hs => ?_)
    refine LG.next (by kernel_rfl) ?_
    refine CG.to [(4, .pointer (some ⟨b1, 0, none⟩))] (by kernel_rfl) ?_
    refine CG.ret ?_
    exact retP hs [(0, 0, 2)] (.agg #[.bool false, .slice A ((lim n).length) cap]) (by kernel_rfl) (by kernel_rfl) (ri_fin (by simp only [Bool.true_and]; first | (symm; exact decide_eq_true (by omega)) | (symm; exact decide_eq_false (by omega))) hc hA)
  ·
    have phb5 := of_decide_eq_true hb5
    refine LG.val 9 (.bool true) w2 (by kernel_rfl) (by kernel_rfl) (rb (by kernel_rfl) hb5) ?_
    refine LG.val 10 (.bool true) w2 (by kernel_rfl) (by kernel_rfl) (by kernel_rfl) ?_
    refine LG.val 11 (.slice A ((lim n).length) cap) w2 (by kernel_rfl) (by kernel_rfl) (by kernel_rfl) ?_
    refine LG.val 12 (.agg #[.bool true, .slice A ((lim n).length) cap]) w2 (by kernel_rfl) (by kernel_rfl) (by kernel_rfl) ?_
    refine LG.put 0 0 ([.bool true, .slice A ((lim n).length) cap]) hs g (by kernel_rfl) (by kernel_rfl) (by kernel_rfl) (by kernel_rfl) (fun w7 pu hs => ?_)
    refine LG.next (by kernel_rfl) ?_
    refine CG.to [(4, .pointer (some ⟨b1, 0, none⟩))] (by kernel_rfl) ?_
    refine CG.ret ?_
    exact retP hs [(0, 0, 2)] (.agg #[.bool true, .slice A ((lim n).length) cap]) (by kernel_rfl) (by kernel_rfl) (ri_fin (by simp only [Bool.true_and]; first | (symm; exact decide_eq_true (by omega)) | (symm; exact decide_eq_false (by omega))) hc hA)


theorem rI (p : Bool) (n : Nat) (A : Option Addr) (cap : Nat) (hc : (lim n).length ≤ cap) (w : World) (h : Hp) (g : G w h) (hA : SlO 1 u32c 0 h A (lim n)) :
    Calls Tryz.prog 47 #[.bool p, .slice A (lim n).length cap] w (Ret w h fun v h => RI h v (sgn p n)) := by
  cases p
  · exact rI_f n A cap hc w h g hA
  · exact rI_t n A cap hc w h g hA

end Go.Proofs.YtmkonbkdjmfjhaaGreatDoor
