/- Contracts of frac.Dot, Max; net.known, mat.Right, net.Check, suits, of nets that are well formed. -/
import Derived.Test.YtokbipmfhfmnfaaGreatDoorRwA
import Derived.Test.YtokbipmfhfmnfaaGreatDoorFracB
namespace Go.Proofs.YtokbipmfhfmnfaaGreatDoor
open Go.RowKit


/-- A matrix of r rows of c numbers. -/
structure Mat (W : List (List Rat)) (r c : Nat) : Prop where
  rows : W.length = r
  rpos : 0 < r
  cpos : 0 < c
  row : ∀ i, i < r → (W.getD i []).length = c

set_option maxRecDepth 100000 in
set_option maxHeartbeats 600000 in
theorem mRight (A : Option Addr) (cap : Nat) (us : List Value) (W : List (List Rat)) (r c : Nat) (hM : Mat W r c) (hr : r ≤ 1000000) (hc : c ≤ 1000000) (w : World) (h : Hp) (g : G w h) (hA : SlO 1 vc undef h A us) (hU : QVs h us W) :
    Calls Tryz.prog 93 #[.slice A us.length cap] w (Ret w h fun v _ => v = .bool true) := by
  have hs := St.start g
  have hl := hU.len
  have h1 := hM.rows
  have h2 := hM.rpos
  have h3 := hM.cpos
  have h4 := hM.row 0 (by omega)
  refine enter (n := 29) Tryz.func93 rfl rfl (Nat.le_of_ble_eq_true (by kernel_rfl)) [(0, .slice A us.length cap)] rfl ?_
  refine CG.seq ?_
  refine CG.listed ?_
  refine LG.val 2 (.bool false) w (by kernel_rfl) (by kernel_rfl) (by kernel_rfl) ?_
  refine LG.next (by kernel_rfl) ?_
  refine CG.seq ?_
  refine CG.seq ?_
  refine CG.listed ?_
  refine LG.val 5 (.slice A us.length cap) w (by kernel_rfl) (by kernel_rfl) (by kernel_rfl) ?_
  refine LG.val 6 (.int .i64 (us.length : Nat)) w (by kernel_rfl) (by kernel_rfl) (by kernel_rfl) ?_
  have hb1 : (((us.length : Nat) : Int) == (0 : Int)) = false := beqF (by omega)
  have phb1 := neOfBeq hb1
  refine LG.val 7 (.bool false) w (by kernel_rfl) (by kernel_rfl) (rb (by kernel_rfl) hb1) ?_
  refine LG.val 8 (.bool false) w (by kernel_rfl) (by kernel_rfl) (by kernel_rfl) ?_
  refine LG.val 9 (.slice A us.length cap) w (by kernel_rfl) (by kernel_rfl) (by kernel_rfl) ?_
  refine LG.val 10 (.pointer (some ⟨(aB A), aO A + 0 * 1, none⟩)) w (by kernel_rfl) (by kernel_rfl) (ixAddr (t := 84) (e := 31) (x := .tmp 9) (ix := .const (.int .i64 0)) (A := A) (len := us.length) (cap := cap) (sz := 1) (i := 0) 0 (by kernel_rfl) (by kernel_rfl) (by kernel_rfl) (by kernel_rfl) (by kernel_rfl) (hA.ok (by omega)) (by omega) (by omega) _) ?_
  obtain ⟨Aa, ca, ea, hca, hRa⟩ := hU.at_ 0 (by omega)
  refine LG.val 11 (.slice Aa ((W.getD 0 []).length) ca) w (by kernel_rfl) (by kernel_rfl) (rval (Seg.run (hA.el 0 (by omega)) hs.g (Ext.refl _) (by kernel_rfl)) ea) ?_
  refine LG.val 12 (.int .i64 ((W.getD 0 []).length : Nat)) w (by kernel_rfl) (by kernel_rfl) (by kernel_rfl) ?_
  have hb2 : ((((W.getD 0 []).length : Nat) : Int) == (0 : Int)) = false := beqF (by omega)
  have phb2 := neOfBeq hb2
  refine LG.val 13 (.bool false) w (by kernel_rfl) (by kernel_rfl) (rb (by kernel_rfl) hb2) ?_
  refine LG.val 14 (.bool false) w (by kernel_rfl) (by kernel_rfl) (by kernel_rfl) ?_
  refine LG.next (by kernel_rfl) ?_
  refine CG.to [(0, .slice A us.length cap), (2, .bool false), (14, .bool false)] (by kernel_rfl) ?_
  refine CG.condF (by kernel_rfl) (by kernel_rfl) ?_
  refine CG.skipN ?_
  refine CG.seq ?_
  refine CG.seq ?_
  refine CG.listed ?_
  refine LG.val 15 (.slice A us.length cap) w (by kernel_rfl) (by kernel_rfl) (by kernel_rfl) ?_
  refine LG.val 16 (.int .i64 (us.length : Nat)) w (by kernel_rfl) (by kernel_rfl) (by kernel_rfl) ?_
  refine LG.val 17 (.int .i64 0) w (by kernel_rfl) (by kernel_rfl) (by kernel_rfl) ?_
  refine LG.next (by kernel_rfl) ?_
  refine CG.block ?_
  refine CG.to [(0, .slice A us.length cap), (15, .slice A us.length cap), (16, .int .i64 (us.length : Nat)), (17, .int .i64 0)] (by kernel_rfl) ?_
  refine CG.loop (fun μ_ Γ w_ => ∃ (k : Nat) (h_ : Hp), μ_ = r - k ∧ Γ = [(0, .slice A us.length cap), (15, .slice A us.length cap), (16, .int .i64 (us.length : Nat)), (17, .int .i64 (k : Nat))] ∧ St w h w_ h_ [] ∧ (SlO 1 vc undef h_ A us) ∧ (QVs h_ us W) ∧ (k ≤ r)) _ ⟨0, h, rfl, rfl, hs.to _ (by kernel_rfl), hA, hU, Nat.zero_le _⟩ ?_
  rintro _ _ w3 ⟨k, h4, hm5, rfl, hs, hA, hU, hk⟩
  -- round
  refine CG.seq ?_
  refine CG.listed ?_
  cases hb6 : (decide (((k : Nat) : Int) < ((us.length : Nat) : Int)))
  ·
    have phb6 := of_decide_eq_false hb6
    refine LG.val 18 (.bool false) w3 (by kernel_rfl) (by kernel_rfl) (rb (by kernel_rfl) hb6) ?_
    refine LG.next (by kernel_rfl) ?_
    refine CG.seq ?_
    refine CG.condF (by kernel_rfl) (by kernel_rfl) ?_
    refine CG.exit ?_
    show CG _ _ _ _ _ _ _ _
    refine CG.seq ?_
    refine CG.listed ?_
    refine LG.val 2 (.bool true) w3 (by kernel_rfl) (by kernel_rfl) (by kernel_rfl) ?_
    refine LG.next (by kernel_rfl) ?_
    refine CG.ret ?_
    exact retP hs [] (.bool true) (by kernel_rfl) (by kernel_rfl) rfl
  ·
    have phb6 := of_decide_eq_true hb6
    refine LG.val 18 (.bool true) w3 (by kernel_rfl) (by kernel_rfl) (rb (by kernel_rfl) hb6) ?_
    refine LG.next (by kernel_rfl) ?_
    refine CG.seq ?_
    refine CG.condT (by kernel_rfl) (by kernel_rfl) ?_
    refine CG.skipN ?_
    refine CG.seq ?_
    refine CG.block ?_
    refine CG.seq ?_
    refine CG.listed ?_
    refine LG.val 19 (.pointer (some ⟨(aB A), aO A + k * 1, none⟩)) w3 (by kernel_rfl) (by kernel_rfl) (ixAddr (t := 84) (e := 31) (x := .tmp 15) (ix := .tmp 17) (A := A) (len := us.length) (cap := cap) (sz := 1) (i := (k : Nat)) k (by kernel_rfl) (by kernel_rfl) (by kernel_rfl) (by kernel_rfl) (by kernel_rfl) (hA.ok (by omega)) (by omega) (by omega) _) ?_
    have h5 := hM.row k (by omega)
    obtain ⟨Ab, cb, eb, hcb, hRb⟩ := hU.at_ k (by omega)
    refine LG.val 20 (.slice Ab ((W.getD k []).length) cb) w3 (by kernel_rfl) (by kernel_rfl) (rval (Seg.run (hA.el k (by omega)) hs.g (Ext.refl _) (by kernel_rfl)) eb) ?_
    refine LG.val 4 (.slice Ab ((W.getD k []).length) cb) w3 (by kernel_rfl) (by kernel_rfl) (by kernel_rfl) ?_
    refine LG.next (by kernel_rfl) ?_
    refine CG.seq ?_
    refine CG.listed ?_
    refine LG.val 21 (.slice Ab ((W.getD k []).length) cb) w3 (by kernel_rfl) (by kernel_rfl) (by kernel_rfl) ?_
    refine LG.val 22 (.int .i64 ((W.getD k []).length : Nat)) w3 (by kernel_rfl) (by kernel_rfl) (by kernel_rfl) ?_
    refine LG.val 23 (.slice A us.length cap) w3 (by kernel_rfl) (by kernel_rfl) (by kernel_rfl) ?_
    refine LG.val 24 (.pointer (some ⟨(aB A), aO A + 0 * 1, none⟩)) w3 (by kernel_rfl) (by kernel_rfl) (ixAddr (t := 84) (e := 31) (x := .tmp 23) (ix := .const (.int .i64 0)) (A := A) (len := us.length) (cap := cap) (sz := 1) (i := 0) 0 (by kernel_rfl) (by kernel_rfl) (by kernel_rfl) (by kernel_rfl) (by kernel_rfl) (hA.ok (by omega)) (by omega) (by omega) _) ?_
    obtain ⟨Ad, cd, ed, hcd, hRd⟩ := hU.at_ 0 (by omega)
    refine LG.val 25 (.slice Ad ((W.getD 0 []).length) cd) w3 (by kernel_rfl) (by kernel_rfl) (rval (Seg.run (hA.el 0 (by omega)) hs.g (Ext.refl _) (by kernel_rfl)) ed) ?_
    refine LG.val 26 (.int .i64 ((W.getD 0 []).length : Nat)) w3 (by kernel_rfl) (by kernel_rfl) (by kernel_rfl) ?_
    have hb7 : ((((W.getD k []).length : Nat) : Int) != (((W.getD 0 []).length : Nat) : Int)) = false := bneF (by omega)
    have phb7 := eqOfBne hb7
    refine LG.val 27 (.bool false) w3 (by kernel_rfl) (by kernel_rfl) (rb (by kernel_rfl) hb7) ?_
    refine LG.next (by kernel_rfl) ?_
    refine CG.to [(0, .slice A us.length cap), (15, .slice A us.length cap), (16, .int .i64 (us.length : Nat)), (17, .int .i64 (k : Nat)), (27, .bool false)] (by kernel_rfl) ?_
    refine CG.condF (by kernel_rfl) (by kernel_rfl) ?_
    refine CG.skipN ?_
    refine CG.listed ?_
    refine LG.val 28 (.int .i64 (k + 1 : Nat)) w3 (by kernel_rfl) (by kernel_rfl) (rint (ri64 (n := (k : Nat) + 1) (by kernel_rfl) (by omega) (by omega)) (by omega)) ?_
    refine LG.val 17 (.int .i64 (k + 1 : Nat)) w3 (by kernel_rfl) (by kernel_rfl) (by kernel_rfl) ?_
    refine LG.done (by kernel_rfl) ?_
    intro a_ ka
    refine ⟨_, _, ?_, ⟨k + 1, h4, rfl, rfl, hs.to _ (by kernel_rfl), hA, hU, by omega⟩, ka.to [(0, .slice A us.length cap), (15, .slice A us.length cap), (16, .int .i64 (us.length : Nat)), (17, .int .i64 ((k + 1) : Nat))] (by kernel_rfl)⟩
    omega


theorem cOf (n : Int) (h0 : -9223372036854775808 ≤ n) (h1 : n ≤ 9223372036854775807) (w : World) : Calls Tryz.prog 68 #[.int .i64 n] w fun e w' => e = .returned (qv (n : Rat)) ∧ Ext w w' := by
  rw [qv_small (by rw [Rat.num_intCast]; unfold iabs; omega) (by rw [Rat.den_intCast]; omega)]; exact fracOf n h0 h1 w
/-- The products of two rows, added up. -/
def dotq (a b : List Rat) : Nat → Rat
  | 0 => 0
  | k + 1 => dotq a b k + a.getD k 0 * b.getD k 0

set_option maxRecDepth 100000 in
set_option maxHeartbeats 600000 in
theorem cDot (A : Option Addr) (ca : Nat) (a : List Rat) (D : Option Addr) (cd : Nat) (b : List Rat) (n : Nat) (ha : a.length = n) (hb : b.length = n) (hn : n ≤ 1000000) (sa : ∀ i, i < n → Sm (a.getD i 0)) (sb : ∀ i, i < n → Sm (b.getD i 0)) (sp : ∀ i, i < n → Sm (a.getD i 0 * b.getD i 0)) (sd : ∀ i, i < n → Sm (dotq a b i)) (w : World) (h : Hp) (g : G w h) (hA : SlO 5 qc 0 h A a) (hD : SlO 5 qc 0 h D b) :
    Calls Tryz.prog 70 #[.slice A a.length ca, .slice D b.length cd] w (Ret w h fun v _ => v = .tuple #[qv (dotq a b n), .bool true]) := by
  have hs := St.start g
  refine enter (n := 32) Tryz.func70 rfl rfl (Nat.le_of_ble_eq_true (by kernel_rfl)) [(0, .slice A a.length ca), (1, .slice D b.length cd)] rfl ?_
  refine CG.seq ?_
  refine CG.listed ?_
  refine LG.var 4 81 ([.bool false, .int .u64 0, .string (⟨#[]⟩), .int .u64 0, .string (⟨#[]⟩)]) hs (by kernel_rfl) (by kernel_rfl) (by kernel_rfl) (fun b1 w2 h3 nb_ u4 hs => ?_)
  replace hA := hA.gw u4.gr.gw
  replace hD := hD.gw u4.gr.gw
  refine LG.val 5 (.bool false) w2 (by kernel_rfl) (by kernel_rfl) (by kernel_rfl) ?_
  refine LG.next (by kernel_rfl) ?_
  refine CG.seq ?_
  refine CG.seq ?_
  refine CG.listed ?_
  refine LG.val 9 (.slice A a.length ca) w2 (by kernel_rfl) (by kernel_rfl) (by kernel_rfl) ?_
  refine LG.val 10 (.int .i64 (a.length : Nat)) w2 (by kernel_rfl) (by kernel_rfl) (by kernel_rfl) ?_
  refine LG.val 11 (.slice D b.length cd) w2 (by kernel_rfl) (by kernel_rfl) (by kernel_rfl) ?_
  refine LG.val 12 (.int .i64 (b.length : Nat)) w2 (by kernel_rfl) (by kernel_rfl) (by kernel_rfl) ?_
  have hb5 : (((a.length : Nat) : Int) != ((b.length : Nat) : Int)) = false := bneF (by omega)
  have phb5 := eqOfBne hb5
  refine LG.val 13 (.bool false) w2 (by kernel_rfl) (by kernel_rfl) (rb (by kernel_rfl) hb5) ?_
  refine LG.next (by kernel_rfl) ?_
  refine CG.condF (by kernel_rfl) (by kernel_rfl) ?_
  refine CG.skipN ?_
  refine CG.seq ?_
  refine CG.listed ?_
  refine LG.var 6 81 ([.bool false, .int .u64 0, .string (⟨#[]⟩), .int .u64 0, .string (⟨#[]⟩)]) hs (by kernel_rfl) (by kernel_rfl) (by kernel_rfl) (fun b6 w7 h8 nb_ u9 hs => ?_)
  replace hA := hA.gw u9.gr.gw
  replace hD := hD.gw u9.gr.gw
  refine LG.next (by kernel_rfl) ?_
  refine CG.seq ?_
  refine CG.seq ?_
  refine CG.listed ?_
  refine LG.val 15 (.slice A a.length ca) w7 (by kernel_rfl) (by kernel_rfl) (by kernel_rfl) ?_
  refine LG.val 16 (.int .i64 (a.length : Nat)) w7 (by kernel_rfl) (by kernel_rfl) (by kernel_rfl) ?_
  refine LG.val 17 (.int .i64 0) w7 (by kernel_rfl) (by kernel_rfl) (by kernel_rfl) ?_
  refine LG.next (by kernel_rfl) ?_
  refine CG.block ?_
  refine CG.to [(1, .slice D b.length cd), (4, .pointer (some ⟨b1, 0, none⟩)), (5, .bool false), (6, .pointer (some ⟨b6, 0, none⟩)), (15, .slice A a.length ca), (16, .int .i64 (a.length : Nat)), (17, .int .i64 0)] (by kernel_rfl) ?_
  refine CG.loop (fun μ_ Γ w_ => ∃ (k : Nat) (h_ : Hp), μ_ = n - k ∧ Γ = [(1, .slice D b.length cd), (4, .pointer (some ⟨b1, 0, none⟩)), (5, .bool false), (6, .pointer (some ⟨b6, 0, none⟩)), (15, .slice A a.length ca), (16, .int .i64 (a.length : Nat)), (17, .int .i64 (k : Nat))] ∧ St w h w_ h_ [⟨b6, 81, qc (dotq a b k)⟩, ⟨b1, 81, [.bool false, .int .u64 0, .string (⟨#[]⟩), .int .u64 0, .string (⟨#[]⟩)]⟩] ∧ (SlO 5 qc 0 h_ A a) ∧ (SlO 5 qc 0 h_ D b) ∧ (k ≤ n)) _ ⟨0, h8, rfl, rfl, hs.to _ (by kernel_rfl), hA, hD, Nat.zero_le _⟩ ?_
  rintro _ _ w10 ⟨k, h11, hm12, rfl, hs, hA, hD, hk⟩
  -- round
  refine CG.seq ?_
  refine CG.listed ?_
  cases hb13 : (decide (((k : Nat) : Int) < ((a.length : Nat) : Int)))
  ·
    have phb13 := of_decide_eq_false hb13
    refine LG.val 18 (.bool false) w10 (by kernel_rfl) (by kernel_rfl) (rb (by kernel_rfl) hb13) ?_
    refine LG.next (by kernel_rfl) ?_
    refine CG.seq ?_
    refine CG.condF (by kernel_rfl) (by kernel_rfl) ?_
    refine CG.exit ?_
    show CG _ _ _ _ _ _ _ _
    refine CG.seq ?_
    refine CG.listed ?_
    refine LG.own 31 [(0, 0, 5)] (qv (dotq a b k)) hs (by kernel_rfl) (by kernel_rfl) (by kernel_rfl) (by kernel_rfl) ?_
    refine LG.put 1 0 (qc (dotq a b k)) hs g (by kernel_rfl) (by kernel_rfl) (by kernel_rfl) (by kernel_rfl) (fun w14 pu hs => ?_)
    refine LG.val 5 (.bool true) w14 (by kernel_rfl) (by kernel_rfl) (by kernel_rfl) ?_
    refine LG.next (by kernel_rfl) ?_
    refine CG.to [(4, .pointer (some ⟨b1, 0, none⟩)), (5, .bool true)] (by kernel_rfl) ?_
    refine CG.ret ?_
    have hkn : k = n := by omega
    exact retP hs [(1, 0, 5)] (.tuple #[qv (dotq a b k), .bool true]) (by kernel_rfl) (by kernel_rfl) (by rw [hkn])
  ·
    have phb13 := of_decide_eq_true hb13
    refine LG.val 18 (.bool true) w10 (by kernel_rfl) (by kernel_rfl) (rb (by kernel_rfl) hb13) ?_
    refine LG.next (by kernel_rfl) ?_
    refine CG.seq ?_
    refine CG.condT (by kernel_rfl) (by kernel_rfl) ?_
    refine CG.skipN ?_
    refine CG.seq ?_
    refine CG.block ?_
    refine CG.seq ?_
    refine CG.listed ?_
    refine LG.val 19 (.int .i64 (k : Nat)) w10 (by kernel_rfl) (by kernel_rfl) (by kernel_rfl) ?_
    refine LG.val 20 (.pointer (some ⟨(aB A), aO A + k * 5, none⟩)) w10 (by kernel_rfl) (by kernel_rfl) (ixAddr (t := 31) (e := 81) (x := .tmp 15) (ix := .tmp 17) (A := A) (len := a.length) (cap := ca) (sz := 5) (i := (k : Nat)) k (by kernel_rfl) (by kernel_rfl) (by kernel_rfl) (by kernel_rfl) (by kernel_rfl) (hA.ok (by omega)) (by omega) (by omega) _) ?_
    refine LG.val 21 (qv (a.getD k 0)) w10 (by kernel_rfl) (by kernel_rfl) (Seg.run (hA.el k (by omega)) hs.g (Ext.refl _) (by kernel_rfl)) ?_
    refine LG.var 8 81 ([.bool false, .int .u64 0, .string (⟨#[]⟩), .int .u64 0, .string (⟨#[]⟩)]) hs (by kernel_rfl) (by kernel_rfl) (by kernel_rfl) (fun b15 w16 h17 nb_ u18 hs => ?_)
    replace hA := hA.gw u18.gr.gw
    replace hD := hD.gw u18.gr.gw
    refine LG.val 7 (.int .i64 (k : Nat)) w16 (by kernel_rfl) (by kernel_rfl) (by kernel_rfl) ?_
    refine LG.put 0 0 (qc (a.getD k 0)) hs g (by kernel_rfl) (by kernel_rfl) (by kernel_rfl) (by kernel_rfl) (fun w19 pu hs => ?_)
    refine LG.next (by kernel_rfl) ?_
    have hsr := hs
    refine CG.region ⟨[], none⟩ 8 [] mixed (by kernel_rfl) hs.g al_nil (fun _ hb => by cases hb) ?_
    refine Rg.own 0 22 [(1, 0, 5)] (qv (dotq a b k)) hs (by kernel_rfl) (by kernel_rfl) (fun _ _ => List.not_mem_nil) (by kernel_rfl) (by kernel_rfl) ?_
    refine Rg.own 1 23 [(0, 0, 5)] (qv (a.getD k 0)) hs (by kernel_rfl) (by kernel_rfl) (fun _ _ => List.not_mem_nil) (by kernel_rfl) (by kernel_rfl) ?_
    refine Rg.pure 2 24 (.slice D b.length cd) (by kernel_rfl) (by kernel_rfl) (fun _ => by kernel_rfl) ?_
    refine Rg.pure 3 25 (.int .i64 (k : Nat)) (by kernel_rfl) (by kernel_rfl) (fun _ => by kernel_rfl) ?_
    refine Rg.pure 4 26 (.pointer (some ⟨(aB D), aO D + k * 5, none⟩)) (by kernel_rfl) (by kernel_rfl) (fun _ => ixAddr (t := 31) (e := 81) (x := .tmp 24) (ix := .tmp 25) (A := D) (len := b.length) (cap := cd) (sz := 5) (i := (k : Nat)) k (by kernel_rfl) (by kernel_rfl) (by kernel_rfl) (by kernel_rfl) (by kernel_rfl) (hD.ok (by omega)) (by omega) (by omega) _) ?_
    refine Rg.load 5 27 (qv (b.getD k 0)) (by kernel_rfl) (by kernel_rfl) (fun _ hx => Seg.run (hD.el k (by omega)) hs.g hx.ext (by kernel_rfl)) ?_
    refine Rg.call 6 28 116 #[qv (a.getD k 0), qv (b.getD k 0)] (by kernel_rfl) (by kernel_rfl) (fun _ => by kernel_rfl) (fun w23 h24 u25 => ?_)
    replace hs := hs.step u25
    replace hA := hA.gw u25.gr.gw
    replace hD := hD.gw u25.gr.gw
    refine (Ret.of_ext hs.g (cMul (a.getD k 0) (b.getD k 0) (sa k (by omega)) (sb k (by omega)) w23)).mono ?_
    rintro _ w20 ⟨vu22, h21, rfl, u22, rfl⟩
    refine ⟨_, h21, rfl, u22.m _, ?_⟩
    replace hs := hs.step u22
    replace hA := hA.gw u22.gr.gw
    replace hD := hD.gw u22.gr.gw
    refine Rg.call 7 29 113 #[qv (dotq a b k), qv (a.getD k 0 * b.getD k 0)] (by kernel_rfl) (by kernel_rfl) (fun _ => by kernel_rfl) (fun w29 h30 u31 => ?_)
    replace hs := hs.step u31
    replace hA := hA.gw u31.gr.gw
    replace hD := hD.gw u31.gr.gw
    refine (Ret.of_ext hs.g (cAdd (dotq a b k) (a.getD k 0 * b.getD k 0) (sd k (by omega)) (sp k (by omega)) w29)).mono ?_
    rintro _ w26 ⟨vu28, h27, rfl, u28, rfl⟩
    refine ⟨_, h27, rfl, u28.m _, ?_⟩
    replace hs := hs.step u28
    replace hA := hA.gw u28.gr.gw
    replace hD := hD.gw u28.gr.gw
    refine Rg.fin0 (by kernel_rfl) (fun w32 h33 u34 => ?_)
    replace hs := hs.step u34
    replace hA := hA.gw u34.gr.gw
    replace hD := hD.gw u34.gr.gw
    refine T.put 8 1 0 (qc (dotq a b k + a.getD k 0 * b.getD k 0)) hs g (by kernel_rfl) (by kernel_rfl) (by kernel_rfl) (by kernel_rfl) (fun w35 pu hs => ?_)
    refine T.next (by kernel_rfl) ?_
    refine CG.to [(1, .slice D b.length cd), (4, .pointer (some ⟨b1, 0, none⟩)), (5, .bool false), (6, .pointer (some ⟨b6, 0, none⟩)), (15, .slice A a.length ca), (16, .int .i64 (a.length : Nat)), (17, .int .i64 (k : Nat))] (by kernel_rfl) ?_
    refine CG.listed ?_
    refine LG.val 30 (.int .i64 (k + 1 : Nat)) w35 (by kernel_rfl) (by kernel_rfl) (rint (ri64 (n := (k : Nat) + 1) (by kernel_rfl) (by omega) (by omega)) (by omega)) ?_
    refine LG.val 17 (.int .i64 (k + 1 : Nat)) w35 (by kernel_rfl) (by kernel_rfl) (by kernel_rfl) ?_
    refine LG.done (by kernel_rfl) ?_
    intro a_ ka
    replace hs := hs.drop 1
    refine ⟨_, _, ?_, ⟨k + 1, h33, rfl, rfl, hs.to _ (by kernel_rfl), hA, hD, by omega⟩, ka.to [(1, .slice D b.length cd), (4, .pointer (some ⟨b1, 0, none⟩)), (5, .bool false), (6, .pointer (some ⟨b6, 0, none⟩)), (15, .slice A a.length ca), (16, .int .i64 (a.length : Nat)), (17, .int .i64 ((k + 1) : Nat))] (by kernel_rfl)⟩
    omega

end Go.Proofs.YtokbipmfhfmnfaaGreatDoor
