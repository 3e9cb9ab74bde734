/- THE CARD OF THE LAW 'abaculuslaw29.DescentSome' (which rows count in a round: Some agrees with the reference, whatever the rules) HOLDS: for every input the call returns true and leaves its arguments as they were. No condition of ours. The frame is the one that the guide's program proof-skeleton.mjs writes. -/
import Derived.Test.YtmniajdkjpcfjaaGreatDoorPq0
import Derived.Test.YtmniajdkjpcfjaaGreatDoorPq1
import Derived.Test.YtmniajdkjpcfjaaGreatDoorPq2
import Derived.Test.YtmniajdkjpcfjaaGreatDoorPq3
import Derived.Test.YtmniajdkjpcfjaaGreatDoorPq4
import Derived.Test.YtmniajdkjpcfjaaGreatDoorPq5
import Derived.Test.YtmniajdkjpcfjaaGreatDoorPcQ
import Derived.Lib.LaidTab
import Derived.FnData
import Derived.MakeChecks
import Derived.Test.YtmniajdkjpcfjaaGreatDoorCards
import Derived.Test.YtmniajdkjpcfjaaGreatDoorTie
import Derived.SevenTiedAt
import Derived.LaidMore
import Derived.Stop.Joined
import Derived.Test.YtmniajdkjpcfjaaGreatDoorRows
import Derived.WalkKit
import Derived.ProofKit
import Derived.OpenShut
import Derived.ShutString
import Derived.ChangeOld
import Derived.Below
namespace Go.Proofs.YtmniajdkjpcfjaaGreatDoor
open Go.RowKit


theorem lDescentSomeI (rate keep steps batch bits way n_ round_ sd : Int) (hr0 : -9223372036854775808 ≤ rate) (hr1 : rate ≤ 9223372036854775807) (hsd : 0 ≤ sd ∧ sd ≤ 18446744073709551615) (w : World) (h : Hp) (g : G w h) (tb : Tab h) :
    Calls Tryz.prog 3 #[.int .i64 rate, .int .i64 keep, .int .i64 steps, .int .i64 batch, .int .i64 bits, .int .i64 way, .int .i64 n_, .int .i64 round_, .int .u64 sd] w (Ret w h fun v _ => v = .bool true) := by
  obtain ⟨s, rfl⟩ := Int.eq_ofNat_of_zero_le hsd.1
  exact lDescentSome rate keep steps batch bits way n_ round_ s hr0 hr1 (by omega) w h g tb

end Go.Proofs.YtmniajdkjpcfjaaGreatDoor
namespace Go.Proofs.YtmniajdkjpcfjaaGreatDoor.descentSome
open Go.ChangeShapes Go.WideShapes Go.ChangeAt Go.RowKit
open Go.ChangeMaps (open_string shut_string)
set_option linter.unusedVariables false

theorem own : ownKnob Tryz.prog.godebug = none := by kernel_rfl
theorem laidOut : laidOutB Tryz.prog = true := by kernel_rfl


abbrev laid1 : List (String × DataW Unit) := [("math/bits.deBruijn64tab", Rows.laid_math_bits_deBruijn64tab)]
theorem tab_of {w : World} (hL : laidMetH Tryz.prog laid1 w) : Tab w.heap := by
  rw [MakeChecks.laidMetH_plain _ _ _ (by kernel_rfl)] at hL
  have hg : Tryz.prog.globalNamed "math/bits.deBruijn64tab" = some 2 := by kernel_rfl
  have hT : Lib.TabIs Tryz.prog w "math/bits.deBruijn64tab" .u8 (Lib.deBruijn64tab.map fun k => ((k : Nat) : Int)) :=
    Lib.tabIs_of_head (rest := []) (t := 204) (e := 5) (n := 64) hg (by kernel_rfl) Tryz.underlying204 Tryz.underlying5 (by kernel_rfl) (by kernel_rfl) hL
  intro i v hv
  have hc := World.var?_cell hg hT i
  have e : hcell w.heap 2 (0 + i) = w.cell? ⟨2, i, none⟩ := by
    unfold hcell World.cell?; rw [Nat.zero_add]
    cases w.heap[2]? with
    | none => rfl
    | some o => cases o <;> rfl
  rw [e, hc, List.map_map]
  simpa using hv
theorem walk (a0 : Int) (a1 : Int) (a2 : Int) (a3 : Int) (a4 : Int) (a5 : Int) (a6 : Int) (a7 : Int) (a8 : Int) (w : World) (w0 : (Lit.int .i64 a0).wf = true) (w1 : (Lit.int .i64 a1).wf = true) (w2 : (Lit.int .i64 a2).wf = true) (w3 : (Lit.int .i64 a3).wf = true) (w4 : (Lit.int .i64 a4).wf = true) (w5 : (Lit.int .i64 a5).wf = true) (w6 : (Lit.int .i64 a6).wf = true) (w7 : (Lit.int .i64 a7).wf = true) (w8 : (Lit.int .u64 a8).wf = true) (hL : laidMetH Tryz.prog laid1 w) :
    Calls Tryz.prog 3 #[.int .i64 a0, .int .i64 a1, .int .i64 a2, .int .i64 a3, .int .i64 a4, .int .i64 a5, .int .i64 a6, .int .i64 a7, .int .u64 a8] w fun e w' => e = .returned (.bool true) ∧ Below w.heap.size w w' := by
  have r0 : -9223372036854775808 ≤ a0 ∧ a0 ≤ 9223372036854775807 := by
    have e1 : IntKind.min .i64 = -9223372036854775808 := by decide
    have e2 : IntKind.max .i64 = 9223372036854775807 := by decide
    simpa only [Lit.wf, e1, e2, Bool.and_eq_true, decide_eq_true_eq] using w0
  have r1 : -9223372036854775808 ≤ a1 ∧ a1 ≤ 9223372036854775807 := by
    have e1 : IntKind.min .i64 = -9223372036854775808 := by decide
    have e2 : IntKind.max .i64 = 9223372036854775807 := by decide
    simpa only [Lit.wf, e1, e2, Bool.and_eq_true, decide_eq_true_eq] using w1
  have r2 : -9223372036854775808 ≤ a2 ∧ a2 ≤ 9223372036854775807 := by
    have e1 : IntKind.min .i64 = -9223372036854775808 := by decide
    have e2 : IntKind.max .i64 = 9223372036854775807 := by decide
    simpa only [Lit.wf, e1, e2, Bool.and_eq_true, decide_eq_true_eq] using w2
  have r3 : -9223372036854775808 ≤ a3 ∧ a3 ≤ 9223372036854775807 := by
    have e1 : IntKind.min .i64 = -9223372036854775808 := by decide
    have e2 : IntKind.max .i64 = 9223372036854775807 := by decide
    simpa only [Lit.wf, e1, e2, Bool.and_eq_true, decide_eq_true_eq] using w3
  have r4 : -9223372036854775808 ≤ a4 ∧ a4 ≤ 9223372036854775807 := by
    have e1 : IntKind.min .i64 = -9223372036854775808 := by decide
    have e2 : IntKind.max .i64 = 9223372036854775807 := by decide
    simpa only [Lit.wf, e1, e2, Bool.and_eq_true, decide_eq_true_eq] using w4
  have r5 : -9223372036854775808 ≤ a5 ∧ a5 ≤ 9223372036854775807 := by
    have e1 : IntKind.min .i64 = -9223372036854775808 := by decide
    have e2 : IntKind.max .i64 = 9223372036854775807 := by decide
    simpa only [Lit.wf, e1, e2, Bool.and_eq_true, decide_eq_true_eq] using w5
  have r6 : -9223372036854775808 ≤ a6 ∧ a6 ≤ 9223372036854775807 := by
    have e1 : IntKind.min .i64 = -9223372036854775808 := by decide
    have e2 : IntKind.max .i64 = 9223372036854775807 := by decide
    simpa only [Lit.wf, e1, e2, Bool.and_eq_true, decide_eq_true_eq] using w6
  have r7 : -9223372036854775808 ≤ a7 ∧ a7 ≤ 9223372036854775807 := by
    have e1 : IntKind.min .i64 = -9223372036854775808 := by decide
    have e2 : IntKind.max .i64 = 9223372036854775807 := by decide
    simpa only [Lit.wf, e1, e2, Bool.and_eq_true, decide_eq_true_eq] using w7
  have r8 : 0 ≤ a8 ∧ a8 ≤ 18446744073709551615 := by
    have e1 : IntKind.min .u64 = 0 := by decide
    have e2 : IntKind.max .u64 = 18446744073709551615 := by decide
    simpa only [Lit.wf, e1, e2, Bool.and_eq_true, decide_eq_true_eq] using w8
  refine (lDescentSomeI a0 a1 a2 a3 a4 a5 a6 a7 a8 r0.1 r0.2 r8 w w.heap ⟨rfl, fun _ => .inl rfl⟩ (tab_of hL)).mono ?_
  rintro e w' ⟨v, h', rfl, u, rfl⟩
  exact ⟨rfl, u.ext⟩

/-! ### THE ROW's STEP -/
theorem door_met (os : Os) (args : Array Value) : laidMetH Tryz.prog laid1 ((World.doorLaid Tryz.prog 4000 os).forCall (fun _ _ => 0) ⟨#[], args, []⟩).memory :=
  laidMetH_of_parts3 (fuel := 8) (laidMet_of_run' 8 (by kernel_rfl) (by kernel_rfl)) (by kernel_rfl) (by kernel_rfl)
set_option maxRecDepth 100000 in
theorem lifted (os : Os) (started : os.Started) (H : Type) (enc : TypeId × Value → H) :
    ReturnsInHanded {} Tryz.checked os 3 .any (fun w args => (Rows.descentSomeSpec.pre enc Tryz.prog Tryz.f3 [] false w args ∧ laidMetH Tryz.prog laid1 w) ∧ sizedMet enc Tryz.prog Tryz.f3 (OpenSpec.ofChange Rows.descentSomeSpec) false w args) (Rows.descentSomeSpec.post enc Tryz.prog Tryz.f3 false true false false) := by
  refine returnsInHanded_of_change_and (C := Tryz.checked) (X := fun w _ => laidMetH Tryz.prog laid1 w) (fun _ _ _ hh h => h.of_heap hh) own started (by kernel_rfl) Tryz.func3
    (ChangeSpec.witness_shaped (enc := enc) (C := Tryz.checked) (os := os) (X := fun w _ => laidMetH Tryz.prog laid1 w) false (World.doorLaid Tryz.prog 4000 os) #[.int .i64 0, .int .i64 0, .int .i64 0, .int .i64 0, .int .i64 0, .int .i64 0, .int .i64 0, .int .i64 0, .int .u64 0] 8 rfl (World.shaped_of_RefB (by kernel_rfl) (by kernel_rfl)) (by kernel_rfl) (by kernel_rfl) (by kernel_rfl) (door_met os _)) ?_
  intro W base args ds gs before hval0 hW _ _ hL _
  have hval : ∀ (j : Nat) t v, Tryz.f3.params[j]? = some t → args[j]? = some v → Value.okWide Tryz.prog W .any base t v := hval0
  have hW' := hW
  obtain ⟨p, q, hA0, hV, rfl, hfz, hnd⟩ := hW
  have hA : DataW.TrodAll enc Tryz.prog W 0 (fun _ => true) true Tryz.f3.params.toList args.toList ds p := hA0
  rw [Tryz.params3] at hA hval
  obtain ⟨v0, vs0, d0, ds0, p0, q0, hargs, rfl, rfl, h0, r0⟩ := trodAll_cons hA
  obtain ⟨v1, vs1, d1, ds1, p1, q1, rfl, rfl, rfl, h1, r1⟩ := trodAll_cons r0
  obtain ⟨v2, vs2, d2, ds2, p2, q2, rfl, rfl, rfl, h2, r2⟩ := trodAll_cons r1
  obtain ⟨v3, vs3, d3, ds3, p3, q3, rfl, rfl, rfl, h3, r3⟩ := trodAll_cons r2
  obtain ⟨v4, vs4, d4, ds4, p4, q4, rfl, rfl, rfl, h4, r4⟩ := trodAll_cons r3
  obtain ⟨v5, vs5, d5, ds5, p5, q5, rfl, rfl, rfl, h5, r5⟩ := trodAll_cons r4
  obtain ⟨v6, vs6, d6, ds6, p6, q6, rfl, rfl, rfl, h6, r6⟩ := trodAll_cons r5
  obtain ⟨v7, vs7, d7, ds7, p7, q7, rfl, rfl, rfl, h7, r7⟩ := trodAll_cons r6
  obtain ⟨v8, vs8, d8, ds8, p8, q8, rfl, rfl, rfl, h8, r8⟩ := trodAll_cons r7
  obtain ⟨rfl, rfl, rfl⟩ := trodAll_nil r8
  obtain rfl : args = #[v0, v1, v2, v3, v4, v5, v6, v7, v8] := by cases args; simp_all
  obtain ⟨rfl, rfl⟩ := trodVars_none hV
  obtain ⟨a0, rfl, rfl, rfl, w0⟩ := open_int Tryz.underlying3 (hval 0 3 v0 rfl rfl) h0
  obtain ⟨a1, rfl, rfl, rfl, w1⟩ := open_int Tryz.underlying3 (hval 1 3 v1 rfl rfl) h1
  obtain ⟨a2, rfl, rfl, rfl, w2⟩ := open_int Tryz.underlying3 (hval 2 3 v2 rfl rfl) h2
  obtain ⟨a3, rfl, rfl, rfl, w3⟩ := open_int Tryz.underlying3 (hval 3 3 v3 rfl rfl) h3
  obtain ⟨a4, rfl, rfl, rfl, w4⟩ := open_int Tryz.underlying3 (hval 4 3 v4 rfl rfl) h4
  obtain ⟨a5, rfl, rfl, rfl, w5⟩ := open_int Tryz.underlying3 (hval 5 3 v5 rfl rfl) h5
  obtain ⟨a6, rfl, rfl, rfl, w6⟩ := open_int Tryz.underlying3 (hval 6 3 v6 rfl rfl) h6
  obtain ⟨a7, rfl, rfl, rfl, w7⟩ := open_int Tryz.underlying3 (hval 7 3 v7 rfl rfl) h7
  obtain ⟨a8, rfl, rfl, rfl, w8⟩ := open_int Tryz.underlying22 (hval 8 22 v8 rfl rfl) h8
  clear hA0 hval0
  refine (walk a0 a1 a2 a3 a4 a5 a6 a7 a8 W w0 w1 w2 w3 w4 w5 w6 w7 w8 hL).mono fun e W' ⟨he, bel⟩ => ?_
  subst he
  exact ⟨_, rfl, _, _, _, [], _, [], hW', trodAll_mk1 (shut_bool Tryz.underlying4 _), (trodAll_cons_mk (shut_int Tryz.underlying3 w0) (trodAll_cons_mk (shut_int Tryz.underlying3 w1) (trodAll_cons_mk (shut_int Tryz.underlying3 w2) (trodAll_cons_mk (shut_int Tryz.underlying3 w3) (trodAll_cons_mk (shut_int Tryz.underlying3 w4) (trodAll_cons_mk (shut_int Tryz.underlying3 w5) (trodAll_cons_mk (shut_int Tryz.underlying3 w6) (trodAll_cons_mk (shut_int Tryz.underlying3 w7) (trodAll_cons_mk (shut_int Tryz.underlying22 w8) trodAll_mk0))))))))), rfl, bel.frame _, fun h => by cases h⟩

theorem over : Rows.descentSomeRow.holds Tryz.pinned (OpenSpec.ofChange Rows.descentSomeSpec) :=
  OpenClaim.holds_of_wide 3 Tryz.f3 rfl rfl rfl rfl rfl rfl rfl ⟨rfl, rfl, rfl, rfl, rfl⟩ rfl rfl rfl rfl rfl (by kernel_rfl) Tryz.func3 descentSomeClosed
    (of_decide_eq_true (by kernel_rfl)) (by unfold Func.isWrapper; first | (rw [if_pos (by decide +kernel)]; kernel_rfl) | (rw [if_neg (by decide +kernel)]; exact ⟨rfl, rfl⟩))
    (fun os started H enc _ => lifted os started H enc)

theorem rowHolds : Rows.DescentSomeSaid := over
end Go.Proofs.YtmniajdkjpcfjaaGreatDoor.descentSome
namespace Go.Proofs.YtmniajdkjpcfjaaGreatDoor
open Go
/-- THE STATEMENT. -/
theorem descentSomeProved : Rows.DescentSomeCardSaid :=
  Claim7.holds_tied_plain_at .later [] [.data] true (true, "df38c3b162a9160a9f674e2d7c07a2826d05a450cf95173229355d342264ac73") false
    descentSome.rowHolds (fun _ h => by cases h) (by kernel_rfl) (fun _ h => by cases h) descentSome_row_tie rfl ⟨rfl, rfl⟩ (by kernel_rfl) rfl
    (fun f fn hf hfn => by
      obtain rfl : f = 3 := Option.some.inj ((show Tryz.prog.funcNamed "abaculus/abaculuslaw29.DescentSome" = some 3 by kernel_rfl).symm.trans hf) |>.symm
      obtain rfl : fn = Tryz.f3 := (Option.some.inj (Tryz.func3.symm.trans hfn)).symm
      exact ⟨by kernel_rfl, fun j t ht => by
        rw [Tryz.params3] at ht
        have h3 : t = 3 ∨ t = 22 := by
          rcases j with _ | _ | _ | _ | _ | _ | _ | _ | _ | j
          · exact .inl (by simpa using ht.symm)
          · exact .inl (by simpa using ht.symm)
          · exact .inl (by simpa using ht.symm)
          · exact .inl (by simpa using ht.symm)
          · exact .inl (by simpa using ht.symm)
          · exact .inl (by simpa using ht.symm)
          · exact .inl (by simpa using ht.symm)
          · exact .inl (by simpa using ht.symm)
          · exact .inr ((by simpa using ht.symm))
          · simp at ht
        rcases h3 with rfl | rfl
        · exact (show Tryz.prog.wantsStandIn 3 = false by kernel_rfl)
        · exact (show Tryz.prog.wantsStandIn 22 = false by kernel_rfl)⟩)
    (by kernel_rfl)
#print axioms descentSomeProved
end Go.Proofs.YtmniajdkjpcfjaaGreatDoor
