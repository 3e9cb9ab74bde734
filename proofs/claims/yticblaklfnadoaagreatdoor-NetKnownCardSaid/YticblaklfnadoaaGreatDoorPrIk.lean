/- THE CARD OF THE LAW 'abaculuslaw30.NetKnown' (the example of chapter 30 and further cases) HOLDS: the call returns true. No condition of ours. The frame is the one that the guide's program proof-skeleton.mjs writes. -/
import Derived.Test.YticblaklfnadoaaGreatDoorPi0
import Derived.Test.YticblaklfnadoaaGreatDoorPi1
import Derived.Test.YticblaklfnadoaaGreatDoorPi2
import Derived.Test.YticblaklfnadoaaGreatDoorPi3
import Derived.Test.YticblaklfnadoaaGreatDoorPi4
import Derived.Test.YticblaklfnadoaaGreatDoorPi5
import Derived.Test.YticblaklfnadoaaGreatDoorPcI
import Derived.Lib.LaidTab
import Derived.FnData
import Derived.MakeChecks
import Derived.Test.YticblaklfnadoaaGreatDoorCards
import Derived.Test.YticblaklfnadoaaGreatDoorTie
import Derived.SevenTiedAt
import Derived.LaidMore
import Derived.Stop.Joined
import Derived.Test.YticblaklfnadoaaGreatDoorRows
import Derived.WalkKit
import Derived.ProofKit
import Derived.OpenShut
import Derived.ShutString
import Derived.ChangeOld
import Derived.Below
namespace Go.Proofs.YticblaklfnadoaaGreatDoor
open Go.RowKit

end Go.Proofs.YticblaklfnadoaaGreatDoor
namespace Go.Proofs.YticblaklfnadoaaGreatDoor.netKnown
open Go.ChangeShapes Go.WideShapes Go.ChangeAt Go.RowKit
open Go.ChangeMaps (open_string shut_string)
set_option linter.unusedVariables false

theorem own : ownKnob Tryz.prog.godebug = none := by kernel_rfl
theorem laidOut : laidOutB Tryz.prog = true := by kernel_rfl


abbrev laid1 : List (String × DataW Unit) := [("math/bits.deBruijn64tab", Rows.laid_math_bits_deBruijn64tab)]
theorem tab_of {w : World} (hL : laidMetH Tryz.prog laid1 w) : Tab w.heap := by
  rw [MakeChecks.laidMetH_plain _ _ _ (by kernel_rfl)] at hL
  have hg : Tryz.prog.globalNamed "math/bits.deBruijn64tab" = some 2 := by kernel_rfl
  have hT : Lib.TabIs Tryz.prog w "math/bits.deBruijn64tab" .u8 (Lib.deBruijn64tab.map fun k => ((k : Nat) : Int)) :=
    Lib.tabIs_of_head (rest := []) (t := 304) (e := 5) (n := 64) hg (by kernel_rfl) Tryz.underlying304 Tryz.underlying5 (by kernel_rfl) (by kernel_rfl) hL
  intro i v hv
  have hc := World.var?_cell hg hT i
  have e : hcell w.heap 2 (0 + i) = w.cell? ⟨2, i, none⟩ := by
    unfold hcell World.cell?; rw [Nat.zero_add]
    cases w.heap[2]? with
    | none => rfl
    | some o => cases o <;> rfl
  rw [e, hc, List.map_map]
  simpa using hv
theorem walk  (w : World) (hL : laidMetH Tryz.prog laid1 w) :
    Calls Tryz.prog 5 #[] w fun e w' => e = .returned (.bool true) ∧ Below w.heap.size w w' := by
  refine (lNetKnown w w.heap ⟨rfl, fun _ => .inl rfl⟩ (tab_of hL)).mono ?_
  rintro e w' ⟨v, h', rfl, u, rfl⟩
  exact ⟨rfl, u.ext⟩

/-! ### THE ROW's STEP -/
theorem door_met (os : Os) (args : Array Value) : laidMetH Tryz.prog laid1 ((World.doorLaid Tryz.prog 4000 os).forCall (fun _ _ => 0) ⟨#[], args, []⟩).memory :=
  laidMetH_of_parts3 (fuel := 8) (laidMet_of_run' 8 (by kernel_rfl) (by kernel_rfl)) (by kernel_rfl) (by kernel_rfl)
set_option maxRecDepth 100000 in
theorem lifted (os : Os) (started : os.Started) (H : Type) (enc : TypeId × Value → H) :
    ReturnsInHanded {} Tryz.checked os 5 .any (fun w args => (Rows.netKnownSpec.pre enc Tryz.prog Tryz.f5 [] false w args ∧ laidMetH Tryz.prog laid1 w) ∧ sizedMet enc Tryz.prog Tryz.f5 (OpenSpec.ofChange Rows.netKnownSpec) false w args) (Rows.netKnownSpec.post enc Tryz.prog Tryz.f5 false true false false) := by
  refine returnsInHanded_of_change_and (C := Tryz.checked) (X := fun w _ => laidMetH Tryz.prog laid1 w) (fun _ _ _ hh h => h.of_heap hh) own started (by kernel_rfl) Tryz.func5
    (ChangeSpec.witness_shaped (enc := enc) (C := Tryz.checked) (os := os) (X := fun w _ => laidMetH Tryz.prog laid1 w) false (World.doorLaid Tryz.prog 4000 os) #[] 8 rfl (World.shaped_of_RefB (by kernel_rfl) (by kernel_rfl)) (by kernel_rfl) (by kernel_rfl) (by kernel_rfl) (door_met os _)) ?_
  intro W base args ds gs before hval0 hW _ _ hL _
  have hval : ∀ (j : Nat) t v, Tryz.f5.params[j]? = some t → args[j]? = some v → Value.okWide Tryz.prog W .any base t v := hval0
  have hW' := hW
  obtain ⟨p, q, hA0, hV, rfl, hfz, hnd⟩ := hW
  have hA : DataW.TrodAll enc Tryz.prog W 0 (fun _ => true) true Tryz.f5.params.toList args.toList ds p := hA0
  rw [Tryz.params5] at hA hval
  obtain ⟨hargs, rfl, rfl⟩ := trodAll_nil hA
  obtain rfl : args = #[] := by cases args; simp_all
  obtain ⟨rfl, rfl⟩ := trodVars_none hV
  clear hA0 hval0
  refine (walk  W  hL).mono fun e W' ⟨he, bel⟩ => ?_
  subst he
  exact ⟨_, rfl, _, _, _, [], _, [], hW', trodAll_mk1 (shut_bool Tryz.underlying4 _), trodAll_mk0, rfl, bel.frame _, fun h => by cases h⟩

theorem over : Rows.netKnownRow.holds Tryz.pinned (OpenSpec.ofChange Rows.netKnownSpec) :=
  OpenClaim.holds_of_wide 5 Tryz.f5 rfl rfl rfl rfl rfl rfl rfl ⟨rfl, rfl, rfl, rfl, rfl⟩ rfl rfl rfl rfl rfl (by kernel_rfl) Tryz.func5 netKnownClosed
    (of_decide_eq_true (by kernel_rfl)) (by unfold Func.isWrapper; first | (rw [if_pos (by decide +kernel)]; kernel_rfl) | (rw [if_neg (by decide +kernel)]; exact ⟨rfl, rfl⟩))
    (fun os started H enc _ => lifted os started H enc)

theorem rowHolds : Rows.NetKnownSaid := over
end Go.Proofs.YticblaklfnadoaaGreatDoor.netKnown
namespace Go.Proofs.YticblaklfnadoaaGreatDoor
open Go
/-- THE STATEMENT. -/
theorem netKnownProved : Rows.NetKnownCardSaid :=
  Claim7.holds_tied_plain_at .later [] [.data] true (true, "043f342e0541a148fe5bc9df4a52b6468bb0b5901ca17264c3af5c4eecfe5dfc") false
    netKnown.rowHolds (fun _ h => by cases h) (by kernel_rfl) (fun _ h => by cases h) netKnown_row_tie rfl ⟨rfl, rfl⟩ (by kernel_rfl) rfl
    (fun f fn hf hfn => by
      obtain rfl : f = 5 := Option.some.inj ((show Tryz.prog.funcNamed "abaculus/abaculuslaw30.NetKnown" = some 5 by kernel_rfl).symm.trans hf) |>.symm
      obtain rfl : fn = Tryz.f5 := (Option.some.inj (Tryz.func5.symm.trans hfn)).symm
      exact ⟨by kernel_rfl, fun j t ht => by
        rw [Tryz.params5] at ht
        simp at ht⟩)
    (by kernel_rfl)
#print axioms netKnownProved
end Go.Proofs.YticblaklfnadoaaGreatDoor
