/- THE CARD OF THE LAW 'abaculuslaw26.TermKnown' (the examples of chapter 26 and further cases) HOLDS: the call returns true. No condition of ours. The frame is the one that the guide's program proof-skeleton.mjs writes. -/
import Derived.Test.YtebkpkbmegcjeaaGreatDoorQa0
import Derived.Test.YtebkpkbmegcjeaaGreatDoorQa1
import Derived.Test.YtebkpkbmegcjeaaGreatDoorQa2
import Derived.Test.YtebkpkbmegcjeaaGreatDoorQa3
import Derived.Test.YtebkpkbmegcjeaaGreatDoorQa4
import Derived.Test.YtebkpkbmegcjeaaGreatDoorQa5
import Derived.Test.YtebkpkbmegcjeaaGreatDoorPcKn
import Derived.Lib.LaidTab
import Derived.FnData
import Derived.MakeChecks
import Derived.Stop.LaidErr
import Derived.Lay
import Derived.Test.YtebkpkbmegcjeaaGreatDoorCards
import Derived.Test.YtebkpkbmegcjeaaGreatDoorTie
import Derived.SevenTiedAt
import Derived.LaidMore
import Derived.Stop.Joined
import Derived.Test.YtebkpkbmegcjeaaGreatDoorRows
import Derived.WalkKit
import Derived.ProofKit
import Derived.OpenShut
import Derived.ShutString
import Derived.ChangeOld
import Derived.Below
namespace Go.Proofs.YtebkpkbmegcjeaaGreatDoor
open Go.RowKit

end Go.Proofs.YtebkpkbmegcjeaaGreatDoor
namespace Go.Proofs.YtebkpkbmegcjeaaGreatDoor.termKnown
open Go.ChangeShapes Go.WideShapes Go.ChangeAt Go.RowKit
open Go.ChangeMaps (open_string shut_string)
set_option linter.unusedVariables false

theorem own:ownKnob Tryz.prog.godebug=none:=by kernel_rfl
theorem laidOut:laidOutB Tryz.prog=true:=by kernel_rfl


abbrev laid1 : List (String × DataW Unit) := [("math/bits.deBruijn32tab", Rows.laid_math_bits_deBruijn32tab), ("math/bits.deBruijn64tab", Rows.laid_math_bits_deBruijn64tab), ("internal/strconv.uint64pow10", Rows.laid_internal_strconv_uint64pow10), ("unicode/utf8.acceptRanges", Rows.laid_unicode_utf8_acceptRanges), ("unicode/utf8.first", Rows.laid_unicode_utf8_first)]
theorem tab_of {w:World} (hL:laidMetH Tryz.prog laid1 w):Tab w.heap:=by
  rw[MakeChecks.laidMetH_plain _ _ _ (by kernel_rfl)] at hL
  have hg : Tryz.prog.globalNamed "math/bits.deBruijn64tab" = some 4 := by kernel_rfl
  have hT : Lib.TabIs Tryz.prog w "math/bits.deBruijn64tab" .u8 (Lib.deBruijn64tab.map fun k => ((k : Nat) : Int)) :=
    Lib.tabIs_of_head (t:=213) (e:=5) (n:=64) hg (by kernel_rfl) Tryz.underlying213 Tryz.underlying5 (by kernel_rfl) (by kernel_rfl) (laidMet.tail hL)
  intro i v hv
  have hc:=World.var?_cell hg hT i
  have e:d8 w.heap 4 (0+i)=w.cell? ⟨4,i,none⟩:=by
    unfold d8 World.cell?;rw[Nat.zero_add]
    cases w.heap[4]? with
    | none=>rfl
    | some o=>cases o<;>rfl
  rw[e,hc,List.map_map]
  simpa using hv
theorem walk  (w:World) (hL:laidMetH Tryz.prog laid1 w) :
    Calls Tryz.prog 3 #[] w fun e w'=>e=.returned (.bool true)∧Below w.heap.size w w':=by
  refine (mT w w.heap ⟨rfl,fun _=>.inl rfl⟩ (tab_of hL)).mono ?_
  rintro e w' ⟨v,h',rfl,u,rfl⟩
  exact ⟨rfl,u.ext⟩

/-! ### THE ROW's STEP -/
theorem door_met (os:Os) (args:Array Value):laidMetH Tryz.prog laid1 ((World.laidAll Tryz.prog os laid1).forCall (fun _ _=>0) ⟨#[],args,[]⟩).memory :=
  have e:laid1.filter (fun x=>x.2.handleName?.isNone)=laid1:=by kernel_rfl
  laidMetH_of_parts3 (fuel:=8) (by rw[e];exact laidMet_laidAll args (by kernel_rfl) (by kernel_rfl)) (by kernel_rfl) (by kernel_rfl)
set_option maxRecDepth 100000 in
theorem lifted (os:Os) (started:os.Started) (H:Type) (enc:TypeId × Value→H) :
    ReturnsInHanded {} Tryz.checked os 3 .any (fun w args=>(Rows.termKnownSpec.pre enc Tryz.prog Tryz.f3 [] false w args∧laidMetH Tryz.prog laid1 w)∧sizedMet enc Tryz.prog Tryz.f3 (OpenSpec.ofChange Rows.termKnownSpec) false w args) (Rows.termKnownSpec.post enc Tryz.prog Tryz.f3 false true false false):=by
  refine returnsInHanded_of_change_and (C:=Tryz.checked) (X:=fun w _=>laidMetH Tryz.prog laid1 w) (fun _ _ _ hh h=>h.of_heap hh) own started (by kernel_rfl) Tryz.func3
    (ChangeSpec.witness_shaped (enc:=enc) (C:=Tryz.checked) (os:=os) (X:=fun w _=>laidMetH Tryz.prog laid1 w) false (World.laidAll Tryz.prog os laid1) #[] 8 (World.laidAll_os _ _ _) (World.shaped_of_ZipB (by kernel_rfl) (by kernel_rfl)) (by kernel_rfl) (by kernel_rfl) (by kernel_rfl) (door_met os _)) ?_
  intro W base args ds gs before hval0 hW _ _ hL _
  have hval:∀ (j:Nat) t v,Tryz.f3.params[j]?=some t→args[j]?=some v→Value.okWide Tryz.prog W .any base t v:=hval0
  have hW':=hW
  obtain ⟨p,q,hA0,hV,rfl,hfz,hnd⟩:=hW
  have hA:DataW.TrodAll enc Tryz.prog W 0 (fun _=>true) true Tryz.f3.params.toList args.toList ds p:=hA0
  rw[Tryz.params3] at hA hval
  obtain ⟨hargs,rfl,rfl⟩:=trodAll_nil hA
  obtain rfl:args = #[]:=by cases args;simp_all
  obtain ⟨rfl,rfl⟩:=trodVars_none hV
  clear hA0 hval0
  refine (walk  W  hL).mono fun e W' ⟨he,bel⟩=>?_
  subst he
  exact ⟨_,rfl,_,_,_,[],_,[],hW',trodAll_mk1 (shut_bool Tryz.underlying4 _),trodAll_mk0,rfl,bel.frame _,fun h=>by cases h⟩

theorem over:Rows.termKnownRow.holds Tryz.pinned (OpenSpec.ofChange Rows.termKnownSpec) :=
  OpenClaim.holds_of_wide 3 Tryz.f3 rfl rfl rfl rfl rfl rfl rfl ⟨rfl,rfl,rfl,rfl,rfl⟩ rfl rfl rfl rfl rfl (by kernel_rfl) Tryz.func3 termKnownClosed
    (of_decide_eq_true (by kernel_rfl)) (by unfold Func.isWrapper;first|(rw[if_pos (by decide +kernel)];kernel_rfl)|(rw[if_neg (by decide +kernel)];exact ⟨rfl,rfl⟩))
    (fun os started H enc _=>lifted os started H enc)

theorem rowHolds:Rows.TermKnownSaid:=over
end Go.Proofs.YtebkpkbmegcjeaaGreatDoor.termKnown
namespace Go.Proofs.YtebkpkbmegcjeaaGreatDoor
open Go
/-- THE STATEMENT. -/
theorem termKnownProved:Rows.TermKnownCardSaid :=
  Claim7.holds_tied_plain_at .later [] [.data, .data, .data, .data, .pinned] true (true, "ad5a5dbea49c3ab8cbcba53d5868e4026ab59f7194d0e008bc455a49e81e51a0") false
    termKnown.rowHolds (fun _ h=>by cases h) (by kernel_rfl) (fun _ h=>by cases h) termKnown_row_tie rfl ⟨rfl,rfl⟩ (by kernel_rfl) rfl
    (fun f fn hf hfn=>by
      obtain rfl : f = 3 := Option.some.inj ((show Tryz.prog.funcNamed "abaculus/abaculuslaw26.TermKnown" = some 3 by kernel_rfl).symm.trans hf) |>.symm
      obtain rfl:fn=Tryz.f3:=(Option.some.inj (Tryz.func3.symm.trans hfn)).symm
      exact ⟨by kernel_rfl,fun j t ht=>by
        rw[Tryz.params3] at ht
        simp at ht⟩)
    (by kernel_rfl)
#print axioms termKnownProved
end Go.Proofs.YtebkpkbmegcjeaaGreatDoor
