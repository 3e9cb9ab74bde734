/- The card of the law 'abaculuslaw26.TermParses' holds. No condition of ours. -/
import Derived.Test.YtbbhdbhkaacnnaaGreatDoorQm0
import Derived.Test.YtbbhdbhkaacnnaaGreatDoorQm1
import Derived.Test.YtbbhdbhkaacnnaaGreatDoorQm2
import Derived.Test.YtbbhdbhkaacnnaaGreatDoorQm3
import Derived.Test.YtbbhdbhkaacnnaaGreatDoorQm4
import Derived.Test.YtbbhdbhkaacnnaaGreatDoorQm5
import Derived.Test.YtbbhdbhkaacnnaaGreatDoorQm6
import Derived.Test.YtbbhdbhkaacnnaaGreatDoorPcPa
import Derived.Lib.LaidTab
import Derived.FnData
import Derived.MakeChecks
import Derived.Stop.LaidErr
import Derived.Lay
import Derived.Test.YtbbhdbhkaacnnaaGreatDoorCards
import Derived.Test.YtbbhdbhkaacnnaaGreatDoorTie
import Derived.SevenTiedAt
import Derived.LaidMore
import Derived.Stop.Joined
import Derived.Test.YtbbhdbhkaacnnaaGreatDoorRows
import Derived.WalkKit
import Derived.ProofKit
import Derived.OpenShut
import Derived.ShutString
import Derived.ChangeOld
import Derived.Below
namespace Go.Proofs.YtbbhdbhkaacnnaaGreatDoor
open Go.RowKit

end Go.Proofs.YtbbhdbhkaacnnaaGreatDoor
namespace Go.Proofs.YtbbhdbhkaacnnaaGreatDoor.termParses
open Go.ChangeShapes Go.WideShapes Go.ChangeAt Go.RowKit
open Go.ChangeMaps (open_string shut_string)
set_option linter.unusedVariables false

theorem own:ownKnob Tryz.prog.godebug=none:=by kernel_rfl
theorem laidOut:laidOutB Tryz.prog=true:=by kernel_rfl


abbrev laid1 : List (String × DataW Unit) := [("math/bits.deBruijn32tab", Rows.laid_math_bits_deBruijn32tab), ("math/bits.deBruijn64tab", Rows.laid_math_bits_deBruijn64tab), ("internal/strconv.uint64pow10", Rows.laid_internal_strconv_uint64pow10), ("unicode/utf8.acceptRanges", Rows.laid_unicode_utf8_acceptRanges), ("unicode/utf8.first", Rows.laid_unicode_utf8_first)]
theorem tabP_of {w:World} (hL:laidMet Tryz.prog laid1 w):Ho w.heap:=by
  have hg : Tryz.prog.globalNamed "internal/strconv.uint64pow10" = some 3 := by kernel_rfl
  have hT : Lib.TabIs Tryz.prog w "internal/strconv.uint64pow10" .u64 Lib.pow10Tab :=
    Lib.tabIs_of_head (t:=206) (e:=22) (n:=20) hg (by kernel_rfl) Tryz.underlying206 Tryz.underlying22 (by kernel_rfl) (by kernel_rfl) (laidMet.tail (laidMet.tail hL))
  unfold Lib.TabIs World.var? at hT
  rw[hg] at hT
  rw[Option.bind_some] at hT
  cases hw:w.heap[3]? with
  | none=>rw[hw] at hT;cases hT
  | some o =>
    rw[hw] at hT
    cases o with
    | cells cs t g=>have e:=Option.some.inj hT;exact ⟨t,g,by rw[hw,e]⟩
    | _=>cases hT
theorem tab_of {w:World} (hL:laidMetH Tryz.prog laid1 w):Tab w.heap:=by
  rw[MakeChecks.laidMetH_plain _ _ _ (by kernel_rfl)] at hL
  have hg : Tryz.prog.globalNamed "math/bits.deBruijn64tab" = some 5 := by kernel_rfl
  have hT : Lib.TabIs Tryz.prog w "math/bits.deBruijn64tab" .u8 (Lib.deBruijn64tab.map fun k => ((k : Nat) : Int)) :=
    Lib.tabIs_of_head (t:=250) (e:=5) (n:=64) hg (by kernel_rfl) Tryz.underlying250 Tryz.underlying5 (by kernel_rfl) (by kernel_rfl) (laidMet.tail hL)
  refine ⟨?_,tabP_of hL⟩
  intro i v hv
  have hc:=World.var?_cell hg hT i
  have e:fG w.heap 5 (0+i)=w.cell? ⟨5,i,none⟩:=by
    unfold fG World.cell?;rw[Nat.zero_add]
    cases w.heap[5]? with
    | none=>rfl
    | some o=>cases o<;>rfl
  rw[e,hc,List.map_map]
  simpa using hv
theorem walk (a0:ByteArray) (w:World) (w0:a0.size<=maxLen) (hL:laidMetH Tryz.prog laid1 w) :
    Calls Tryz.prog 3 #[.string a0] w fun e w'=>e=.returned (.bool true)/\Below w.heap.size w w':=by
  refine (pi a0 w w.heap ⟨rfl,fun _=>.inl rfl⟩ (tab_of hL)).mono ?_
  rintro e w' ⟨v,h',rfl,u,rfl⟩
  exact ⟨rfl,u.ext⟩

/-! ### THE ROW's STEP -/
theorem door_met (os:Os) (args:Array Value):laidMetH Tryz.prog laid1 ((World.laidAll Tryz.prog os laid1).forCall (fun _ _=>0) ⟨#[],args,[]⟩).memory :=
  have e:laid1.filter (fun x=>x.2.handleName?.isNone)=laid1:=by kernel_rfl
  laidMetH_of_parts3 (fuel:=8) (by rw[e];exact laidMet_laidAll args (by kernel_rfl) (by kernel_rfl)) (by kernel_rfl) (by kernel_rfl)
set_option maxRecDepth 100000 in
theorem lifted (os:Os) (started:os.Started) (H:Type) (enc:TypeId × Value->H) :
    ReturnsInHanded {} Tryz.checked os 3 .any (fun w args=>(Rows.termParsesSpec.pre enc Tryz.prog Tryz.f3 [] false w args/\laidMetH Tryz.prog laid1 w)/\sizedMet enc Tryz.prog Tryz.f3 (OpenSpec.ofChange Rows.termParsesSpec) false w args) (Rows.termParsesSpec.post enc Tryz.prog Tryz.f3 false true false false):=by
  refine returnsInHanded_of_change_and (C:=Tryz.checked) (X:=fun w _=>laidMetH Tryz.prog laid1 w) (fun _ _ _ hh h=>h.of_heap hh) own started (by kernel_rfl) Tryz.func3
    (ChangeSpec.witness_shaped (enc:=enc) (C:=Tryz.checked) (os:=os) (X:=fun w _=>laidMetH Tryz.prog laid1 w) false (World.laidAll Tryz.prog os laid1) #[.string ⟨#[]⟩] 8 (World.laidAll_os _ _ _) (World.shaped_of_ZipB (by kernel_rfl) (by kernel_rfl)) (by kernel_rfl) (by kernel_rfl) (by kernel_rfl) (door_met os _)) ?_
  intro W base args ds gs before hval0 hW _ _ hL _
  have hval:∀ (j:Nat) t v,Tryz.f3.params[j]?=some t->args[j]?=some v->Value.okWide Tryz.prog W .any base t v:=hval0
  have hW':=hW
  obtain ⟨p,q,hA0,hV,rfl,hfz,hnd⟩:=hW
  have hA:DataW.TrodAll enc Tryz.prog W 0 (fun _=>true) true Tryz.f3.params.toList args.toList ds p:=hA0
  rw[Tryz.params3] at hA hval
  obtain ⟨v0,vs0,d0,ds0,p0,q0,hargs,rfl,rfl,h0,r0⟩:=trodAll_cons hA
  obtain ⟨rfl,rfl,rfl⟩:=trodAll_nil r0
  obtain rfl:args = #[v0]:=by cases args;simp_all
  obtain ⟨rfl,rfl⟩:=trodVars_none hV
  obtain ⟨a0,rfl,rfl,rfl,w0⟩:=open_string Tryz.underlying9 (hval 0 9 v0 rfl rfl) h0
  clear hA0 hval0
  refine (walk a0 W w0 hL).mono fun e W' ⟨he,bel⟩=>?_
  subst he
  exact ⟨_,rfl,_,_,_,[],_,[],hW',trodAll_mk1 (shut_bool Tryz.underlying4 _),(trodAll_cons_mk (shut_string Tryz.underlying9 w0) trodAll_mk0),rfl,bel.frame _,fun h=>by cases h⟩

theorem over:Rows.termParsesRow.holds Tryz.pinned (OpenSpec.ofChange Rows.termParsesSpec) :=
  OpenClaim.holds_of_wide 3 Tryz.f3 rfl rfl rfl rfl rfl rfl rfl ⟨rfl,rfl,rfl,rfl,rfl⟩ rfl rfl rfl rfl rfl (by kernel_rfl) Tryz.func3 termParsesClosed
    (of_decide_eq_true (by kernel_rfl)) (by unfold Func.isWrapper;first|(rw[if_pos (by decide +kernel)];kernel_rfl)|(rw[if_neg (by decide +kernel)];exact ⟨rfl,rfl⟩))
    (fun os started H enc _=>lifted os started H enc)

theorem rowHolds:Rows.TermParsesSaid:=over
end Go.Proofs.YtbbhdbhkaacnnaaGreatDoor.termParses
namespace Go.Proofs.YtbbhdbhkaacnnaaGreatDoor
open Go
/-- THE STATEMENT. -/
theorem termParsesProved:Rows.TermParsesCardSaid :=
  Claim7.holds_tied_plain_at .later [] [.data, .data, .data, .data, .pinned] true (true, "8bb0914fb68fe80148f187a1cd27a7b1af7d687a8033c01b1862d1be864c093a") false
    termParses.rowHolds (fun _ h=>by cases h) (by kernel_rfl) (fun _ h=>by cases h) termParses_row_tie rfl ⟨rfl,rfl⟩ (by kernel_rfl) rfl
    (fun f fn hf hfn=>by
      obtain rfl : f = 3 := Option.some.inj ((show Tryz.prog.funcNamed "abaculus/abaculuslaw26.TermParses" = some 3 by kernel_rfl).symm.trans hf) |>.symm
      obtain rfl:fn=Tryz.f3:=(Option.some.inj (Tryz.func3.symm.trans hfn)).symm
      exact ⟨by kernel_rfl,fun j t ht=>by
        rw[Tryz.params3] at ht
        have h3:t=9:=by
          rcases j with _|j
          . exact (by simpa using ht.symm)
          . simp at ht
        rcases h3 with rfl
        . exact (show Tryz.prog.wantsStandIn 9=false by kernel_rfl)⟩)
    (by kernel_rfl)
#print axioms termParsesProved
end Go.Proofs.YtbbhdbhkaacnnaaGreatDoor
