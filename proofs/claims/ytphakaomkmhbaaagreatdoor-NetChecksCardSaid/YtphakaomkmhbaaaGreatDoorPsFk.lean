/- THE CARD OF THE LAW 'abaculuslaw30.NetChecks' (Check, Sizes, Flat and With agree with the reference) HOLDS: for every input the call returns true and leaves its arguments as they were. No condition of ours. The frame is the one that the guide's program proof-skeleton.mjs writes. -/
import Derived.Test.YtphakaomkmhbaaaGreatDoorPrFk
import Derived.Test.YtphakaomkmhbaaaGreatDoorPf0
import Derived.Test.YtphakaomkmhbaaaGreatDoorPf1
import Derived.Test.YtphakaomkmhbaaaGreatDoorPf2
import Derived.Test.YtphakaomkmhbaaaGreatDoorPf3
import Derived.Test.YtphakaomkmhbaaaGreatDoorPf4
import Derived.Test.YtphakaomkmhbaaaGreatDoorPf5
import Derived.Test.YtphakaomkmhbaaaGreatDoorPcF
import Derived.Lib.LaidTab
import Derived.FnData
import Derived.MakeChecks
import Derived.Test.YtphakaomkmhbaaaGreatDoorCards
import Derived.Test.YtphakaomkmhbaaaGreatDoorTie
import Derived.SevenTiedAt
import Derived.LaidMore
import Derived.Stop.Joined
import Derived.Test.YtphakaomkmhbaaaGreatDoorRows
import Derived.WalkKit
import Derived.ProofKit
import Derived.OpenShut
import Derived.ShutString
import Derived.ChangeOld
import Derived.Below
namespace Go.Proofs.YtphakaomkmhbaaaGreatDoor
open Go
/-- THE STATEMENT. -/
theorem netChecksProved : Rows.NetChecksCardSaid :=
  Claim7.holds_tied_plain_at .later [] [.data] true (true, "407799b4f1c31e2fa7a693a131a42354a3aea4a00adc50032135a24a5a66cecf") false
    netChecks.rowHolds (fun _ h => by cases h) (by kernel_rfl) (fun _ h => by cases h) netChecks_row_tie rfl ⟨rfl, rfl⟩ (by kernel_rfl) rfl
    (fun f fn hf hfn => by
      obtain rfl : f = 12 := Option.some.inj ((show Tryz.prog.funcNamed "abaculus/abaculuslaw30.NetChecks" = some 12 by kernel_rfl).symm.trans hf) |>.symm
      obtain rfl : fn = Tryz.f12 := (Option.some.inj (Tryz.func12.symm.trans hfn)).symm
      exact ⟨by kernel_rfl, fun j t ht => by
        rw [Tryz.params12] at ht
        have h3 : t = 22 ∨ t = 3 := by
          rcases j with _ | _ | _ | _ | _ | _ | _ | _ | _ | j
          · exact .inl (by simpa using ht.symm)
          · exact .inr ((by simpa using ht.symm))
          · exact .inr ((by simpa using ht.symm))
          · exact .inr ((by simpa using ht.symm))
          · exact .inr ((by simpa using ht.symm))
          · exact .inr ((by simpa using ht.symm))
          · exact .inr ((by simpa using ht.symm))
          · exact .inr ((by simpa using ht.symm))
          · exact .inr ((by simpa using ht.symm))
          · simp at ht
        rcases h3 with rfl | rfl
        · exact (show Tryz.prog.wantsStandIn 22 = false by kernel_rfl)
        · exact (show Tryz.prog.wantsStandIn 3 = false by kernel_rfl)⟩)
    (by kernel_rfl)
#print axioms netChecksProved
end Go.Proofs.YtphakaomkmhbaaaGreatDoor
