/- The closed facts of the card of the law 'abaculuslaw27.DualHalves'. -/
import Derived.Test.YtcbgbcghmndlmaaGreatDoorRows
import Derived.Test.YtcbgbcghmndlmaaGreatDoorProg
import Derived.JoinedOf
import Derived.KernelRfl
import Derived.WalkKit
namespace Go.Proofs.YtcbgbcghmndlmaaGreatDoor
open Go.RowKit

theorem dualHalvesClosed : joinedFacts Tryz.pinned.checked.prog 3 Tryz.f3 Rows.dualHalvesSpec Rows.dualHalvesRow = true := by kernel_rfl
end Go.Proofs.YtcbgbcghmndlmaaGreatDoor
