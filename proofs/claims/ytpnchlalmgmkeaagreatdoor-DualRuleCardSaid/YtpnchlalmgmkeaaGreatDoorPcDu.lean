/- The closed facts of the card of the law 'abaculuslaw27.DualRule'. -/
import Derived.Test.YtpnchlalmgmkeaaGreatDoorRows
import Derived.Test.YtpnchlalmgmkeaaGreatDoorProg
import Derived.JoinedOf
import Derived.KernelRfl
import Derived.WalkKit
namespace Go.Proofs.YtpnchlalmgmkeaaGreatDoor
open Go.RowKit

theorem dualRuleClosed : joinedFacts Tryz.pinned.checked.prog 3 Tryz.f3 Rows.dualRuleSpec Rows.dualRuleRow = true := by kernel_rfl
end Go.Proofs.YtpnchlalmgmkeaaGreatDoor
