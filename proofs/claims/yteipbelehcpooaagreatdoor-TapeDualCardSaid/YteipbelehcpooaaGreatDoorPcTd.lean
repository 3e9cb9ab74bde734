/- The closed facts of the card of the law 'abaculuslaw28.TapeDual'. -/
import Derived.Test.YteipbelehcpooaaGreatDoorRows
import Derived.Test.YteipbelehcpooaaGreatDoorProg
import Derived.JoinedOf
import Derived.KernelRfl
import Derived.WalkKit
namespace Go.Proofs.YteipbelehcpooaaGreatDoor
open Go.RowKit

theorem tapeDualClosed : joinedFacts Tryz.pinned.checked.prog 3 Tryz.f3 Rows.tapeDualSpec Rows.tapeDualRow = true := by kernel_rfl
end Go.Proofs.YteipbelehcpooaaGreatDoor
