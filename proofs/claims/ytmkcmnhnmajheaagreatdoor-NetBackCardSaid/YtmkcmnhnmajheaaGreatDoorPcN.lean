/- The closed facts of the card of the law 'abaculuslaw30.NetBack'. -/
import Derived.Test.YtmkcmnhnmajheaaGreatDoorRows
import Derived.Test.YtmkcmnhnmajheaaGreatDoorProg
import Derived.JoinedOf
import Derived.KernelRfl
import Derived.WalkKit
namespace Go.Proofs.YtmkcmnhnmajheaaGreatDoor
open Go.RowKit

theorem netBackClosed : joinedFacts Tryz.pinned.checked.prog 7 Tryz.f7 Rows.netBackSpec Rows.netBackRow = true := by kernel_rfl
end Go.Proofs.YtmkcmnhnmajheaaGreatDoor
