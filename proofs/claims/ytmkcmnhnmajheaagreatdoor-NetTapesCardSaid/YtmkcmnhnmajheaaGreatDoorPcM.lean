/- The closed facts of the card of the law 'abaculuslaw30.NetTapes'. -/
import Derived.Test.YtmkcmnhnmajheaaGreatDoorRows
import Derived.Test.YtmkcmnhnmajheaaGreatDoorProg
import Derived.JoinedOf
import Derived.KernelRfl
import Derived.WalkKit
namespace Go.Proofs.YtmkcmnhnmajheaaGreatDoor
open Go.RowKit

theorem netTapesClosed : joinedFacts Tryz.pinned.checked.prog 6 Tryz.f6 Rows.netTapesSpec Rows.netTapesRow = true := by kernel_rfl
end Go.Proofs.YtmkcmnhnmajheaaGreatDoor
