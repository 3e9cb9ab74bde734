/- The closed facts of the card of the law 'abaculuslaw28.TapeTurns'. -/
import Derived.Test.YtmkcmnhnmajheaaGreatDoorRows
import Derived.Test.YtmkcmnhnmajheaaGreatDoorProg
import Derived.JoinedOf
import Derived.KernelRfl
import Derived.WalkKit
namespace Go.Proofs.YtmkcmnhnmajheaaGreatDoor
open Go.RowKit

theorem tapeTurnsClosed : joinedFacts Tryz.pinned.checked.prog 5 Tryz.f5 Rows.tapeTurnsSpec Rows.tapeTurnsRow = true := by kernel_rfl
end Go.Proofs.YtmkcmnhnmajheaaGreatDoor
