/- The closed facts of the card of the law 'abaculuslaw29.DescentEnds'. -/
import Derived.Test.YtnbjahmpennmkaaGreatDoorRows
import Derived.Test.YtnbjahmpennmkaaGreatDoorProg
import Derived.JoinedOf
import Derived.KernelRfl
import Derived.WalkKit
namespace Go.Proofs.YtnbjahmpennmkaaGreatDoor
open Go.RowKit

theorem descentEndsClosed : joinedFacts Tryz.pinned.checked.prog 4 Tryz.f4 Rows.descentEndsSpec Rows.descentEndsRow = true := by kernel_rfl
end Go.Proofs.YtnbjahmpennmkaaGreatDoor
