/- The closed facts of the card of the law 'abaculuslaw29.DescentConj'. -/
import Derived.Test.YtnbjahmpennmkaaGreatDoorRows
import Derived.Test.YtnbjahmpennmkaaGreatDoorProg
import Derived.JoinedOf
import Derived.KernelRfl
import Derived.WalkKit
namespace Go.Proofs.YtnbjahmpennmkaaGreatDoor
open Go.RowKit

theorem descentConjClosed : joinedFacts Tryz.pinned.checked.prog 3 Tryz.f3 Rows.descentConjSpec Rows.descentConjRow = true := by kernel_rfl
end Go.Proofs.YtnbjahmpennmkaaGreatDoor
