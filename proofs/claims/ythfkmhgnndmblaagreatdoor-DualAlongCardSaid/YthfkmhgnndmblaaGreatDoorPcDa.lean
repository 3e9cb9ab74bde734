/- The closed facts of the card of the law 'abaculuslaw27.DualAlong'. -/
import Derived.Test.YthfkmhgnndmblaaGreatDoorRows
import Derived.Test.YthfkmhgnndmblaaGreatDoorProg
import Derived.JoinedOf
import Derived.KernelRfl
import Derived.WalkKit
namespace Go.Proofs.YthfkmhgnndmblaaGreatDoor
open Go.RowKit

theorem dualAlongClosed : joinedFacts Tryz.pinned.checked.prog 3 Tryz.f3 Rows.dualAlongSpec Rows.dualAlongRow = true := by kernel_rfl
end Go.Proofs.YthfkmhgnndmblaaGreatDoor
