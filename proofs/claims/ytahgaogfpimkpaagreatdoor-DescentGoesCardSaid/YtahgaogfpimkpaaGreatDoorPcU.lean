/- The closed facts of the card of the law 'abaculuslaw29.DescentGoes'. -/
import Derived.Test.YtahgaogfpimkpaaGreatDoorRows
import Derived.Test.YtahgaogfpimkpaaGreatDoorProg
import Derived.JoinedOf
import Derived.KernelRfl
import Derived.WalkKit
namespace Go.Proofs.YtahgaogfpimkpaaGreatDoor
open Go.RowKit

theorem descentGoesClosed : joinedFacts Tryz.pinned.checked.prog 3 Tryz.f3 Rows.descentGoesSpec Rows.descentGoesRow = true := by kernel_rfl
end Go.Proofs.YtahgaogfpimkpaaGreatDoor
