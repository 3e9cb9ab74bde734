/- The closed facts of the card of the law 'abaculuslaw27.DualRuns'. -/
import Derived.Test.YtnphimgdpdiekaaGreatDoorRows
import Derived.Test.YtnphimgdpdiekaaGreatDoorProg
import Derived.JoinedOf
import Derived.KernelRfl
import Derived.WalkKit
namespace Go.Proofs.YtnphimgdpdiekaaGreatDoor
open Go.RowKit

theorem dualRunsClosed : joinedFacts Tryz.pinned.checked.prog 3 Tryz.f3 Rows.dualRunsSpec Rows.dualRunsRow = true := by kernel_rfl
end Go.Proofs.YtnphimgdpdiekaaGreatDoor
