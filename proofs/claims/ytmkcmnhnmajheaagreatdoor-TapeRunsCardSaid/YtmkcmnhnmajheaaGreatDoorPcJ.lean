/- The closed facts of the card of the law 'abaculuslaw28.TapeRuns'. -/
import Derived.Test.YtmkcmnhnmajheaaGreatDoorRows
import Derived.Test.YtmkcmnhnmajheaaGreatDoorProg
import Derived.JoinedOf
import Derived.KernelRfl
import Derived.WalkKit
namespace Go.Proofs.YtmkcmnhnmajheaaGreatDoor
open Go.RowKit

theorem tapeRunsClosed : joinedFacts Tryz.pinned.checked.prog 3 Tryz.f3 Rows.tapeRunsSpec Rows.tapeRunsRow = true := by kernel_rfl
end Go.Proofs.YtmkcmnhnmajheaaGreatDoor
