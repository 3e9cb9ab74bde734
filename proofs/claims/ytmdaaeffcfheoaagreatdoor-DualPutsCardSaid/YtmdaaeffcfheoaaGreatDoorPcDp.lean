/- The closed facts of the card of the law 'abaculuslaw27.DualPuts'. -/
import Derived.Test.YtmdaaeffcfheoaaGreatDoorRows
import Derived.Test.YtmdaaeffcfheoaaGreatDoorProg
import Derived.JoinedOf
import Derived.KernelRfl
import Derived.WalkKit
namespace Go.Proofs.YtmdaaeffcfheoaaGreatDoor
open Go.RowKit

theorem dualPutsClosed : joinedFacts Tryz.pinned.checked.prog 3 Tryz.f3 Rows.dualPutsSpec Rows.dualPutsRow = true := by kernel_rfl
end Go.Proofs.YtmdaaeffcfheoaaGreatDoor
