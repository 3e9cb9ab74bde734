/- The closed facts of the card of the law 'abaculuslaw27.DualSeries'. -/
import Derived.Test.YtlidpooijdogdaaGreatDoorRows
import Derived.Test.YtlidpooijdogdaaGreatDoorProg
import Derived.JoinedOf
import Derived.KernelRfl
import Derived.WalkKit
namespace Go.Proofs.YtlidpooijdogdaaGreatDoor
open Go.RowKit

theorem dualSeriesClosed : joinedFacts Tryz.pinned.checked.prog 3 Tryz.f3 Rows.dualSeriesSpec Rows.dualSeriesRow = true := by kernel_rfl
end Go.Proofs.YtlidpooijdogdaaGreatDoor
