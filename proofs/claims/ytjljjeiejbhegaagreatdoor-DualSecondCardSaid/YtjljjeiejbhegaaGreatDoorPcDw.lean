/- The closed facts of the card of the law 'abaculuslaw27.DualSecond'. -/
import Derived.Test.YtjljjeiejbhegaaGreatDoorRows
import Derived.Test.YtjljjeiejbhegaaGreatDoorProg
import Derived.JoinedOf
import Derived.KernelRfl
import Derived.WalkKit
namespace Go.Proofs.YtjljjeiejbhegaaGreatDoor
open Go.RowKit

theorem dualSecondClosed : joinedFacts Tryz.pinned.checked.prog 3 Tryz.f3 Rows.dualSecondSpec Rows.dualSecondRow = true := by kernel_rfl
end Go.Proofs.YtjljjeiejbhegaaGreatDoor
