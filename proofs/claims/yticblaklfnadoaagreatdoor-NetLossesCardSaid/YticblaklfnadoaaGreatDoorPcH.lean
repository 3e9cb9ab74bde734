/- The closed facts of the card of the law 'abaculuslaw30.NetLosses'. -/
import Derived.Test.YticblaklfnadoaaGreatDoorRows
import Derived.Test.YticblaklfnadoaaGreatDoorProg
import Derived.JoinedOf
import Derived.KernelRfl
import Derived.WalkKit
namespace Go.Proofs.YticblaklfnadoaaGreatDoor
open Go.RowKit

theorem netLossesClosed : joinedFacts Tryz.pinned.checked.prog 6 Tryz.f6 Rows.netLossesSpec Rows.netLossesRow = true := by kernel_rfl
end Go.Proofs.YticblaklfnadoaaGreatDoor
