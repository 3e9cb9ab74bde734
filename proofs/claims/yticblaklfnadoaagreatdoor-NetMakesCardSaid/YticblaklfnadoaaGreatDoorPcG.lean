/- The closed facts of the card of the law 'abaculuslaw30.NetMakes'. -/
import Derived.Test.YticblaklfnadoaaGreatDoorRows
import Derived.Test.YticblaklfnadoaaGreatDoorProg
import Derived.JoinedOf
import Derived.KernelRfl
import Derived.WalkKit
namespace Go.Proofs.YticblaklfnadoaaGreatDoor
open Go.RowKit

theorem netMakesClosed : joinedFacts Tryz.pinned.checked.prog 3 Tryz.f3 Rows.netMakesSpec Rows.netMakesRow = true := by kernel_rfl
end Go.Proofs.YticblaklfnadoaaGreatDoor
