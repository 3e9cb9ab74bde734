/- The closed facts of the card of the law 'abaculuslaw30.NetKnown'. -/
import Derived.Test.YticblaklfnadoaaGreatDoorRows
import Derived.Test.YticblaklfnadoaaGreatDoorProg
import Derived.JoinedOf
import Derived.KernelRfl
import Derived.WalkKit
namespace Go.Proofs.YticblaklfnadoaaGreatDoor
open Go.RowKit

theorem netKnownClosed : joinedFacts Tryz.pinned.checked.prog 5 Tryz.f5 Rows.netKnownSpec Rows.netKnownRow = true := by kernel_rfl
end Go.Proofs.YticblaklfnadoaaGreatDoor
