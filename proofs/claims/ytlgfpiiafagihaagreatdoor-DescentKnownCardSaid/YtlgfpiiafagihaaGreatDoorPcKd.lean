/- The closed facts of the card of the law 'abaculuslaw29.DescentKnown'. -/
import Derived.Test.YtlgfpiiafagihaaGreatDoorRows
import Derived.Test.YtlgfpiiafagihaaGreatDoorProg
import Derived.JoinedOf
import Derived.KernelRfl
import Derived.WalkKit
namespace Go.Proofs.YtlgfpiiafagihaaGreatDoor
open Go.RowKit

theorem descentKnownClosed : joinedFacts Tryz.pinned.checked.prog 3 Tryz.f3 Rows.descentKnownSpec Rows.descentKnownRow = true := by kernel_rfl
end Go.Proofs.YtlgfpiiafagihaaGreatDoor
