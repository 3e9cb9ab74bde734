/- The closed facts of the card of the law 'abaculuslaw29.DescentSome'. -/
import Derived.Test.YtmniajdkjpcfjaaGreatDoorRows
import Derived.Test.YtmniajdkjpcfjaaGreatDoorProg
import Derived.JoinedOf
import Derived.KernelRfl
import Derived.WalkKit
namespace Go.Proofs.YtmniajdkjpcfjaaGreatDoor
open Go.RowKit

theorem descentSomeClosed : joinedFacts Tryz.pinned.checked.prog 3 Tryz.f3 Rows.descentSomeSpec Rows.descentSomeRow = true := by kernel_rfl
end Go.Proofs.YtmniajdkjpcfjaaGreatDoor
