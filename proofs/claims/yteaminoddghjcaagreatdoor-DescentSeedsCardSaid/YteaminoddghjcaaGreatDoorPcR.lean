/- The closed facts of the card of the law 'abaculuslaw29.DescentSeeds'. -/
import Derived.Test.YteaminoddghjcaaGreatDoorRows
import Derived.Test.YteaminoddghjcaaGreatDoorProg
import Derived.JoinedOf
import Derived.KernelRfl
import Derived.WalkKit
namespace Go.Proofs.YteaminoddghjcaaGreatDoor
open Go.RowKit

theorem descentSeedsClosed : joinedFacts Tryz.pinned.checked.prog 3 Tryz.f3 Rows.descentSeedsSpec Rows.descentSeedsRow = true := by kernel_rfl
end Go.Proofs.YteaminoddghjcaaGreatDoor
