/- The closed facts of the card of the law 'abaculuslaw26.TermChecks'. -/
import Derived.Test.YthblejkgjjallaaGreatDoorRows
import Derived.Test.YthblejkgjjallaaGreatDoorProg
import Derived.JoinedOf
import Derived.KernelRfl
import Derived.WalkKit
namespace Go.Proofs.YthblejkgjjallaaGreatDoor
open Go.RowKit

theorem termChecksClosed : joinedFacts Tryz.pinned.checked.prog 3 Tryz.f3 Rows.termChecksSpec Rows.termChecksRow = true := by kernel_rfl
end Go.Proofs.YthblejkgjjallaaGreatDoor
