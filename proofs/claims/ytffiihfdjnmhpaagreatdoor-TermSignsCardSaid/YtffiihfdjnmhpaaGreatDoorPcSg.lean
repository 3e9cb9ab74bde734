/- The closed facts of the card of the law 'abaculuslaw26.TermSigns'. -/
import Derived.Test.YtffiihfdjnmhpaaGreatDoorRows
import Derived.Test.YtffiihfdjnmhpaaGreatDoorProg
import Derived.JoinedOf
import Derived.KernelRfl
import Derived.WalkKit
namespace Go.Proofs.YtffiihfdjnmhpaaGreatDoor
open Go.RowKit

theorem termSignsClosed : joinedFacts Tryz.pinned.checked.prog 3 Tryz.f3 Rows.termSignsSpec Rows.termSignsRow = true := by kernel_rfl
end Go.Proofs.YtffiihfdjnmhpaaGreatDoor
