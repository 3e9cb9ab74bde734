/- The closed facts of the card of the law 'abaculuslaw26.TermPlains'. -/
import Derived.Test.YtnflfcbfifhpaaaGreatDoorRows
import Derived.Test.YtnflfcbfifhpaaaGreatDoorProg
import Derived.JoinedOf
import Derived.KernelRfl
import Derived.WalkKit
namespace Go.Proofs.YtnflfcbfifhpaaaGreatDoor
open Go.RowKit

theorem termPlainsClosed : joinedFacts Tryz.pinned.checked.prog 3 Tryz.f3 Rows.termPlainsSpec Rows.termPlainsRow = true := by kernel_rfl
end Go.Proofs.YtnflfcbfifhpaaaGreatDoor
