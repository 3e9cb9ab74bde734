/- The closed facts of the card of the law 'abaculuslaw26.TermEvals'. -/
import Derived.Test.YtinhhhfjchckcaaGreatDoorRows
import Derived.Test.YtinhhhfjchckcaaGreatDoorProg
import Derived.JoinedOf
import Derived.KernelRfl
import Derived.WalkKit
namespace Go.Proofs.YtinhhhfjchckcaaGreatDoor
open Go.RowKit

theorem termEvalsClosed : joinedFacts Tryz.pinned.checked.prog 3 Tryz.f3 Rows.termEvalsSpec Rows.termEvalsRow = true := by kernel_rfl
end Go.Proofs.YtinhhhfjchckcaaGreatDoor
