/- The closed facts of the card of the law 'abaculuslaw26.TermParses'. -/
import Derived.Test.YtbbhdbhkaacnnaaGreatDoorRows
import Derived.Test.YtbbhdbhkaacnnaaGreatDoorProg
import Derived.JoinedOf
import Derived.KernelRfl
import Derived.WalkKit
namespace Go.Proofs.YtbbhdbhkaacnnaaGreatDoor
open Go.RowKit

theorem termParsesClosed : joinedFacts Tryz.pinned.checked.prog 3 Tryz.f3 Rows.termParsesSpec Rows.termParsesRow = true := by kernel_rfl
end Go.Proofs.YtbbhdbhkaacnnaaGreatDoor
