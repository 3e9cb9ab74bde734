/- The closed facts of the card of the law 'abaculuslaw26.TermPuts'. -/
import Derived.Test.YtghfcfnkglnchaaGreatDoorRows
import Derived.Test.YtghfcfnkglnchaaGreatDoorProg
import Derived.JoinedOf
import Derived.KernelRfl
import Derived.WalkKit
namespace Go.Proofs.YtghfcfnkglnchaaGreatDoor
open Go.RowKit

theorem termPutsClosed : joinedFacts Tryz.pinned.checked.prog 3 Tryz.f3 Rows.termPutsSpec Rows.termPutsRow = true := by kernel_rfl
end Go.Proofs.YtghfcfnkglnchaaGreatDoor
