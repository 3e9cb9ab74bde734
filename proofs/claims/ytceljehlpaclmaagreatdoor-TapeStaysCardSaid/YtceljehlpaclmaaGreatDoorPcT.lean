/- The closed facts of the card of the law 'abaculuslaw28.TapeStays'. -/
import Derived.Test.YtceljehlpaclmaaGreatDoorRows
import Derived.Test.YtceljehlpaclmaaGreatDoorProg
import Derived.JoinedOf
import Derived.KernelRfl
import Derived.WalkKit
namespace Go.Proofs.YtceljehlpaclmaaGreatDoor
open Go.RowKit

theorem tapeStaysClosed : joinedFacts Tryz.pinned.checked.prog 3 Tryz.f3 Rows.tapeStaysSpec Rows.tapeStaysRow = true := by kernel_rfl
end Go.Proofs.YtceljehlpaclmaaGreatDoor
