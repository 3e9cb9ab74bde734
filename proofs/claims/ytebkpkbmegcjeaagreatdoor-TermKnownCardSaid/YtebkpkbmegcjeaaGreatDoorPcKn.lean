/- The closed facts of the card of the law 'abaculuslaw26.TermKnown'. -/
import Derived.Test.YtebkpkbmegcjeaaGreatDoorRows
import Derived.Test.YtebkpkbmegcjeaaGreatDoorProg
import Derived.JoinedOf
import Derived.KernelRfl
import Derived.WalkKit
namespace Go.Proofs.YtebkpkbmegcjeaaGreatDoor
open Go.RowKit

theorem termKnownClosed : joinedFacts Tryz.pinned.checked.prog 3 Tryz.f3 Rows.termKnownSpec Rows.termKnownRow = true := by kernel_rfl
end Go.Proofs.YtebkpkbmegcjeaaGreatDoor
