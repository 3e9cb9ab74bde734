/- The closed facts of the card of the law 'abaculuslaw28.TapeBacks'. -/
import Derived.Test.YtmkcmnhnmajheaaGreatDoorRows
import Derived.Test.YtmkcmnhnmajheaaGreatDoorProg
import Derived.JoinedOf
import Derived.KernelRfl
import Derived.WalkKit
namespace Go.Proofs.YtmkcmnhnmajheaaGreatDoor
open Go.RowKit

theorem tapeBacksClosed : joinedFacts Tryz.pinned.checked.prog 4 Tryz.f4 Rows.tapeBacksSpec Rows.tapeBacksRow = true := by kernel_rfl
end Go.Proofs.YtmkcmnhnmajheaaGreatDoor
