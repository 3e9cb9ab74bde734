/- The closed facts of the card of the law 'abaculuslaw28.TapeChecks'. -/
import Derived.Test.YtmkonbkdjmfjhaaGreatDoorRows
import Derived.Test.YtmkonbkdjmfjhaaGreatDoorProg
import Derived.JoinedOf
import Derived.KernelRfl
import Derived.WalkKit
namespace Go.Proofs.YtmkonbkdjmfjhaaGreatDoor
open Go.RowKit

theorem tapeChecksClosed : joinedFacts Tryz.pinned.checked.prog 3 Tryz.f3 Rows.tapeChecksSpec Rows.tapeChecksRow = true := by kernel_rfl
end Go.Proofs.YtmkonbkdjmfjhaaGreatDoor
