/- The closed facts of the card of the law 'abaculuslaw28.TapeLays'. -/
import Derived.Test.YtfkjipodndiklaaGreatDoorRows
import Derived.Test.YtfkjipodndiklaaGreatDoorProg
import Derived.JoinedOf
import Derived.KernelRfl
import Derived.WalkKit
namespace Go.Proofs.YtfkjipodndiklaaGreatDoor
open Go.RowKit

theorem tapeLaysClosed : joinedFacts Tryz.pinned.checked.prog 3 Tryz.f3 Rows.tapeLaysSpec Rows.tapeLaysRow = true := by kernel_rfl
end Go.Proofs.YtfkjipodndiklaaGreatDoor
