/- The closed facts of the card of the law 'abaculuslaw28.TapeTerms'. -/
import Derived.Test.YtcaeobghgjgllaaGreatDoorRows
import Derived.Test.YtcaeobghgjgllaaGreatDoorProg
import Derived.JoinedOf
import Derived.KernelRfl
import Derived.WalkKit
namespace Go.Proofs.YtcaeobghgjgllaaGreatDoor
open Go.RowKit

theorem tapeTermsClosed : joinedFacts Tryz.pinned.checked.prog 3 Tryz.f3 Rows.tapeTermsSpec Rows.tapeTermsRow = true := by kernel_rfl
end Go.Proofs.YtcaeobghgjgllaaGreatDoor
