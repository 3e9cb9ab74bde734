/- The closed facts of the card of the law 'abaculuslaw30.NetChecks'. -/
import Derived.Test.YtphakaomkmhbaaaGreatDoorRows
import Derived.Test.YtphakaomkmhbaaaGreatDoorProg
import Derived.JoinedOf
import Derived.KernelRfl
import Derived.WalkKit
namespace Go.Proofs.YtphakaomkmhbaaaGreatDoor
open Go.RowKit

theorem netChecksClosed : joinedFacts Tryz.pinned.checked.prog 12 Tryz.f12 Rows.netChecksSpec Rows.netChecksRow = true := by kernel_rfl
end Go.Proofs.YtphakaomkmhbaaaGreatDoor
