/- The closed facts of the card of the law 'abaculuslaw30.NetAnswers'. -/
import Derived.Test.YtphakaomkmhbaaaGreatDoorRows
import Derived.Test.YtphakaomkmhbaaaGreatDoorProg
import Derived.JoinedOf
import Derived.KernelRfl
import Derived.WalkKit
namespace Go.Proofs.YtphakaomkmhbaaaGreatDoor
open Go.RowKit

theorem netAnswersClosed : joinedFacts Tryz.pinned.checked.prog 4 Tryz.f4 Rows.netAnswersSpec Rows.netAnswersRow = true := by kernel_rfl
end Go.Proofs.YtphakaomkmhbaaaGreatDoor
