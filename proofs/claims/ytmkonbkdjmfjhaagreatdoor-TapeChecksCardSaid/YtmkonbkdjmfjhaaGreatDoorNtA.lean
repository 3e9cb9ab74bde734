/- Contracts of frac.Dot, Max; net.known, mat.Right, net.Check, suits, of nets that are well formed. -/
import Derived.Test.YtmkonbkdjmfjhaaGreatDoorRwA
import Derived.Test.YtmkonbkdjmfjhaaGreatDoorFracB
namespace Go.Proofs.YtmkonbkdjmfjhaaGreatDoor
open Go.RowKit


/-- A matrix of r rows of c numbers. -/
structure Mat (W : List (List Rat)) (r c : Nat) : Prop where
  rows : W.length = r
  rpos : 0 < r
  cpos : 0 < c
  row : ∀ i, i < r → (W.getD i []).length = c


theorem cOf (n : Int) (h0 : -9223372036854775808 ≤ n) (h1 : n ≤ 9223372036854775807) (w : World) : Calls Tryz.prog 18 #[.int .i64 n] w fun e w' => e = .returned (qv (n : Rat)) ∧ Ext w w' := by
  rw [qv_small (by rw [Rat.num_intCast]; unfold iabs; omega) (by rw [Rat.den_intCast]; omega)]; exact fracOf n h0 h1 w
/-- The products of two rows, added up. -/
def dotq (a b : List Rat) : Nat → Rat
  | 0 => 0
  | k + 1 => dotq a b k + a.getD k 0 * b.getD k 0

end Go.Proofs.YtmkonbkdjmfjhaaGreatDoor
