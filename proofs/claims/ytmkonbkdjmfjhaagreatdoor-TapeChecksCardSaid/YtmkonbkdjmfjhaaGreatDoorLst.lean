/- Lists, plainly. No program in sight. -/
import Derived.Test.YtmkonbkdjmfjhaaGreatDoorNum
namespace Go.Proofs.YtmkonbkdjmfjhaaGreatDoor
theorem getD_mem {α : Type} {l : List α} {i : Nat} {d : α} (h : i < l.length) : l.getD i d ∈ l := by
  rw [List.getD_eq_getElem?_getD, List.getElem?_eq_getElem h]; exact List.getElem_mem h
theorem getD_over {α : Type} {l : List α} {i : Nat} {d : α} (h : l.length ≤ i) : l.getD i d = d := by
  rw [List.getD_eq_getElem?_getD, List.getElem?_eq_none h]; rfl
end Go.Proofs.YtmkonbkdjmfjhaaGreatDoor
