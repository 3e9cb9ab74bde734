/- Laws and contracts that the card of this claim stands on, part 7. No condition of ours. -/
import Derived.Test.YtnbjahmpennmkaaGreatDoorPp0
set_option maxRecDepth 100000
set_option maxHeartbeats 4000000
namespace Go.Proofs.YtnbjahmpennmkaaGreatDoor
open Go.RowKit
open Go.RowKit Go.Shelf
theorem getD_mem {α:Type}{l:List α}{i:Nat}{d:α}(h:i<l.length):l.getD i d∈l:=by
  rw[List.getD_eq_getElem?_getD,List.getElem?_eq_getElem h];exact List.getElem_mem h
theorem getD_over {α:Type}{l:List α}{i:Nat}{d:α}(h:l.length≤i):l.getD i d=d:=by
  rw[List.getD_eq_getElem?_getD,List.getElem?_eq_none h];rfl
end Go.Proofs.YtnbjahmpennmkaaGreatDoor
