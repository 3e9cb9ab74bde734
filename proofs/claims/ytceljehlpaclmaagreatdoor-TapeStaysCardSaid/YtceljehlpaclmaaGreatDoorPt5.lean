/- Laws and contracts that the card of this claim stands on, part 6. No condition of ours. -/
import Derived.Test.YtceljehlpaclmaaGreatDoorPt0
import Derived.Test.YtceljehlpaclmaaGreatDoorPt1
import Derived.Test.YtceljehlpaclmaaGreatDoorPt2
import Derived.Test.YtceljehlpaclmaaGreatDoorPt3
import Derived.Test.YtceljehlpaclmaaGreatDoorPt4
set_option maxRecDepth 100000
set_option maxHeartbeats 4000000
namespace Go.Proofs.YtceljehlpaclmaaGreatDoor
open Go.RowKit
open Go.RowKit Go.Shelf
open Go.RowKit Go.WideMaps
theorem tKept:KeptOk:=fun inp A c l O d os hl ho hOk Sb sl Bb bl hsl hbl hSt hBy w h g hA hO hS hB=>tKept_ inp A c l O d os hl ho hOk Sb sl Bb bl hsl hbl hSt hBy w h g hA hO hS hB
theorem lTapeStays (A0:Option Addr)(c0:Nat)(zl:List Int)(hl0:zl.length≤9223372036854775807)(hz0:I64s zl)(w:World)(h:Hp)(g:G w h)(hA0:Si A0 zl h)(tb:Tab h):CV 3 #[.slice A0 zl.length c0] w h (.bool true):=lTapeStaysK tKept A0 c0 zl hl0 hz0 w h g hA0 tb
theorem getD_mem {α:Type}{l:List α}{i:Nat}{d:α}(h:i<l.length):l.getD i d∈l:=by
  rw[List.getD_eq_getElem?_getD,List.getElem?_eq_getElem h];exact List.getElem_mem h
theorem getD_over {α:Type}{l:List α}{i:Nat}{d:α}(h:l.length≤i):l.getD i d=d:=by
  rw[List.getD_eq_getElem?_getD,List.getElem?_eq_none h];rfl
end Go.Proofs.YtceljehlpaclmaaGreatDoor
