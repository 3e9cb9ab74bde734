/- law28.TapeChecks answers true. -/
import Derived.Test.YtmkonbkdjmfjhaaGreatDoorTqF
import Derived.Test.YtmkonbkdjmfjhaaGreatDoorTqB
import Derived.Test.YtmkonbkdjmfjhaaGreatDoorTqC
import Derived.Test.YtmkonbkdjmfjhaaGreatDoorTqD
import Derived.Test.YtmkonbkdjmfjhaaGreatDoorTpB
import Derived.Test.YtmkonbkdjmfjhaaGreatDoorLst
namespace Go.Proofs.YtmkonbkdjmfjhaaGreatDoor
open Go.RowKit

set_option maxRecDepth 100000 in
set_option maxHeartbeats 600000 in
theorem lTapeChecks (A0 : Option Addr) (c0 : Nat) (zl : List Int) (way at_ by_ : Int) (hl0 : zl.length ≤ 9223372036854775807) (hz0 : I64s zl) (w : World) (h : Hp) (g : G w h) (hA0 : SlO 1 i64c 0 h A0 zl) :
    Calls Tryz.prog 3 #[.slice A0 zl.length c0, .int .i64 way, .int .i64 at_, .int .i64 by_] w (Ret w h fun v _ => v = .bool true) := by
  have hs := SS.start g
  replace hs := (hs.a_SlO hA0)
  refine go Tryz.func3 [(0, .slice A0 zl.length c0), (1, .int .i64 way), (2, .int .i64 at_), (3, .int .i64 by_)] rfl ?_
  refine cSL ?_
  refine lS hs [(8, .bool false, [])] ?_
  refine lN ?_
  refine cSL ?_
  refine lS hs [(11, .slice A0 zl.length c0, [])] ?_
  refine lC 12 hs (mTape A0 c0 zl hl0 hz0 12 (by omega) _ _ hs.g (hs.f.1)) ?_
  rintro _ w1 h2 hs ⟨A1, c1, O1, d1, ts1, ss1, os1, rfl, hc1, hd1, hA1, hT1, hO1, hS1, hl1, hol1, hob1, hE1, hN1⟩
  replace hs := (((hs.a_SlO hA1).add (K := fun h_ => RSs h_ ts1 ss1) hT1).a_SlO hO1)
  refine lS hs [(13, .int .i64 way, []), (14, .int .i64 at_, []), (15, .int .i64 by_, [])] ?_
  refine lC 16 hs (mSpoilt 3 A1 c1 ts1 ss1 O1 d1 os1 way at_ by_ (by omega) (by omega) hS1 hE1 hN1 _ _ hs.g (hs.f.2.2.1) (hs.f.2.1) (hs.f.1)) ?_
  rintro _ w3 h4 hs ⟨inp2, A2, c2, O2, d2, ts2, ss2, os2, rfl, hA2, hT2, hO2, hS2, hl2, hol2, hx2⟩
  replace hs := (((hs.a_SlO hA2).add (K := fun h_ => RSs h_ ts2 ss2) hT2).a_SlO hO2)
  refine lA 9 25 ([.int .i64 0, .slice none 0 0, .slice none 0 0]) hs (fun b5 w6 h7 hs => ?_)
  refine lP 0 0 ([.int .i64 inp2, .slice A2 ts2.length c2, .slice O2 os2.length d2]) hs (fun w8 hs => ?_)
  refine lN ?_
  refine cSL ?_
  refine lS hs [(17, .agg #[.int .i64 inp2, .slice A2 ts2.length c2, .slice O2 os2.length d2], [(0, 0, 3)])] ?_
  refine lC 18 hs (mIn inp2 A2 c2 ts2 ss2 O2 d2 os2 hl2 hol2 hS2 hx2 _ _ hs.g (hs.f.2.2.1) (hs.f.2.1) (hs.f.1)) ?_
  rintro _ w9 h10 hs ⟨A3, c3, O3, d3, rfl, hA3, hO3⟩
  replace hs := ((hs.a_SlO hA3).a_SlO hO3)
  have hl3 : (ss2.map OSt.stp).length ≤ 20 := by rw [List.length_map]; exact hl2
  have hq3 : ∀ i, i < (ss2.map OSt.stp).length → Sm ((ss2.map OSt.stp).getD i stp0).q := fun i hi => by rw [List.length_map] at hi; rw [stp_getD hi]; have := (hS2 i hi).q; exact ⟨by show iabs (ss2.getD i ost0).q.num < _; omega, by show (ss2.getD i ost0).q.den < _; omega⟩
  refine lA 10 30 ([.int .i64 0, .slice none 0 0, .slice none 0 0]) hs (fun b11 w12 h13 hs => ?_)
  refine lP 0 0 ([.int .i64 inp2, .slice A3 ((ss2.map OSt.stp).length) c3, .slice O3 os2.length d3]) hs (fun w14 hs => ?_)
  refine lN ?_
  refine CG.seq ?_
  refine cR 13 [] mixed hs al_nil ?_
  refine eC 0 19 hs (fun _ _ hs => lKnown28 _ _ hs.g) ?_
  rintro _ _ _ w15 h16 hs rfl
  refine eV 1 20 (.bool true) ?_
  refine eO 2 21 [(0, 0, 3)] (.agg #[.int .i64 inp2, .slice A3 ((ss2.map OSt.stp).length) c3, .slice O3 os2.length d3]) hs ?_
  refine eO 4 23 [(1, 0, 3)] (.agg #[.int .i64 inp2, .slice A2 ts2.length c2, .slice O2 os2.length d2]) hs ?_
  refine eC 3 22 hs (fun _ _ hs => tCheck inp2 A3 c3 (ss2.map OSt.stp) O3 d3 os2 (by omega) (by omega) hq3 _ _ hs.g (hs.f.2.1) (hs.f.1)) ?_
  rintro _ _ _ w17 h18 hs rfl
  refine eC 5 24 hs (fun _ _ hs => rCheckTape inp2 A2 c2 ts2 ss2 O2 d2 os2 (by omega) (by omega) _ _ hs.g (hs.f.2.2.2.2.1) (hs.f.2.2.2.1) (hs.f.2.2.1)) ?_
  rintro _ _ _ w19 h20 hs rfl
  have hb21 : ((chkTp inp2 (ss2.map OSt.stp) os2 : Int) == (chkTp inp2 (ss2.map OSt.stp) os2 : Int)) = true := beqT rfl
  have phb21 := eq_of_beq hb21
  refine eB 6 25 hb21 ?_
  refine eV 7 26 (.bool true) ?_
  refine eV 8 27 (.bool true) ?_
  refine eO 9 28 [(0, 0, 3)] (.agg #[.int .i64 inp2, .slice A3 ((ss2.map OSt.stp).length) c3, .slice O3 os2.length d3]) hs ?_
  refine eO 10 29 [(0, 0, 3)] (.agg #[.int .i64 inp2, .slice A3 ((ss2.map OSt.stp).length) c3, .slice O3 os2.length d3]) hs ?_
  refine eC 11 30 hs (fun _ _ hs => tSame inp2 A3 c3 (ss2.map OSt.stp) O3 d3 os2 (by omega) (by omega) hq3 _ _ hs.g (hs.f.2.1) (hs.f.1)) ?_
  rintro _ _ _ w22 h23 hs rfl
  refine eV 12 31 (.bool true) ?_
  refine eD0 hs (fun w24 h25 hs => ?_)
  refine tV 13 8 (.bool true) ?_
  refine tN ?_
  refine cTo [(8, .bool true)] ?_
  refine CG.ret ?_
  exact hs.ret [] (.bool true) rfl

end Go.Proofs.YtmkonbkdjmfjhaaGreatDoor
