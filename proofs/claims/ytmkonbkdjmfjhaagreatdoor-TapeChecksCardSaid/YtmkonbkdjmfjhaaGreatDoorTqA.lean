/- Contracts of the reference's kids, zero, Weigh, right, CheckTape. -/
import Derived.Test.YtmkonbkdjmfjhaaGreatDoorTqL
import Derived.Test.YtmkonbkdjmfjhaaGreatDoorTpA
import Derived.Test.YtmkonbkdjmfjhaaGreatDoorZow
namespace Go.Proofs.YtmkonbkdjmfjhaaGreatDoor
open Go.RowKit

set_option maxRecDepth 100000 in
set_option maxHeartbeats 600000 in
theorem rKids (op : Int) (w : World) (h : Hp) (g : G w h) :
    Calls Tryz.prog 23 #[.int .i64 op] w (Ret w h fun v _ => v = .int .i64 (ari op)) := by
  have hs := SS.start g
  refine go Tryz.func23 [(0, .int .i64 op)] rfl ?_
  refine cSL ?_
  refine lS hs [(2, .int .i64 0, [])] ?_
  refine lN ?_
  refine CG.seq ?_
  refine cSL ?_
  refine lS hs [(3, .int .i64 op, [])] ?_
  refine lN ?_
  refine CG.block ?_
  refine CG.seq ?_
  refine cSL ?_
  cases hb1 : ((op : Int) == (1 : Int))
  ·
    have phb1 := neOfBeq hb1
    refine lB 5 hb1 ?_
    refine lS hs [(4, .bool false, [])] ?_
    refine lN ?_
    refine cIF ?_
    refine CG.listed ?_
    cases hb2 : ((op : Int) == (2 : Int))
    ·
      have phb2 := neOfBeq hb2
      refine lB 6 hb2 ?_
      refine lS hs [(4, .bool false, [])] ?_
      refine lN ?_
      refine cIF ?_
      refine CG.seq ?_
      refine cSL ?_
      cases hb3 : ((op : Int) == (7 : Int))
      ·
        have phb3 := neOfBeq hb3
        refine lB 8 hb3 ?_
        refine lS hs [(7, .bool false, [])] ?_
        refine lN ?_
        refine cIF ?_
        refine cSL ?_
        cases hb4 : ((op : Int) == (8 : Int))
        ·
          have phb4 := neOfBeq hb4
          refine lB 9 hb4 ?_
          refine lS hs [(7, .bool false, [])] ?_
          refine lN ?_
          refine cIF ?_
          refine cSL ?_
          cases hb5 : ((op : Int) == (9 : Int))
          ·
            have phb5 := neOfBeq hb5
            refine lB 10 hb5 ?_
            refine lS hs [(7, .bool false, [])] ?_
            refine lN ?_
            refine cIF ?_
            refine cSL ?_
            cases hb6 : ((op : Int) == (10 : Int))
            ·
              have phb6 := neOfBeq hb6
              refine lB 11 hb6 ?_
              refine lS hs [(7, .bool false, [])] ?_
              refine lN ?_
              refine cIF ?_
              refine CG.listed ?_
              cases hb7 : ((op : Int) == (11 : Int))
              ·
                have phb7 := neOfBeq hb7
                refine lB 12 hb7 ?_
                refine lS hs [(7, .bool false, [])] ?_
                refine lN ?_
                refine cIF ?_
                refine CG.seq ?_
                refine cSL ?_
                cases hb8 : ((op : Int) == (3 : Int))
                ·
                  have phb8 := neOfBeq hb8
                  refine lB 14 hb8 ?_
                  refine lS hs [(13, .bool false, [])] ?_
                  refine lN ?_
                  refine cIF ?_
                  refine cSL ?_
                  cases hb9 : ((op : Int) == (4 : Int))
                  ·
                    have phb9 := neOfBeq hb9
                    refine lB 15 hb9 ?_
                    refine lS hs [(13, .bool false, [])] ?_
                    refine lN ?_
                    refine cIF ?_
                    refine cSL ?_
                    cases hb10 : ((op : Int) == (5 : Int))
                    ·
                      have phb10 := neOfBeq hb10
                      refine lB 16 hb10 ?_
                      refine lS hs [(13, .bool false, [])] ?_
                      refine lN ?_
                      refine cTo [(2, .int .i64 0), (3, .int .i64 op), (13, .bool false)] ?_
                      refine cIF ?_
                      refine cSL ?_
                      cases hb11 : ((op : Int) == (6 : Int))
                      ·
                        have phb11 := neOfBeq hb11
                        refine lB 17 hb11 ?_
                        refine lS hs [(13, .bool false, [])] ?_
                        refine lN ?_
                        refine cIF ?_
                        refine cSL ?_
                        cases hb12 : ((op : Int) == (12 : Int))
                        ·
                          have phb12 := neOfBeq hb12
                          refine lB 18 hb12 ?_
                          refine lS hs [(13, .bool false, [])] ?_
                          refine lN ?_
                          refine cIF ?_
                          refine CG.listed ?_
                          cases hb13 : ((op : Int) == (13 : Int))
                          ·
                            have phb13 := neOfBeq hb13
                            refine lB 19 hb13 ?_
                            refine lS hs [(13, .bool false, [])] ?_
                            refine lN ?_
                            refine cIF ?_
                            refine CG.skipN ?_
                            refine cSL ?_
                            refine lS hs [(2, .int .i64 (-1), [])] ?_
                            refine lN ?_
                            refine CG.ret ?_
                            exact hs.ret [] (.int .i64 (-1)) (congrArg (Value.int .i64) (by have := ari_cases op; omega))
                          ·
                            have phb13 := eq_of_beq hb13
                            refine lB 19 hb13 ?_
                            refine lS hs [(13, .bool true, [])] ?_
                            refine lN ?_
                            refine cIT ?_
                            refine cSL ?_
                            refine lS hs [(2, .int .i64 2, [])] ?_
                            refine lN ?_
                            refine CG.ret ?_
                            exact hs.ret [] (.int .i64 2) (congrArg (Value.int .i64) (by have := ari_cases op; omega))
                        ·
                          have phb12 := eq_of_beq hb12
                          refine lB 18 hb12 ?_
                          refine lS hs [(13, .bool true, [])] ?_
                          refine lN ?_
                          refine cIT ?_
                          refine CG.skipN ?_
                          refine cIT ?_
                          refine cSL ?_
                          refine lS hs [(2, .int .i64 2, [])] ?_
                          refine lN ?_
                          refine CG.ret ?_
                          exact hs.ret [] (.int .i64 2) (congrArg (Value.int .i64) (by have := ari_cases op; omega))
                      ·
                        have phb11 := eq_of_beq hb11
                        refine lB 17 hb11 ?_
                        refine lS hs [(13, .bool true, [])] ?_
                        refine lN ?_
                        refine cIT ?_
                        refine CG.skipN ?_
                        refine cIT ?_
                        refine cSL ?_
                        refine lS hs [(2, .int .i64 2, [])] ?_
                        refine lN ?_
                        refine CG.ret ?_
                        exact hs.ret [] (.int .i64 2) (congrArg (Value.int .i64) (by have := ari_cases op; omega))
                    ·
                      have phb10 := eq_of_beq hb10
                      refine lB 16 hb10 ?_
                      refine lS hs [(13, .bool true, [])] ?_
                      refine lN ?_
                      refine cTo [(2, .int .i64 0), (3, .int .i64 op), (13, .bool true)] ?_
                      refine cIT ?_
                      refine CG.skipN ?_
                      refine cIT ?_
                      refine cSL ?_
                      refine lS hs [(2, .int .i64 2, [])] ?_
                      refine lN ?_
                      refine CG.ret ?_
                      exact hs.ret [] (.int .i64 2) (congrArg (Value.int .i64) (by have := ari_cases op; omega))
                  ·
                    have phb9 := eq_of_beq hb9
                    refine lB 15 hb9 ?_
                    refine lS hs [(13, .bool true, [])] ?_
                    refine lN ?_
                    refine cIT ?_
                    refine CG.skipN ?_
                    refine cTo [(2, .int .i64 0), (13, .bool true)] ?_
                    refine cIT ?_
                    refine cSL ?_
                    refine lS hs [(2, .int .i64 2, [])] ?_
                    refine lN ?_
                    refine CG.ret ?_
                    exact hs.ret [] (.int .i64 2) (congrArg (Value.int .i64) (by have := ari_cases op; omega))
                ·
                  have phb8 := eq_of_beq hb8
                  refine lB 14 hb8 ?_
                  refine lS hs [(13, .bool true, [])] ?_
                  refine lN ?_
                  refine cIT ?_
                  refine CG.skipN ?_
                  refine cIT ?_
                  refine cSL ?_
                  refine lS hs [(2, .int .i64 2, [])] ?_
                  refine lN ?_
                  refine cTo [(2, .int .i64 2)] ?_
                  refine CG.ret ?_
                  exact hs.ret [] (.int .i64 2) (congrArg (Value.int .i64) (by have := ari_cases op; omega))
              ·
                have phb7 := eq_of_beq hb7
                refine lB 12 hb7 ?_
                refine lS hs [(7, .bool true, [])] ?_
                refine lN ?_
                refine cIT ?_
                refine cSL ?_
                refine lS hs [(2, .int .i64 1, [])] ?_
                refine lN ?_
                refine CG.ret ?_
                exact hs.ret [] (.int .i64 1) (congrArg (Value.int .i64) (by have := ari_cases op; omega))
            ·
              have phb6 := eq_of_beq hb6
              refine lB 11 hb6 ?_
              refine lS hs [(7, .bool true, [])] ?_
              refine lN ?_
              refine cIT ?_
              refine CG.skipN ?_
              refine cIT ?_
              refine cSL ?_
              refine lS hs [(2, .int .i64 1, [])] ?_
              refine lN ?_
              refine CG.ret ?_
              exact hs.ret [] (.int .i64 1) (congrArg (Value.int .i64) (by have := ari_cases op; omega))
          ·
            have phb5 := eq_of_beq hb5
            refine lB 10 hb5 ?_
            refine lS hs [(7, .bool true, [])] ?_
            refine lN ?_
            refine cIT ?_
            refine CG.skipN ?_
            refine cIT ?_
            refine cSL ?_
            refine lS hs [(2, .int .i64 1, [])] ?_
            refine lN ?_
            refine CG.ret ?_
            exact hs.ret [] (.int .i64 1) (congrArg (Value.int .i64) (by have := ari_cases op; omega))
        ·
          have phb4 := eq_of_beq hb4
          refine lB 9 hb4 ?_
          refine lS hs [(7, .bool true, [])] ?_
          refine lN ?_
          refine cIT ?_
          refine CG.skipN ?_
          refine cIT ?_
          refine cSL ?_
          refine lS hs [(2, .int .i64 1, [])] ?_
          refine lN ?_
          refine CG.ret ?_
          exact hs.ret [] (.int .i64 1) (congrArg (Value.int .i64) (by have := ari_cases op; omega))
      ·
        have phb3 := eq_of_beq hb3
        refine lB 8 hb3 ?_
        refine lS hs [(7, .bool true, [])] ?_
        refine lN ?_
        refine cIT ?_
        refine CG.skipN ?_
        refine cIT ?_
        refine cSL ?_
        refine lS hs [(2, .int .i64 1, [])] ?_
        refine lN ?_
        refine CG.ret ?_
        exact hs.ret [] (.int .i64 1) (congrArg (Value.int .i64) (by have := ari_cases op; omega))
    ·
      have phb2 := eq_of_beq hb2
      refine lB 6 hb2 ?_
      refine lS hs [(4, .bool true, [])] ?_
      refine lN ?_
      refine cIT ?_
      refine cSL ?_
      refine lS hs [(2, .int .i64 0, [])] ?_
      refine lN ?_
      refine CG.ret ?_
      exact hs.ret [] (.int .i64 0) (congrArg (Value.int .i64) (by have := ari_cases op; omega))
  ·
    have phb1 := eq_of_beq hb1
    refine lB 5 hb1 ?_
    refine lS hs [(4, .bool true, [])] ?_
    refine lN ?_
    refine cIT ?_
    refine CG.skipN ?_
    refine cIT ?_
    refine cSL ?_
    refine lS hs [(2, .int .i64 0, [])] ?_
    refine lN ?_
    refine CG.ret ?_
    exact hs.ret [] (.int .i64 0) (congrArg (Value.int .i64) (by have := ari_cases op; omega))

set_option maxRecDepth 100000 in
set_option maxHeartbeats 600000 in
theorem rIntSign (z : Int) (A : Option Addr) (c : Nat) (w : World) (h : Hp) (g : G w h) (hA : SlO 1 u32c 0 h A (lim (iabs z))) :
    Calls Tryz.prog 99 #[.agg #[.bool (ineg z), .slice A ((lim (iabs z)).length) c]] w (Ret w h fun v _ => v = .int .i64 z.sign) := by
  have hs := SS.start g
  replace hs := (hs.a_SlO hA)
  have hlz : 0 < (lim (iabs z)).length ↔ 0 < iabs z := lim_pos
  unfold iabs at hlz
  refine go Tryz.func99 [(0, .agg #[.bool (ineg z), .slice A ((lim (iabs z)).length) c])] rfl ?_
  refine cSL ?_
  refine lA 1 43 ([.bool (ineg z), .slice A ((lim (iabs z)).length) c]) hs (fun b1 w2 h3 hs => ?_)
  refine lS hs [(2, .int .i64 0, [])] ?_
  refine lN ?_
  refine CG.seq ?_
  refine CG.block ?_
  refine cSL ?_
  refine lS hs [(4, .pointer (some ⟨b1, 1, none⟩), []), (5, .slice A ((lim (iabs z)).length) c, [(0, 1, 1)]), (6, .int .i64 ((lim (iabs z)).length : Nat), [])] ?_
  cases hb4 : ((((lim (iabs z)).length : Nat) : Int) == (0 : Int))
  ·
    have phb4 := neOfBeq hb4
    refine lB 7 hb4 ?_
    refine lS hs [(3, .bool false, [])] ?_
    refine lN ?_
    refine cIF ?_
    refine cSL ?_
    refine lS hs [(9, .pointer (some ⟨b1, 0, none⟩), []), (10, .bool (ineg z), [(0, 0, 1)]), (8, .bool (ineg z), [])] ?_
    refine lN ?_
    cases hb5 : (ineg z)
    ·
      try rw [hb5] at hs
      try rw [hb5]
      have phb5 := ineg_false hb5
      refine cIF ?_
      refine CG.skipN ?_
      refine cSL ?_
      refine lS hs [(2, .int .i64 1, [])] ?_
      refine lN ?_
      refine CG.ret ?_
      exact hs.ret [] (.int .i64 1) (congrArg (Value.int .i64) (by first | (rw [show z = 0 by (unfold iabs at *; omega)]; rfl) | exact (Int.sign_eq_neg_one_of_neg (by omega)).symm | exact (Int.sign_eq_one_of_pos (by unfold iabs at *; omega)).symm))
    ·
      try rw [hb5] at hs
      try rw [hb5]
      have phb5 := ineg_true hb5
      refine cIT ?_
      refine cSL ?_
      refine lS hs [(2, .int .i64 (-1), [])] ?_
      refine lN ?_
      refine CG.ret ?_
      exact hs.ret [] (.int .i64 (-1)) (congrArg (Value.int .i64) (by first | (rw [show z = 0 by (unfold iabs at *; omega)]; rfl) | exact (Int.sign_eq_neg_one_of_neg (by omega)).symm | exact (Int.sign_eq_one_of_pos (by unfold iabs at *; omega)).symm))
  ·
    have phb4 := eq_of_beq hb4
    refine lB 7 hb4 ?_
    refine lS hs [(3, .bool true, [])] ?_
    refine lN ?_
    refine cIT ?_
    refine cSL ?_
    refine lS hs [(2, .int .i64 0, [])] ?_
    refine lN ?_
    refine CG.ret ?_
    exact hs.ret [] (.int .i64 0) (congrArg (Value.int .i64) (by first | (rw [show z = 0 by (unfold iabs at *; omega)]; rfl) | exact (Int.sign_eq_neg_one_of_neg (by omega)).symm | exact (Int.sign_eq_one_of_pos (by unfold iabs at *; omega)).symm))

set_option maxRecDepth 100000 in
set_option maxHeartbeats 600000 in
theorem rSign (z : Int) (A : Option Addr) (c n : Nat) (D : Option Addr) (d : Nat) (hc : (lim (iabs z)).length ≤ c) (hd : (lim n).length ≤ d) (w : World) (h : Hp) (g : G w h) (hA : SlO 1 u32c 0 h A (lim (iabs z))) (hD : SlO 1 u32c 0 h D (lim n)) :
    Calls Tryz.prog 76 #[.agg #[.bool (ineg z), .slice A ((lim (iabs z)).length) c, .slice D ((lim n).length) d]] w (Ret w h fun v _ => v = .int .i64 z.sign) := by
  have hs := SS.start g
  replace hs := ((hs.a_SlO hA).a_SlO hD)
  refine go Tryz.func76 [(0, .agg #[.bool (ineg z), .slice A ((lim (iabs z)).length) c, .slice D ((lim n).length) d])] rfl ?_
  refine cSL ?_
  refine lA 1 45 ([.bool (ineg z), .slice A ((lim (iabs z)).length) c, .slice D ((lim n).length) d]) hs (fun b1 w2 h3 hs => ?_)
  refine lS hs [(2, .int .i64 0, [])] ?_
  refine lN ?_
  refine cSL ?_
  refine lS hs [(3, .pointer (some ⟨b1, 0, none⟩), []), (4, .agg #[.bool (ineg z), .slice A ((lim (iabs z)).length) c], [(0, 0, 2)])] ?_
  refine lC 5 hs (rIntSign z A c _ _ hs.g (hs.f.2.1)) ?_
  rintro _ w4 h5 hs rfl
  refine lS hs [(2, .int .i64 z.sign, [])] ?_
  refine lN ?_
  refine CG.ret ?_
  exact hs.ret [] (.int .i64 z.sign) rfl

set_option maxRecDepth 100000 in
set_option maxHeartbeats 600000 in
theorem rZero (z : Int) (A : Option Addr) (c n : Nat) (D : Option Addr) (d : Nat) (hc : (lim (iabs z)).length ≤ c) (hd : (lim n).length ≤ d) (w : World) (h : Hp) (g : G w h) (hA : SlO 1 u32c 0 h A (lim (iabs z))) (hD : SlO 1 u32c 0 h D (lim n)) :
    Calls Tryz.prog 45 #[.agg #[.bool (ineg z), .slice A ((lim (iabs z)).length) c, .slice D ((lim n).length) d]] w (Ret w h fun v _ => v = .bool (decide (n = 0 ∨ z = 0))) := by
  have hs := SS.start g
  replace hs := ((hs.a_SlO hA).a_SlO hD)
  have hln : 0 < (lim n).length ↔ 0 < n := lim_pos
  refine go Tryz.func45 [(0, .agg #[.bool (ineg z), .slice A ((lim (iabs z)).length) c, .slice D ((lim n).length) d])] rfl ?_
  refine cSL ?_
  refine lA 1 45 ([.bool (ineg z), .slice A ((lim (iabs z)).length) c, .slice D ((lim n).length) d]) hs (fun b1 w2 h3 hs => ?_)
  refine lS hs [(2, .bool false, [])] ?_
  refine lN ?_
  refine cSL ?_
  refine lS hs [(3, .pointer (some ⟨b1, 2, none⟩), []), (4, .slice D ((lim n).length) d, [(0, 2, 1)]), (5, .int .i64 ((lim n).length : Nat), [])] ?_
  cases hb4 : ((((lim n).length : Nat) : Int) == (0 : Int))
  ·
    have phb4 := neOfBeq hb4
    refine lB 6 hb4 ?_
    refine lS hs [(7, .bool false, []), (8, .agg #[.bool (ineg z), .slice A ((lim (iabs z)).length) c, .slice D ((lim n).length) d], [(0, 0, 3)])] ?_
    refine lC 9 hs (rSign z A c n D d hc hd _ _ hs.g (hs.f.2.1) (hs.f.1)) ?_
    rintro _ w5 h6 hs rfl
    have hsg : z.sign = 0 ↔ z = 0 := Int.sign_eq_zero_iff_zero
    cases hb7 : ((z.sign : Int) == (0 : Int))
    ·
      have phb7 := neOfBeq hb7
      refine lB 10 hb7 ?_
      refine lS hs [(11, .bool false, []), (2, .bool false, [])] ?_
      refine lN ?_
      refine CG.ret ?_
      exact hs.ret [] (.bool false) (congrArg Value.bool (decide_eq_false (by omega)).symm)
    ·
      have phb7 := eq_of_beq hb7
      refine lB 10 hb7 ?_
      refine lS hs [(11, .bool true, []), (2, .bool true, [])] ?_
      refine lN ?_
      refine CG.ret ?_
      exact hs.ret [] (.bool true) (congrArg Value.bool (decide_eq_true (by omega)).symm)
  ·
    have phb4 := eq_of_beq hb4
    refine lB 6 hb4 ?_
    refine lS hs [(7, .bool true, [])] ?_
    refine lG 8 ?_
    refine lG 9 ?_
    refine lG 10 ?_
    refine lS hs [(11, .bool true, []), (2, .bool true, [])] ?_
    refine lN ?_
    refine CG.ret ?_
    exact hs.ret [] (.bool true) (congrArg Value.bool (decide_eq_true (by omega)).symm)


/-- What the reference's Weigh says. -/
def weighS (op n sum : Int) : Int := if op = 11 then 2 * sum else if op = 8 ∧ n ≠ 0 then sum * (if n < 0 then 0 - n else n) else sum
theorem mulb {a n : Int} (h : 0 ≤ a ∧ a ≤ 1000000) (hn : -12 ≤ n ∧ n ≤ 12) : -12000000 ≤ a * n ∧ a * n ≤ 12000000 := by
  have h1 : (a * n).natAbs ≤ 1000000 * 12 := by rw [Int.natAbs_mul]; exact Nat.mul_le_mul (by omega) (by omega)
  omega

set_option maxRecDepth 100000 in
set_option maxHeartbeats 600000 in
theorem rWeigh (op n sum : Int) (hs0 : 0 ≤ sum ∧ sum ≤ 1000000) (hn : op = 8 → -12 ≤ n ∧ n ≤ 12) (w : World) (h : Hp) (g : G w h) :
    Calls Tryz.prog 24 #[.int .i64 op, .int .i64 n, .int .i64 sum] w (Ret w h fun v _ => v = .int .i64 (weighS op n sum)) := by
  have hs := SS.start g
  have hmn : min (sum : Int) (1073741824 : Int) = sum := by omega
  have hq1 := fun h8 : op = 8 => mulb hs0 (hn h8)
  have hq2 := fun h8 : op = 8 => mulb (n := 0 - n) hs0 (by have := hn h8; omega)
  rw [← hmn] at hq1 hq2
  have hq3 : n ≤ 0 → (min (sum : Int) (1073741824 : Int)) * n ≤ 0 ∧ 0 ≤ (min (sum : Int) (1073741824 : Int)) * (0 - n) := fun h_ => ⟨Int.mul_nonpos_of_nonneg_of_nonpos (by omega) h_, Int.mul_nonneg (by omega) (by omega)⟩
  have hq4 : 0 ≤ n → 0 ≤ (min (sum : Int) (1073741824 : Int)) * n := fun h_ => Int.mul_nonneg (by omega) h_
  refine go Tryz.func24 [(0, .int .i64 op), (1, .int .i64 n), (2, .int .i64 sum)] rfl ?_
  refine cSL ?_
  refine lS hs [(6, .int .i64 0, [])] ?_
  refine lN ?_
  refine CG.seq ?_
  refine CG.block ?_
  refine cSL ?_
  refine lS hs [(8, .int .i64 op, [])] ?_
  cases hb1 : ((op : Int) == (11 : Int))
  ·
    have phb1 := neOfBeq hb1
    refine lB 9 hb1 ?_
    refine lS hs [(7, .bool false, [])] ?_
    refine lN ?_
    refine cIF ?_
    refine cSL ?_
    refine lS hs [(13, .int .i64 op, [])] ?_
    cases hb2 : ((op : Int) == (8 : Int))
    ·
      have phb2 := neOfBeq hb2
      refine lB 14 hb2 ?_
      refine lS hs [(15, .bool false, [])] ?_
      refine lG 16 ?_
      refine lG 17 ?_
      refine lS hs [(18, .bool false, []), (12, .bool false, [])] ?_
      refine lN ?_
      refine cIF ?_
      refine CG.skipN ?_
      refine cSL ?_
      refine lS hs [(33, .int .i64 sum, [])] ?_
      refine lV 34 (.int .i64 (min (sum : Int) (1073741824 : Int))) ?_ (hr := rint (n := (if (1073741824 : Int) < (sum : Int) then (1073741824 : Int) else (sum : Int))) (by kernel_rfl) (by simp only [imin2]))
      refine lS hs [(6, .int .i64 (min (sum : Int) (1073741824 : Int)), [])] ?_
      refine lN ?_
      refine cTo [(6, .int .i64 (min (sum : Int) (1073741824 : Int)))] ?_
      refine CG.ret ?_
      exact hs.ret [] (.int .i64 (min (sum : Int) (1073741824 : Int))) (congrArg (Value.int .i64) (by unfold weighS; first | (rw [if_pos (by omega)]; omega) | (rw [if_neg (by omega), if_pos (by omega), if_pos (by omega)]; rw [hmn] at *; omega) | (rw [if_neg (by omega), if_pos (by omega), if_neg (by omega)]; rw [hmn] at *; omega) | (rw [if_neg (by omega), if_neg (by omega)]; omega)))
    ·
      have phb2 := eq_of_beq hb2
      refine lB 14 hb2 ?_
      refine lS hs [(15, .bool true, []), (16, .int .i64 n, [])] ?_
      cases hb3 : ((n : Int) != (0 : Int))
      ·
        have phb3 := eqOfBne hb3
        refine lB 17 hb3 ?_
        refine lS hs [(18, .bool false, []), (12, .bool false, [])] ?_
        refine lN ?_
        refine cIF ?_
        refine CG.skipN ?_
        refine cSL ?_
        refine lS hs [(33, .int .i64 sum, [])] ?_
        refine lV 34 (.int .i64 (min (sum : Int) (1073741824 : Int))) ?_ (hr := rint (n := (if (1073741824 : Int) < (sum : Int) then (1073741824 : Int) else (sum : Int))) (by kernel_rfl) (by simp only [imin2]))
        refine lS hs [(6, .int .i64 (min (sum : Int) (1073741824 : Int)), [])] ?_
        refine lN ?_
        refine cTo [(6, .int .i64 (min (sum : Int) (1073741824 : Int)))] ?_
        refine CG.ret ?_
        exact hs.ret [] (.int .i64 (min (sum : Int) (1073741824 : Int))) (congrArg (Value.int .i64) (by unfold weighS; first | (rw [if_pos (by omega)]; omega) | (rw [if_neg (by omega), if_pos (by omega), if_pos (by omega)]; rw [hmn] at *; omega) | (rw [if_neg (by omega), if_pos (by omega), if_neg (by omega)]; rw [hmn] at *; omega) | (rw [if_neg (by omega), if_neg (by omega)]; omega)))
      ·
        have phb3 := neOfBne hb3
        refine lB 17 hb3 ?_
        refine lS hs [(18, .bool true, []), (12, .bool true, [])] ?_
        refine lN ?_
        refine cIT ?_
        refine CG.seq ?_
        refine cSL ?_
        refine lS hs [(19, .int .i64 n, [])] ?_
        cases hb4 : (decide ((n : Int) < (0 : Int)))
        ·
          have phb4 := of_decide_eq_false hb4
          refine lB 20 hb4 ?_
          refine lN ?_
          refine cIF ?_
          refine CG.skipN ?_
          refine cTo [(1, .int .i64 n), (2, .int .i64 sum), (6, .int .i64 0)] ?_
          refine CG.seq ?_
          refine cSL ?_
          refine lS hs [(23, .int .i64 n, [])] ?_
          have hb5 : (decide ((n : Int) < (0 : Int))) = false := decide_eq_false (by omega)
          have phb5 := of_decide_eq_false hb5
          refine lB 24 hb5 ?_
          refine lS hs [(25, .bool false, []), (26, .int .i64 n, [])] ?_
          cases hb6 : (decide ((1073741824 : Int) < (n : Int)))
          ·
            have phb6 := of_decide_eq_false hb6
            refine lB 27 hb6 ?_
            refine lS hs [(28, .bool false, [])] ?_
            refine lN ?_
            refine cIF ?_
            refine CG.skipN ?_
            refine CG.listed ?_
            refine lS hs [(29, .int .i64 sum, [])] ?_
            refine lV 30 (.int .i64 (min (sum : Int) (1073741824 : Int))) ?_ (hr := rint (n := (if (1073741824 : Int) < (sum : Int) then (1073741824 : Int) else (sum : Int))) (by kernel_rfl) (by simp only [imin2]))
            refine lS hs [(31, .int .i64 n, [])] ?_
            refine lI 32 ((min (sum : Int) (1073741824 : Int)) * n) ?_
            refine lS hs [(2, .int .i64 ((min (sum : Int) (1073741824 : Int)) * n), [])] ?_
            refine lN ?_
            refine cSL ?_
            refine lS hs [(33, .int .i64 ((min (sum : Int) (1073741824 : Int)) * n), [])] ?_
            refine lV 34 (.int .i64 (min ((min (sum : Int) (1073741824 : Int)) * n : Int) (1073741824 : Int))) ?_ (hr := rint (n := (if (1073741824 : Int) < ((min (sum : Int) (1073741824 : Int)) * n : Int) then (1073741824 : Int) else ((min (sum : Int) (1073741824 : Int)) * n : Int))) (by kernel_rfl) (by simp only [imin2]))
            refine lS hs [(6, .int .i64 (min ((min (sum : Int) (1073741824 : Int)) * n : Int) (1073741824 : Int)), [])] ?_
            refine lN ?_
            refine cTo [(6, .int .i64 (min ((min (sum : Int) (1073741824 : Int)) * n : Int) (1073741824 : Int)))] ?_
            refine CG.ret ?_
            exact hs.ret [] (.int .i64 (min ((min (sum : Int) (1073741824 : Int)) * n : Int) (1073741824 : Int))) (congrArg (Value.int .i64) (by unfold weighS; first | (rw [if_pos (by omega)]; omega) | (rw [if_neg (by omega), if_pos (by omega), if_pos (by omega)]; rw [hmn] at *; omega) | (rw [if_neg (by omega), if_pos (by omega), if_neg (by omega)]; rw [hmn] at *; omega) | (rw [if_neg (by omega), if_neg (by omega)]; omega)))
          ·
            have phb6 := of_decide_eq_true hb6
            refine lB 27 hb6 ?_
            refine lS hs [(28, .bool true, [])] ?_
            refine lN ?_
            refine cIT ?_
            refine CG.listed ?_
            refine lS hs [(1, .int .i64 1073741824, [])] ?_
            refine lN ?_
            refine CG.listed ?_
            refine lS hs [(29, .int .i64 sum, [])] ?_
            refine lV 30 (.int .i64 (min (sum : Int) (1073741824 : Int))) ?_ (hr := rint (n := (if (1073741824 : Int) < (sum : Int) then (1073741824 : Int) else (sum : Int))) (by kernel_rfl) (by simp only [imin2]))
            refine lS hs [(31, .int .i64 1073741824, [])] ?_
            refine lI 32 ((min (sum : Int) (1073741824 : Int)) * 1073741824) ?_
            refine lS hs [(2, .int .i64 ((min (sum : Int) (1073741824 : Int)) * 1073741824), [])] ?_
            refine lN ?_
            refine cSL ?_
            refine lS hs [(33, .int .i64 ((min (sum : Int) (1073741824 : Int)) * 1073741824), [])] ?_
            refine lV 34 (.int .i64 (min ((min (sum : Int) (1073741824 : Int)) * 1073741824 : Int) (1073741824 : Int))) ?_ (hr := rint (n := (if (1073741824 : Int) < ((min (sum : Int) (1073741824 : Int)) * 1073741824 : Int) then (1073741824 : Int) else ((min (sum : Int) (1073741824 : Int)) * 1073741824 : Int))) (by kernel_rfl) (by simp only [imin2]))
            refine lS hs [(6, .int .i64 (min ((min (sum : Int) (1073741824 : Int)) * 1073741824 : Int) (1073741824 : Int)), [])] ?_
            refine lN ?_
            refine cTo [(6, .int .i64 (min ((min (sum : Int) (1073741824 : Int)) * 1073741824 : Int) (1073741824 : Int)))] ?_
            refine CG.ret ?_
            exact hs.ret [] (.int .i64 (min ((min (sum : Int) (1073741824 : Int)) * 1073741824 : Int) (1073741824 : Int))) (congrArg (Value.int .i64) (by unfold weighS; first | (rw [if_pos (by omega)]; omega) | (rw [if_neg (by omega), if_pos (by omega), if_pos (by omega)]; rw [hmn] at *; omega) | (rw [if_neg (by omega), if_pos (by omega), if_neg (by omega)]; rw [hmn] at *; omega) | (rw [if_neg (by omega), if_neg (by omega)]; omega)))
        ·
          have phb4 := of_decide_eq_true hb4
          refine lB 20 hb4 ?_
          refine lN ?_
          refine cIT ?_
          refine CG.listed ?_
          refine lS hs [(21, .int .i64 n, [])] ?_
          refine lI 22 (0 - n) ?_
          refine lS hs [(1, .int .i64 (0 - n), [])] ?_
          refine lN ?_
          refine cTo [(1, .int .i64 (0 - n)), (2, .int .i64 sum), (6, .int .i64 0)] ?_
          refine CG.seq ?_
          refine cSL ?_
          refine lS hs [(23, .int .i64 (0 - n), [])] ?_
          cases hb7 : (decide ((0 - n : Int) < (0 : Int)))
          ·
            have phb7 := of_decide_eq_false hb7
            refine lB 24 hb7 ?_
            refine lS hs [(25, .bool false, []), (26, .int .i64 (0 - n), [])] ?_
            cases hb8 : (decide ((1073741824 : Int) < (0 - n : Int)))
            ·
              have phb8 := of_decide_eq_false hb8
              refine lB 27 hb8 ?_
              refine lS hs [(28, .bool false, [])] ?_
              refine lN ?_
              refine cIF ?_
              refine CG.skipN ?_
              refine CG.listed ?_
              refine lS hs [(29, .int .i64 sum, [])] ?_
              refine lV 30 (.int .i64 (min (sum : Int) (1073741824 : Int))) ?_ (hr := rint (n := (if (1073741824 : Int) < (sum : Int) then (1073741824 : Int) else (sum : Int))) (by kernel_rfl) (by simp only [imin2]))
              refine lS hs [(31, .int .i64 (0 - n), [])] ?_
              refine lI 32 ((min (sum : Int) (1073741824 : Int)) * (0 - n)) ?_
              refine lS hs [(2, .int .i64 ((min (sum : Int) (1073741824 : Int)) * (0 - n)), [])] ?_
              refine lN ?_
              refine cSL ?_
              refine lS hs [(33, .int .i64 ((min (sum : Int) (1073741824 : Int)) * (0 - n)), [])] ?_
              refine lV 34 (.int .i64 (min ((min (sum : Int) (1073741824 : Int)) * (0 - n) : Int) (1073741824 : Int))) ?_ (hr := rint (n := (if (1073741824 : Int) < ((min (sum : Int) (1073741824 : Int)) * (0 - n) : Int) then (1073741824 : Int) else ((min (sum : Int) (1073741824 : Int)) * (0 - n) : Int))) (by kernel_rfl) (by simp only [imin2]))
              refine lS hs [(6, .int .i64 (min ((min (sum : Int) (1073741824 : Int)) * (0 - n) : Int) (1073741824 : Int)), [])] ?_
              refine lN ?_
              refine cTo [(6, .int .i64 (min ((min (sum : Int) (1073741824 : Int)) * (0 - n) : Int) (1073741824 : Int)))] ?_
              refine CG.ret ?_
              exact hs.ret [] (.int .i64 (min ((min (sum : Int) (1073741824 : Int)) * (0 - n) : Int) (1073741824 : Int))) (congrArg (Value.int .i64) (by unfold weighS; first | (rw [if_pos (by omega)]; omega) | (rw [if_neg (by omega), if_pos (by omega), if_pos (by omega)]; rw [hmn] at *; omega) | (rw [if_neg (by omega), if_pos (by omega), if_neg (by omega)]; rw [hmn] at *; omega) | (rw [if_neg (by omega), if_neg (by omega)]; omega)))
            ·
              have phb8 := of_decide_eq_true hb8
              refine lB 27 hb8 ?_
              refine lS hs [(28, .bool true, [])] ?_
              refine lN ?_
              refine cIT ?_
              refine CG.listed ?_
              refine lS hs [(1, .int .i64 1073741824, [])] ?_
              refine lN ?_
              refine CG.listed ?_
              refine lS hs [(29, .int .i64 sum, [])] ?_
              refine lV 30 (.int .i64 (min (sum : Int) (1073741824 : Int))) ?_ (hr := rint (n := (if (1073741824 : Int) < (sum : Int) then (1073741824 : Int) else (sum : Int))) (by kernel_rfl) (by simp only [imin2]))
              refine lS hs [(31, .int .i64 1073741824, [])] ?_
              refine lI 32 ((min (sum : Int) (1073741824 : Int)) * 1073741824) ?_
              refine lS hs [(2, .int .i64 ((min (sum : Int) (1073741824 : Int)) * 1073741824), [])] ?_
              refine lN ?_
              refine cSL ?_
              refine lS hs [(33, .int .i64 ((min (sum : Int) (1073741824 : Int)) * 1073741824), [])] ?_
              refine lV 34 (.int .i64 (min ((min (sum : Int) (1073741824 : Int)) * 1073741824 : Int) (1073741824 : Int))) ?_ (hr := rint (n := (if (1073741824 : Int) < ((min (sum : Int) (1073741824 : Int)) * 1073741824 : Int) then (1073741824 : Int) else ((min (sum : Int) (1073741824 : Int)) * 1073741824 : Int))) (by kernel_rfl) (by simp only [imin2]))
              refine lS hs [(6, .int .i64 (min ((min (sum : Int) (1073741824 : Int)) * 1073741824 : Int) (1073741824 : Int)), [])] ?_
              refine lN ?_
              refine cTo [(6, .int .i64 (min ((min (sum : Int) (1073741824 : Int)) * 1073741824 : Int) (1073741824 : Int)))] ?_
              refine CG.ret ?_
              exact hs.ret [] (.int .i64 (min ((min (sum : Int) (1073741824 : Int)) * 1073741824 : Int) (1073741824 : Int))) (congrArg (Value.int .i64) (by unfold weighS; first | (rw [if_pos (by omega)]; omega) | (rw [if_neg (by omega), if_pos (by omega), if_pos (by omega)]; rw [hmn] at *; omega) | (rw [if_neg (by omega), if_pos (by omega), if_neg (by omega)]; rw [hmn] at *; omega) | (rw [if_neg (by omega), if_neg (by omega)]; omega)))
          ·
            have phb7 := of_decide_eq_true hb7
            refine lB 24 hb7 ?_
            refine lS hs [(25, .bool true, [])] ?_
            refine lG 26 ?_
            refine lG 27 ?_
            refine lS hs [(28, .bool true, [])] ?_
            refine lN ?_
            refine cIT ?_
            refine CG.listed ?_
            refine lS hs [(1, .int .i64 1073741824, [])] ?_
            refine lN ?_
            refine CG.listed ?_
            refine lS hs [(29, .int .i64 sum, [])] ?_
            refine lV 30 (.int .i64 (min (sum : Int) (1073741824 : Int))) ?_ (hr := rint (n := (if (1073741824 : Int) < (sum : Int) then (1073741824 : Int) else (sum : Int))) (by kernel_rfl) (by simp only [imin2]))
            refine lS hs [(31, .int .i64 1073741824, [])] ?_
            refine lI 32 ((min (sum : Int) (1073741824 : Int)) * 1073741824) ?_
            refine lS hs [(2, .int .i64 ((min (sum : Int) (1073741824 : Int)) * 1073741824), [])] ?_
            refine lN ?_
            refine cSL ?_
            refine lS hs [(33, .int .i64 ((min (sum : Int) (1073741824 : Int)) * 1073741824), [])] ?_
            refine lV 34 (.int .i64 (min ((min (sum : Int) (1073741824 : Int)) * 1073741824 : Int) (1073741824 : Int))) ?_ (hr := rint (n := (if (1073741824 : Int) < ((min (sum : Int) (1073741824 : Int)) * 1073741824 : Int) then (1073741824 : Int) else ((min (sum : Int) (1073741824 : Int)) * 1073741824 : Int))) (by kernel_rfl) (by simp only [imin2]))
            refine lS hs [(6, .int .i64 (min ((min (sum : Int) (1073741824 : Int)) * 1073741824 : Int) (1073741824 : Int)), [])] ?_
            refine lN ?_
            refine cTo [(6, .int .i64 (min ((min (sum : Int) (1073741824 : Int)) * 1073741824 : Int) (1073741824 : Int)))] ?_
            refine CG.ret ?_
            exact hs.ret [] (.int .i64 (min ((min (sum : Int) (1073741824 : Int)) * 1073741824 : Int) (1073741824 : Int))) (congrArg (Value.int .i64) (by unfold weighS; first | (rw [if_pos (by omega)]; omega) | (rw [if_neg (by omega), if_pos (by omega), if_pos (by omega)]; rw [hmn] at *; omega) | (rw [if_neg (by omega), if_pos (by omega), if_neg (by omega)]; rw [hmn] at *; omega) | (rw [if_neg (by omega), if_neg (by omega)]; omega)))
  ·
    have phb1 := eq_of_beq hb1
    refine lB 9 hb1 ?_
    refine lS hs [(7, .bool true, [])] ?_
    refine lN ?_
    refine cIT ?_
    refine CG.listed ?_
    refine lS hs [(10, .int .i64 sum, [])] ?_
    refine lI 11 (2 * sum) ?_
    refine lS hs [(2, .int .i64 (2 * sum), [])] ?_
    refine lN ?_
    refine cSL ?_
    refine lS hs [(33, .int .i64 (2 * sum), [])] ?_
    refine lV 34 (.int .i64 (min (2 * sum : Int) (1073741824 : Int))) ?_ (hr := rint (n := (if (1073741824 : Int) < (2 * sum : Int) then (1073741824 : Int) else (2 * sum : Int))) (by kernel_rfl) (by simp only [imin2]))
    refine lS hs [(6, .int .i64 (min (2 * sum : Int) (1073741824 : Int)), [])] ?_
    refine lN ?_
    refine CG.ret ?_
    exact hs.ret [] (.int .i64 (min (2 * sum : Int) (1073741824 : Int))) (congrArg (Value.int .i64) (by unfold weighS; first | (rw [if_pos (by omega)]; omega) | (rw [if_neg (by omega), if_pos (by omega), if_pos (by omega)]; rw [hmn] at *; omega) | (rw [if_neg (by omega), if_pos (by omega), if_neg (by omega)]; rw [hmn] at *; omega) | (rw [if_neg (by omega), if_neg (by omega)]; omega)))

set_option maxRecDepth 100000 in
set_option maxHeartbeats 600000 in
theorem rRight (inp : Int) (A : Option Addr) (c : Nat) (ts : List RSt) (ss : List OSt) (O : Option Addr) (d : Nat) (os : List Int) (i : Nat) (hik : i < ss.length) (hl : ss.length ≤ 1000000) (w : World) (h : Hp) (g : G w h) (hA : SlO 7 rsc rst0 h A ts) (hT : RSs h ts ss) (hO : SlO 1 i64c 0 h O os) :
    Calls Tryz.prog 22 #[.agg #[.int .i64 inp, .slice A ts.length c, .slice O os.length d], .int .i64 (i : Nat)] w (Ret w h fun v _ => v = .bool (decide (Formed inp i (ss.getD i ost0).stp))) := by
  have hs := SS.start g
  replace hs := (((hs.a_SlO hA).add (K := fun h_ => RSs h_ ts ss) hT).a_SlO hO)
  have hlt := (hs.f.2.1).len
  have hz := ((hs.f.2.1).at_ i hik).z
  have hzq : (odn (ss.getD i ost0) = 0 ∨ (ss.getD i ost0).q.num = 0) ↔ (ss.getD i ost0).q.num = 0 := or_iff_right_of_imp (fun h_ => by
      have : (ss.getD i ost0).has = false := by
        have h2 := odn_pos (o := (ss.getD i ost0)); rw [h_, lim_zero] at h2; cases h3 : (ss.getD i ost0).has; rfl; rw [h3] at h2; simp at h2
      rw [hz this]; rfl)
  refine go Tryz.func22 [(0, .agg #[.int .i64 inp, .slice A ts.length c, .slice O os.length d]), (1, .int .i64 (i : Nat))] rfl ?_
  refine cSL ?_
  refine lA 2 25 ([.int .i64 inp, .slice A ts.length c, .slice O os.length d]) hs (fun b1 w2 h3 hs => ?_)
  refine lS hs [(4, .bool false, [])] ?_
  refine lN ?_
  refine cSL ?_
  refine lS hs [(7, .pointer (some ⟨b1, 1, none⟩), []), (8, .slice A ts.length c, [(0, 1, 1)]), (9, .int .i64 (i : Nat), [])] ?_
  refine lX 10 A ts.length c 7 (i : Nat) i ((hs.f.2.2.1).ok (by omega)) ?_
  obtain ⟨Aqx, cqx, Dqx, dqx, eqx, hcqx, hdqx, hAqx, hDqx⟩ := ((hs.f.2.1).at_ i (by omega)).opn
  replace hs := ((hs.a_SlO hAqx).a_SlO hDqx)
  refine lHe 11 (.agg #[.int .i64 ((ts.getD i rst0).op), .int .i64 ((ts.getD i rst0).a), .int .i64 ((ts.getD i rst0).b), .int .i64 ((ts.getD i rst0).n), .bool ((ts.getD i rst0).t.1), (ts.getD i rst0).t.2.1, (ts.getD i rst0).t.2.2]) hs ((hs.f.2.2.2.2.1).el i (by omega)) eqx ?_
  refine lA 5 47 ([.int .i64 0, .int .i64 0, .int .i64 0, .int .i64 0, .bool false, .slice none 0 0, .slice none 0 0]) hs (fun b4 w5 h6 hs => ?_)
  refine lP 0 0 ([.int .i64 ((ss.getD i ost0).op), .int .i64 ((ss.getD i ost0).a), .int .i64 ((ss.getD i ost0).b), .int .i64 ((ss.getD i ost0).n), .bool (ineg (ss.getD i ost0).q.num), .slice Aqx ((lim (iabs (ss.getD i ost0).q.num)).length) cqx, .slice Dqx ((lim (odn (ss.getD i ost0))).length) dqx]) hs (fun w7 hs => ?_)
  refine lN ?_
  refine cSL ?_
  refine lS hs [(12, .pointer (some ⟨b4, 0, none⟩), []), (13, .int .i64 ((ss.getD i ost0).op), [(0, 0, 1)])] ?_
  refine lC 14 hs (rKids (ss.getD i ost0).op _ _ hs.g) ?_
  rintro _ w8 h9 hs rfl
  have hac := ari_cases (ss.getD i ost0).op
  refine lS hs [(6, .int .i64 (ari (ss.getD i ost0).op), [])] ?_
  refine lN ?_
  refine CG.seq ?_
  refine CG.block ?_
  refine cSL ?_
  refine lS hs [(16, .int .i64 (ari (ss.getD i ost0).op), [])] ?_
  cases hb10 : (decide ((ari (ss.getD i ost0).op : Int) < (0 : Int)))
  ·
    have phb10 := of_decide_eq_false hb10
    refine lB 17 hb10 ?_
    refine lS hs [(18, .bool false, []), (19, .pointer (some ⟨b4, 0, none⟩), []), (20, .int .i64 ((ss.getD i ost0).op), [(0, 0, 1)])] ?_
    cases hb11 : (((ss.getD i ost0).op : Int) != (1 : Int))
    ·
      have phb11 := eqOfBne hb11
      refine lB 21 hb11 ?_
      refine lS hs [(22, .bool false, [])] ?_
      refine lG 23 ?_
      refine lG 24 ?_
      refine lG 25 ?_
      refine lG 26 ?_
      refine lS hs [(27, .bool false, []), (28, .bool false, []), (29, .bool false, []), (30, .pointer (some ⟨b4, 0, none⟩), []), (31, .int .i64 ((ss.getD i ost0).op), [(0, 0, 1)])] ?_
      have hb12 : (((ss.getD i ost0).op : Int) != (8 : Int)) = true := bneT (by omega)
      have phb12 := neOfBne hb12
      refine lB 32 hb12 ?_
      refine lS hs [(33, .bool true, []), (34, .pointer (some ⟨b4, 0, none⟩), []), (35, .int .i64 ((ss.getD i ost0).op), [(0, 0, 1)])] ?_
      have hb13 : (((ss.getD i ost0).op : Int) != (2 : Int)) = true := bneT (by omega)
      have phb13 := neOfBne hb13
      refine lB 36 hb13 ?_
      refine lS hs [(37, .bool true, []), (38, .bool true, []), (39, .pointer (some ⟨b4, 3, none⟩), []), (40, .int .i64 ((ss.getD i ost0).n), [(0, 3, 1)])] ?_
      cases hb14 : (((ss.getD i ost0).n : Int) != (0 : Int))
      ·
        have phb14 := eqOfBne hb14
        refine lB 41 hb14 ?_
        refine lS hs [(42, .bool false, []), (43, .bool false, []), (15, .bool false, [])] ?_
        refine lN ?_
        refine cTo [(1, .int .i64 (i : Nat)), (2, .pointer (some ⟨b1, 0, none⟩)), (4, .bool false), (5, .pointer (some ⟨b4, 0, none⟩)), (6, .int .i64 (ari (ss.getD i ost0).op)), (15, .bool false)] ?_
        refine cIF ?_
        refine cSL ?_
        refine lS hs [(45, .pointer (some ⟨b4, 0, none⟩), []), (46, .int .i64 ((ss.getD i ost0).op), [(0, 0, 1)])] ?_
        have hb15 : (((ss.getD i ost0).op : Int) == (2 : Int)) = false := beqF (by omega)
        have phb15 := neOfBeq hb15
        refine lB 47 hb15 ?_
        refine lS hs [(48, .bool false, [])] ?_
        refine lG 49 ?_
        refine lG 50 ?_
        refine lG 51 ?_
        refine lG 52 ?_
        refine lG 53 ?_
        refine lG 54 ?_
        refine lG 55 ?_
        refine lG 56 ?_
        refine lG 57 ?_
        refine lG 58 ?_
        refine lS hs [(59, .bool false, []), (60, .bool false, []), (61, .pointer (some ⟨b4, 0, none⟩), []), (62, .int .i64 ((ss.getD i ost0).op), [(0, 0, 1)])] ?_
        have hb16 : (((ss.getD i ost0).op : Int) == (8 : Int)) = false := beqF (by omega)
        have phb16 := neOfBeq hb16
        refine lB 63 hb16 ?_
        refine lS hs [(64, .bool false, [])] ?_
        refine lG 65 ?_
        refine lG 66 ?_
        refine lG 67 ?_
        refine lG 68 ?_
        refine lG 69 ?_
        refine lG 70 ?_
        refine lG 71 ?_
        refine lG 72 ?_
        refine lS hs [(73, .bool false, []), (74, .bool false, []), (44, .bool false, [])] ?_
        refine lN ?_
        refine cTo [(1, .int .i64 (i : Nat)), (4, .bool false), (5, .pointer (some ⟨b4, 0, none⟩)), (6, .int .i64 (ari (ss.getD i ost0).op)), (44, .bool false)] ?_
        refine cIF ?_
        refine cSL ?_
        refine lS hs [(76, .int .i64 (ari (ss.getD i ost0).op), [])] ?_
        cases hb17 : (decide ((0 : Int) < (ari (ss.getD i ost0).op : Int)))
        ·
          have phb17 := of_decide_eq_false hb17
          refine lB 77 hb17 ?_
          refine lS hs [(78, .bool false, [])] ?_
          refine lG 79 ?_
          refine lG 80 ?_
          refine lG 81 ?_
          refine lG 82 ?_
          refine lG 83 ?_
          refine lG 84 ?_
          refine lG 85 ?_
          refine lG 86 ?_
          refine lG 87 ?_
          refine lS hs [(88, .bool false, []), (89, .bool false, []), (90, .int .i64 (ari (ss.getD i ost0).op), [])] ?_
          have hb18 : ((ari (ss.getD i ost0).op : Int) == (0 : Int)) = true := beqT (by omega)
          have phb18 := eq_of_beq hb18
          refine lB 91 hb18 ?_
          refine lS hs [(92, .bool true, []), (93, .pointer (some ⟨b4, 1, none⟩), []), (94, .int .i64 ((ss.getD i ost0).a), [(0, 1, 1)])] ?_
          cases hb19 : (((ss.getD i ost0).a : Int) != (0 : Int))
          ·
            have phb19 := eqOfBne hb19
            refine lB 95 hb19 ?_
            refine lS hs [(96, .bool false, []), (97, .bool false, []), (75, .bool false, [])] ?_
            refine lN ?_
            refine cTo [(1, .int .i64 (i : Nat)), (4, .bool false), (5, .pointer (some ⟨b4, 0, none⟩)), (6, .int .i64 (ari (ss.getD i ost0).op)), (75, .bool false)] ?_
            refine cIF ?_
            refine CG.skipN ?_
            refine cSL ?_
            refine lS hs [(98, .int .i64 (ari (ss.getD i ost0).op), [])] ?_
            have hb20 : ((ari (ss.getD i ost0).op : Int) == (2 : Int)) = false := beqF (by omega)
            have phb20 := neOfBeq hb20
            refine lB 99 hb20 ?_
            refine lS hs [(100, .bool false, [])] ?_
            refine lG 101 ?_
            refine lG 102 ?_
            refine lG 103 ?_
            refine lS hs [(104, .bool false, []), (105, .bool false, [])] ?_
            refine lG 106 ?_
            refine lG 107 ?_
            refine lG 108 ?_
            refine lG 109 ?_
            refine lS hs [(110, .bool false, []), (111, .bool false, []), (112, .int .i64 (ari (ss.getD i ost0).op), [])] ?_
            have hb21 : (decide ((ari (ss.getD i ost0).op : Int) < (2 : Int))) = true := decide_eq_true (by omega)
            have phb21 := of_decide_eq_true hb21
            refine lB 113 hb21 ?_
            refine lS hs [(114, .bool true, []), (115, .pointer (some ⟨b4, 2, none⟩), []), (116, .int .i64 ((ss.getD i ost0).b), [(0, 2, 1)])] ?_
            cases hb22 : (((ss.getD i ost0).b : Int) == (0 : Int))
            ·
              have phb22 := neOfBeq hb22
              refine lB 117 hb22 ?_
              refine lS hs [(118, .bool false, []), (119, .bool false, []), (4, .bool false, [])] ?_
              refine lN ?_
              refine cTo [(4, .bool false)] ?_
              refine CG.ret ?_
              exact hs.ret [] (.bool false) (congrArg Value.bool (decide_eq_false (by dsimp only [Formed, Refers, OSt.stp]; omega)).symm)
            ·
              have phb22 := eq_of_beq hb22
              refine lB 117 hb22 ?_
              refine lS hs [(118, .bool true, []), (119, .bool true, []), (4, .bool true, [])] ?_
              refine lN ?_
              refine cTo [(4, .bool true)] ?_
              refine CG.ret ?_
              exact hs.ret [] (.bool true) (congrArg Value.bool (decide_eq_true (by dsimp only [Formed, Refers, OSt.stp]; omega)).symm)
          ·
            have phb19 := neOfBne hb19
            refine lB 95 hb19 ?_
            refine lS hs [(96, .bool true, []), (97, .bool true, []), (75, .bool true, [])] ?_
            refine lN ?_
            refine cTo [(1, .int .i64 (i : Nat)), (4, .bool false), (5, .pointer (some ⟨b4, 0, none⟩)), (6, .int .i64 (ari (ss.getD i ost0).op)), (75, .bool true)] ?_
            refine cIT ?_
            refine cSL ?_
            refine lS hs [(4, .bool false, [])] ?_
            refine lN ?_
            refine CG.ret ?_
            exact hs.ret [] (.bool false) (congrArg Value.bool (decide_eq_false (by dsimp only [Formed, Refers, OSt.stp]; omega)).symm)
        ·
          have phb17 := of_decide_eq_true hb17
          refine lB 77 hb17 ?_
          refine lS hs [(78, .bool true, []), (79, .pointer (some ⟨b4, 1, none⟩), []), (80, .int .i64 ((ss.getD i ost0).a), [(0, 1, 1)])] ?_
          cases hb23 : (decide (((ss.getD i ost0).a : Int) < (0 : Int)))
          ·
            have phb23 := of_decide_eq_false hb23
            refine lB 81 hb23 ?_
            refine lS hs [(82, .bool false, []), (83, .pointer (some ⟨b4, 1, none⟩), []), (84, .int .i64 ((ss.getD i ost0).a), [(0, 1, 1)]), (85, .int .i64 (i : Nat), [])] ?_
            cases hb24 : (decide (((i : Nat) : Int) ≤ ((ss.getD i ost0).a : Int)))
            ·
              have phb24 := of_decide_eq_false hb24
              refine lB 86 hb24 ?_
              refine lS hs [(87, .bool false, []), (88, .bool false, []), (89, .bool false, []), (90, .int .i64 (ari (ss.getD i ost0).op), [])] ?_
              have hb25 : ((ari (ss.getD i ost0).op : Int) == (0 : Int)) = false := beqF (by omega)
              have phb25 := neOfBeq hb25
              refine lB 91 hb25 ?_
              refine lS hs [(92, .bool false, [])] ?_
              refine lG 93 ?_
              refine lG 94 ?_
              refine lG 95 ?_
              refine lS hs [(96, .bool false, []), (97, .bool false, []), (75, .bool false, [])] ?_
              refine lN ?_
              refine cTo [(1, .int .i64 (i : Nat)), (4, .bool false), (5, .pointer (some ⟨b4, 0, none⟩)), (6, .int .i64 (ari (ss.getD i ost0).op)), (75, .bool false)] ?_
              refine cIF ?_
              refine CG.skipN ?_
              refine cSL ?_
              refine lS hs [(98, .int .i64 (ari (ss.getD i ost0).op), [])] ?_
              cases hb26 : ((ari (ss.getD i ost0).op : Int) == (2 : Int))
              ·
                have phb26 := neOfBeq hb26
                refine lB 99 hb26 ?_
                refine lS hs [(100, .bool false, [])] ?_
                refine lG 101 ?_
                refine lG 102 ?_
                refine lG 103 ?_
                refine lS hs [(104, .bool false, []), (105, .bool false, [])] ?_
                refine lG 106 ?_
                refine lG 107 ?_
                refine lG 108 ?_
                refine lG 109 ?_
                refine lS hs [(110, .bool false, []), (111, .bool false, []), (112, .int .i64 (ari (ss.getD i ost0).op), [])] ?_
                cases hb27 : (decide ((ari (ss.getD i ost0).op : Int) < (2 : Int)))
                ·
                  have phb27 := of_decide_eq_false hb27
                  refine lB 113 hb27 ?_
                  refine lS hs [(114, .bool false, [])] ?_
                  refine lG 115 ?_
                  refine lG 116 ?_
                  refine lG 117 ?_
                  refine lS hs [(118, .bool false, []), (119, .bool false, []), (4, .bool false, [])] ?_
                  refine lN ?_
                  refine cTo [(4, .bool false)] ?_
                  refine CG.ret ?_
                  exact hs.ret [] (.bool false) (congrArg Value.bool (decide_eq_false (by dsimp only [Formed, Refers, OSt.stp]; omega)).symm)
                ·
                  have phb27 := of_decide_eq_true hb27
                  refine lB 113 hb27 ?_
                  refine lS hs [(114, .bool true, []), (115, .pointer (some ⟨b4, 2, none⟩), []), (116, .int .i64 ((ss.getD i ost0).b), [(0, 2, 1)])] ?_
                  cases hb28 : (((ss.getD i ost0).b : Int) == (0 : Int))
                  ·
                    have phb28 := neOfBeq hb28
                    refine lB 117 hb28 ?_
                    refine lS hs [(118, .bool false, []), (119, .bool false, []), (4, .bool false, [])] ?_
                    refine lN ?_
                    refine cTo [(4, .bool false)] ?_
                    refine CG.ret ?_
                    exact hs.ret [] (.bool false) (congrArg Value.bool (decide_eq_false (by dsimp only [Formed, Refers, OSt.stp]; omega)).symm)
                  ·
                    have phb28 := eq_of_beq hb28
                    refine lB 117 hb28 ?_
                    refine lS hs [(118, .bool true, []), (119, .bool true, []), (4, .bool true, [])] ?_
                    refine lN ?_
                    refine cTo [(4, .bool true)] ?_
                    refine CG.ret ?_
                    exact hs.ret [] (.bool true) (congrArg Value.bool (decide_eq_true (by dsimp only [Formed, Refers, OSt.stp]; omega)).symm)
              ·
                have phb26 := eq_of_beq hb26
                refine lB 99 hb26 ?_
                refine lS hs [(100, .bool true, []), (101, .pointer (some ⟨b4, 2, none⟩), []), (102, .int .i64 ((ss.getD i ost0).b), [(0, 2, 1)])] ?_
                cases hb29 : (decide ((0 : Int) ≤ ((ss.getD i ost0).b : Int)))
                ·
                  have phb29 := of_decide_eq_false hb29
                  refine lB 103 hb29 ?_
                  refine lS hs [(104, .bool false, []), (105, .bool false, [])] ?_
                  refine lG 106 ?_
                  refine lG 107 ?_
                  refine lG 108 ?_
                  refine lG 109 ?_
                  refine lS hs [(110, .bool false, []), (111, .bool false, []), (112, .int .i64 (ari (ss.getD i ost0).op), [])] ?_
                  have hb30 : (decide ((ari (ss.getD i ost0).op : Int) < (2 : Int))) = false := decide_eq_false (by omega)
                  have phb30 := of_decide_eq_false hb30
                  refine lB 113 hb30 ?_
                  refine lS hs [(114, .bool false, [])] ?_
                  refine lG 115 ?_
                  refine lG 116 ?_
                  refine lG 117 ?_
                  refine lS hs [(118, .bool false, []), (119, .bool false, []), (4, .bool false, [])] ?_
                  refine lN ?_
                  refine cTo [(4, .bool false)] ?_
                  refine CG.ret ?_
                  exact hs.ret [] (.bool false) (congrArg Value.bool (decide_eq_false (by dsimp only [Formed, Refers, OSt.stp]; omega)).symm)
                ·
                  have phb29 := of_decide_eq_true hb29
                  refine lB 103 hb29 ?_
                  refine lS hs [(104, .bool true, []), (105, .bool true, []), (106, .pointer (some ⟨b4, 2, none⟩), []), (107, .int .i64 ((ss.getD i ost0).b), [(0, 2, 1)]), (108, .int .i64 (i : Nat), [])] ?_
                  cases hb31 : (decide (((ss.getD i ost0).b : Int) < ((i : Nat) : Int)))
                  ·
                    have phb31 := of_decide_eq_false hb31
                    refine lB 109 hb31 ?_
                    refine lS hs [(110, .bool false, []), (111, .bool false, []), (112, .int .i64 (ari (ss.getD i ost0).op), [])] ?_
                    have hb32 : (decide ((ari (ss.getD i ost0).op : Int) < (2 : Int))) = false := decide_eq_false (by omega)
                    have phb32 := of_decide_eq_false hb32
                    refine lB 113 hb32 ?_
                    refine lS hs [(114, .bool false, [])] ?_
                    refine lG 115 ?_
                    refine lG 116 ?_
                    refine lG 117 ?_
                    refine lS hs [(118, .bool false, []), (119, .bool false, []), (4, .bool false, [])] ?_
                    refine lN ?_
                    refine cTo [(4, .bool false)] ?_
                    refine CG.ret ?_
                    exact hs.ret [] (.bool false) (congrArg Value.bool (decide_eq_false (by dsimp only [Formed, Refers, OSt.stp]; omega)).symm)
                  ·
                    have phb31 := of_decide_eq_true hb31
                    refine lB 109 hb31 ?_
                    refine lS hs [(110, .bool true, []), (111, .bool true, [])] ?_
                    refine lG 112 ?_
                    refine lG 113 ?_
                    refine lG 114 ?_
                    refine lG 115 ?_
                    refine lG 116 ?_
                    refine lG 117 ?_
                    refine lG 118 ?_
                    refine lS hs [(119, .bool true, []), (4, .bool true, [])] ?_
                    refine lN ?_
                    refine cTo [(4, .bool true)] ?_
                    refine CG.ret ?_
                    exact hs.ret [] (.bool true) (congrArg Value.bool (decide_eq_true (by dsimp only [Formed, Refers, OSt.stp]; omega)).symm)
            ·
              have phb24 := of_decide_eq_true hb24
              refine lB 86 hb24 ?_
              refine lS hs [(87, .bool true, []), (88, .bool true, []), (89, .bool true, [])] ?_
              refine lG 90 ?_
              refine lG 91 ?_
              refine lG 92 ?_
              refine lG 93 ?_
              refine lG 94 ?_
              refine lG 95 ?_
              refine lG 96 ?_
              refine lS hs [(97, .bool true, []), (75, .bool true, [])] ?_
              refine lN ?_
              refine cTo [(1, .int .i64 (i : Nat)), (4, .bool false), (5, .pointer (some ⟨b4, 0, none⟩)), (6, .int .i64 (ari (ss.getD i ost0).op)), (75, .bool true)] ?_
              refine cIT ?_
              refine cSL ?_
              refine lS hs [(4, .bool false, [])] ?_
              refine lN ?_
              refine CG.ret ?_
              exact hs.ret [] (.bool false) (congrArg Value.bool (decide_eq_false (by dsimp only [Formed, Refers, OSt.stp]; omega)).symm)
          ·
            have phb23 := of_decide_eq_true hb23
            refine lB 81 hb23 ?_
            refine lS hs [(82, .bool true, [])] ?_
            refine lG 83 ?_
            refine lG 84 ?_
            refine lG 85 ?_
            refine lG 86 ?_
            refine lS hs [(87, .bool true, []), (88, .bool true, []), (89, .bool true, [])] ?_
            refine lG 90 ?_
            refine lG 91 ?_
            refine lG 92 ?_
            refine lG 93 ?_
            refine lG 94 ?_
            refine lG 95 ?_
            refine lG 96 ?_
            refine lS hs [(97, .bool true, []), (75, .bool true, [])] ?_
            refine lN ?_
            refine cTo [(1, .int .i64 (i : Nat)), (4, .bool false), (5, .pointer (some ⟨b4, 0, none⟩)), (6, .int .i64 (ari (ss.getD i ost0).op)), (75, .bool true)] ?_
            refine cIT ?_
            refine cSL ?_
            refine lS hs [(4, .bool false, [])] ?_
            refine lN ?_
            refine CG.ret ?_
            exact hs.ret [] (.bool false) (congrArg Value.bool (decide_eq_false (by dsimp only [Formed, Refers, OSt.stp]; omega)).symm)
      ·
        have phb14 := neOfBne hb14
        refine lB 41 hb14 ?_
        refine lS hs [(42, .bool true, []), (43, .bool true, []), (15, .bool true, [])] ?_
        refine lN ?_
        refine cTo [(1, .int .i64 (i : Nat)), (2, .pointer (some ⟨b1, 0, none⟩)), (4, .bool false), (5, .pointer (some ⟨b4, 0, none⟩)), (6, .int .i64 (ari (ss.getD i ost0).op)), (15, .bool true)] ?_
        refine cIT ?_
        refine cSL ?_
        refine lS hs [(4, .bool false, [])] ?_
        refine lN ?_
        refine CG.ret ?_
        exact hs.ret [] (.bool false) (congrArg Value.bool (decide_eq_false (by dsimp only [Formed, Refers, OSt.stp]; omega)).symm)
    ·
      have phb11 := neOfBne hb11
      refine lB 21 hb11 ?_
      refine lS hs [(22, .bool true, []), (23, .pointer (some ⟨b4, 4, none⟩), []), (24, .agg #[.bool (ineg (ss.getD i ost0).q.num), .slice Aqx ((lim (iabs (ss.getD i ost0).q.num)).length) cqx, .slice Dqx ((lim (odn (ss.getD i ost0))).length) dqx], [(0, 4, 3)])] ?_
      refine lC 25 hs (rZero (ss.getD i ost0).q.num Aqx cqx (odn (ss.getD i ost0)) Dqx dqx hcqx hdqx _ _ hs.g (hs.f.2.1) (hs.f.1)) ?_
      rintro _ w33 h34 hs rfl
      cases hb35 : (decide (odn (ss.getD i ost0) = 0 ∨ (ss.getD i ost0).q.num = 0))
      ·
        have phb35 := of_decide_eq_false hb35
        refine lS hs [(26, .bool true, []), (27, .bool true, []), (28, .bool true, []), (29, .bool true, [])] ?_
        refine lG 30 ?_
        refine lG 31 ?_
        refine lG 32 ?_
        refine lG 33 ?_
        refine lG 34 ?_
        refine lG 35 ?_
        refine lG 36 ?_
        refine lG 37 ?_
        refine lG 38 ?_
        refine lG 39 ?_
        refine lG 40 ?_
        refine lG 41 ?_
        refine lG 42 ?_
        refine lS hs [(43, .bool true, []), (15, .bool true, [])] ?_
        refine lN ?_
        refine cTo [(1, .int .i64 (i : Nat)), (2, .pointer (some ⟨b1, 0, none⟩)), (4, .bool false), (5, .pointer (some ⟨b4, 0, none⟩)), (6, .int .i64 (ari (ss.getD i ost0).op)), (15, .bool true)] ?_
        refine cIT ?_
        refine cSL ?_
        refine lS hs [(4, .bool false, [])] ?_
        refine lN ?_
        refine CG.ret ?_
        exact hs.ret [] (.bool false) (congrArg Value.bool (decide_eq_false (by dsimp only [Formed, Refers, OSt.stp]; omega)).symm)
      ·
        have phb35 := of_decide_eq_true hb35
        refine lS hs [(26, .bool false, []), (27, .bool false, []), (28, .bool false, []), (29, .bool false, []), (30, .pointer (some ⟨b4, 0, none⟩), []), (31, .int .i64 ((ss.getD i ost0).op), [(0, 0, 1)])] ?_
        cases hb36 : (((ss.getD i ost0).op : Int) != (8 : Int))
        ·
          have phb36 := eqOfBne hb36
          refine lB 32 hb36 ?_
          refine lS hs [(33, .bool false, [])] ?_
          refine lG 34 ?_
          refine lG 35 ?_
          refine lG 36 ?_
          refine lS hs [(37, .bool false, []), (38, .bool false, [])] ?_
          refine lG 39 ?_
          refine lG 40 ?_
          refine lG 41 ?_
          refine lS hs [(42, .bool false, []), (43, .bool false, []), (15, .bool false, [])] ?_
          refine lN ?_
          refine cTo [(1, .int .i64 (i : Nat)), (2, .pointer (some ⟨b1, 0, none⟩)), (4, .bool false), (5, .pointer (some ⟨b4, 0, none⟩)), (6, .int .i64 (ari (ss.getD i ost0).op)), (15, .bool false)] ?_
          refine cIF ?_
          refine cSL ?_
          refine lS hs [(45, .pointer (some ⟨b4, 0, none⟩), []), (46, .int .i64 ((ss.getD i ost0).op), [(0, 0, 1)])] ?_
          have hb37 : (((ss.getD i ost0).op : Int) == (2 : Int)) = false := beqF (by omega)
          have phb37 := neOfBeq hb37
          refine lB 47 hb37 ?_
          refine lS hs [(48, .bool false, [])] ?_
          refine lG 49 ?_
          refine lG 50 ?_
          refine lG 51 ?_
          refine lG 52 ?_
          refine lG 53 ?_
          refine lG 54 ?_
          refine lG 55 ?_
          refine lG 56 ?_
          refine lG 57 ?_
          refine lG 58 ?_
          refine lS hs [(59, .bool false, []), (60, .bool false, []), (61, .pointer (some ⟨b4, 0, none⟩), []), (62, .int .i64 ((ss.getD i ost0).op), [(0, 0, 1)])] ?_
          have hb38 : (((ss.getD i ost0).op : Int) == (8 : Int)) = true := beqT (by omega)
          have phb38 := eq_of_beq hb38
          refine lB 63 hb38 ?_
          refine lS hs [(64, .bool true, []), (65, .pointer (some ⟨b4, 3, none⟩), []), (66, .int .i64 ((ss.getD i ost0).n), [(0, 3, 1)])] ?_
          cases hb39 : (decide (((ss.getD i ost0).n : Int) < (-12 : Int)))
          ·
            have phb39 := of_decide_eq_false hb39
            refine lB 67 hb39 ?_
            refine lS hs [(68, .bool false, []), (69, .pointer (some ⟨b4, 3, none⟩), []), (70, .int .i64 ((ss.getD i ost0).n), [(0, 3, 1)])] ?_
            cases hb40 : (decide ((12 : Int) < ((ss.getD i ost0).n : Int)))
            ·
              have phb40 := of_decide_eq_false hb40
              refine lB 71 hb40 ?_
              refine lS hs [(72, .bool false, []), (73, .bool false, []), (74, .bool false, []), (44, .bool false, [])] ?_
              refine lN ?_
              refine cTo [(1, .int .i64 (i : Nat)), (4, .bool false), (5, .pointer (some ⟨b4, 0, none⟩)), (6, .int .i64 (ari (ss.getD i ost0).op)), (44, .bool false)] ?_
              refine cIF ?_
              refine cSL ?_
              refine lS hs [(76, .int .i64 (ari (ss.getD i ost0).op), [])] ?_
              cases hb41 : (decide ((0 : Int) < (ari (ss.getD i ost0).op : Int)))
              ·
                have phb41 := of_decide_eq_false hb41
                refine lB 77 hb41 ?_
                refine lS hs [(78, .bool false, [])] ?_
                refine lG 79 ?_
                refine lG 80 ?_
                refine lG 81 ?_
                refine lG 82 ?_
                refine lG 83 ?_
                refine lG 84 ?_
                refine lG 85 ?_
                refine lG 86 ?_
                refine lG 87 ?_
                refine lS hs [(88, .bool false, []), (89, .bool false, []), (90, .int .i64 (ari (ss.getD i ost0).op), [])] ?_
                have hb42 : ((ari (ss.getD i ost0).op : Int) == (0 : Int)) = true := beqT (by omega)
                have phb42 := eq_of_beq hb42
                refine lB 91 hb42 ?_
                refine lS hs [(92, .bool true, []), (93, .pointer (some ⟨b4, 1, none⟩), []), (94, .int .i64 ((ss.getD i ost0).a), [(0, 1, 1)])] ?_
                cases hb43 : (((ss.getD i ost0).a : Int) != (0 : Int))
                ·
                  have phb43 := eqOfBne hb43
                  refine lB 95 hb43 ?_
                  refine lS hs [(96, .bool false, []), (97, .bool false, []), (75, .bool false, [])] ?_
                  refine lN ?_
                  refine cTo [(1, .int .i64 (i : Nat)), (4, .bool false), (5, .pointer (some ⟨b4, 0, none⟩)), (6, .int .i64 (ari (ss.getD i ost0).op)), (75, .bool false)] ?_
                  refine cIF ?_
                  refine CG.skipN ?_
                  refine cSL ?_
                  refine lS hs [(98, .int .i64 (ari (ss.getD i ost0).op), [])] ?_
                  have hb44 : ((ari (ss.getD i ost0).op : Int) == (2 : Int)) = false := beqF (by omega)
                  have phb44 := neOfBeq hb44
                  refine lB 99 hb44 ?_
                  refine lS hs [(100, .bool false, [])] ?_
                  refine lG 101 ?_
                  refine lG 102 ?_
                  refine lG 103 ?_
                  refine lS hs [(104, .bool false, []), (105, .bool false, [])] ?_
                  refine lG 106 ?_
                  refine lG 107 ?_
                  refine lG 108 ?_
                  refine lG 109 ?_
                  refine lS hs [(110, .bool false, []), (111, .bool false, []), (112, .int .i64 (ari (ss.getD i ost0).op), [])] ?_
                  have hb45 : (decide ((ari (ss.getD i ost0).op : Int) < (2 : Int))) = true := decide_eq_true (by omega)
                  have phb45 := of_decide_eq_true hb45
                  refine lB 113 hb45 ?_
                  refine lS hs [(114, .bool true, []), (115, .pointer (some ⟨b4, 2, none⟩), []), (116, .int .i64 ((ss.getD i ost0).b), [(0, 2, 1)])] ?_
                  cases hb46 : (((ss.getD i ost0).b : Int) == (0 : Int))
                  ·
                    have phb46 := neOfBeq hb46
                    refine lB 117 hb46 ?_
                    refine lS hs [(118, .bool false, []), (119, .bool false, []), (4, .bool false, [])] ?_
                    refine lN ?_
                    refine cTo [(4, .bool false)] ?_
                    refine CG.ret ?_
                    exact hs.ret [] (.bool false) (congrArg Value.bool (decide_eq_false (by dsimp only [Formed, Refers, OSt.stp]; omega)).symm)
                  ·
                    have phb46 := eq_of_beq hb46
                    refine lB 117 hb46 ?_
                    refine lS hs [(118, .bool true, []), (119, .bool true, []), (4, .bool true, [])] ?_
                    refine lN ?_
                    refine cTo [(4, .bool true)] ?_
                    refine CG.ret ?_
                    exact hs.ret [] (.bool true) (congrArg Value.bool (decide_eq_true (by dsimp only [Formed, Refers, OSt.stp]; omega)).symm)
                ·
                  have phb43 := neOfBne hb43
                  refine lB 95 hb43 ?_
                  refine lS hs [(96, .bool true, []), (97, .bool true, []), (75, .bool true, [])] ?_
                  refine lN ?_
                  refine cTo [(1, .int .i64 (i : Nat)), (4, .bool false), (5, .pointer (some ⟨b4, 0, none⟩)), (6, .int .i64 (ari (ss.getD i ost0).op)), (75, .bool true)] ?_
                  refine cIT ?_
                  refine cSL ?_
                  refine lS hs [(4, .bool false, [])] ?_
                  refine lN ?_
                  refine CG.ret ?_
                  exact hs.ret [] (.bool false) (congrArg Value.bool (decide_eq_false (by dsimp only [Formed, Refers, OSt.stp]; omega)).symm)
              ·
                have phb41 := of_decide_eq_true hb41
                refine lB 77 hb41 ?_
                refine lS hs [(78, .bool true, []), (79, .pointer (some ⟨b4, 1, none⟩), []), (80, .int .i64 ((ss.getD i ost0).a), [(0, 1, 1)])] ?_
                cases hb47 : (decide (((ss.getD i ost0).a : Int) < (0 : Int)))
                ·
                  have phb47 := of_decide_eq_false hb47
                  refine lB 81 hb47 ?_
                  refine lS hs [(82, .bool false, []), (83, .pointer (some ⟨b4, 1, none⟩), []), (84, .int .i64 ((ss.getD i ost0).a), [(0, 1, 1)]), (85, .int .i64 (i : Nat), [])] ?_
                  cases hb48 : (decide (((i : Nat) : Int) ≤ ((ss.getD i ost0).a : Int)))
                  ·
                    have phb48 := of_decide_eq_false hb48
                    refine lB 86 hb48 ?_
                    refine lS hs [(87, .bool false, []), (88, .bool false, []), (89, .bool false, []), (90, .int .i64 (ari (ss.getD i ost0).op), [])] ?_
                    have hb49 : ((ari (ss.getD i ost0).op : Int) == (0 : Int)) = false := beqF (by omega)
                    have phb49 := neOfBeq hb49
                    refine lB 91 hb49 ?_
                    refine lS hs [(92, .bool false, [])] ?_
                    refine lG 93 ?_
                    refine lG 94 ?_
                    refine lG 95 ?_
                    refine lS hs [(96, .bool false, []), (97, .bool false, []), (75, .bool false, [])] ?_
                    refine lN ?_
                    refine cTo [(1, .int .i64 (i : Nat)), (4, .bool false), (5, .pointer (some ⟨b4, 0, none⟩)), (6, .int .i64 (ari (ss.getD i ost0).op)), (75, .bool false)] ?_
                    refine cIF ?_
                    refine CG.skipN ?_
                    refine cSL ?_
                    refine lS hs [(98, .int .i64 (ari (ss.getD i ost0).op), [])] ?_
                    cases hb50 : ((ari (ss.getD i ost0).op : Int) == (2 : Int))
                    ·
                      have phb50 := neOfBeq hb50
                      refine lB 99 hb50 ?_
                      refine lS hs [(100, .bool false, [])] ?_
                      refine lG 101 ?_
                      refine lG 102 ?_
                      refine lG 103 ?_
                      refine lS hs [(104, .bool false, []), (105, .bool false, [])] ?_
                      refine lG 106 ?_
                      refine lG 107 ?_
                      refine lG 108 ?_
                      refine lG 109 ?_
                      refine lS hs [(110, .bool false, []), (111, .bool false, []), (112, .int .i64 (ari (ss.getD i ost0).op), [])] ?_
                      cases hb51 : (decide ((ari (ss.getD i ost0).op : Int) < (2 : Int)))
                      ·
                        have phb51 := of_decide_eq_false hb51
                        refine lB 113 hb51 ?_
                        refine lS hs [(114, .bool false, [])] ?_
                        refine lG 115 ?_
                        refine lG 116 ?_
                        refine lG 117 ?_
                        refine lS hs [(118, .bool false, []), (119, .bool false, []), (4, .bool false, [])] ?_
                        refine lN ?_
                        refine cTo [(4, .bool false)] ?_
                        refine CG.ret ?_
                        exact hs.ret [] (.bool false) (congrArg Value.bool (decide_eq_false (by dsimp only [Formed, Refers, OSt.stp]; omega)).symm)
                      ·
                        have phb51 := of_decide_eq_true hb51
                        refine lB 113 hb51 ?_
                        refine lS hs [(114, .bool true, []), (115, .pointer (some ⟨b4, 2, none⟩), []), (116, .int .i64 ((ss.getD i ost0).b), [(0, 2, 1)])] ?_
                        cases hb52 : (((ss.getD i ost0).b : Int) == (0 : Int))
                        ·
                          have phb52 := neOfBeq hb52
                          refine lB 117 hb52 ?_
                          refine lS hs [(118, .bool false, []), (119, .bool false, []), (4, .bool false, [])] ?_
                          refine lN ?_
                          refine cTo [(4, .bool false)] ?_
                          refine CG.ret ?_
                          exact hs.ret [] (.bool false) (congrArg Value.bool (decide_eq_false (by dsimp only [Formed, Refers, OSt.stp]; omega)).symm)
                        ·
                          have phb52 := eq_of_beq hb52
                          refine lB 117 hb52 ?_
                          refine lS hs [(118, .bool true, []), (119, .bool true, []), (4, .bool true, [])] ?_
                          refine lN ?_
                          refine cTo [(4, .bool true)] ?_
                          refine CG.ret ?_
                          exact hs.ret [] (.bool true) (congrArg Value.bool (decide_eq_true (by dsimp only [Formed, Refers, OSt.stp]; omega)).symm)
                    ·
                      have phb50 := eq_of_beq hb50
                      refine lB 99 hb50 ?_
                      refine lS hs [(100, .bool true, []), (101, .pointer (some ⟨b4, 2, none⟩), []), (102, .int .i64 ((ss.getD i ost0).b), [(0, 2, 1)])] ?_
                      cases hb53 : (decide ((0 : Int) ≤ ((ss.getD i ost0).b : Int)))
                      ·
                        have phb53 := of_decide_eq_false hb53
                        refine lB 103 hb53 ?_
                        refine lS hs [(104, .bool false, []), (105, .bool false, [])] ?_
                        refine lG 106 ?_
                        refine lG 107 ?_
                        refine lG 108 ?_
                        refine lG 109 ?_
                        refine lS hs [(110, .bool false, []), (111, .bool false, []), (112, .int .i64 (ari (ss.getD i ost0).op), [])] ?_
                        have hb54 : (decide ((ari (ss.getD i ost0).op : Int) < (2 : Int))) = false := decide_eq_false (by omega)
                        have phb54 := of_decide_eq_false hb54
                        refine lB 113 hb54 ?_
                        refine lS hs [(114, .bool false, [])] ?_
                        refine lG 115 ?_
                        refine lG 116 ?_
                        refine lG 117 ?_
                        refine lS hs [(118, .bool false, []), (119, .bool false, []), (4, .bool false, [])] ?_
                        refine lN ?_
                        refine cTo [(4, .bool false)] ?_
                        refine CG.ret ?_
                        exact hs.ret [] (.bool false) (congrArg Value.bool (decide_eq_false (by dsimp only [Formed, Refers, OSt.stp]; omega)).symm)
                      ·
                        have phb53 := of_decide_eq_true hb53
                        refine lB 103 hb53 ?_
                        refine lS hs [(104, .bool true, []), (105, .bool true, []), (106, .pointer (some ⟨b4, 2, none⟩), []), (107, .int .i64 ((ss.getD i ost0).b), [(0, 2, 1)]), (108, .int .i64 (i : Nat), [])] ?_
                        cases hb55 : (decide (((ss.getD i ost0).b : Int) < ((i : Nat) : Int)))
                        ·
                          have phb55 := of_decide_eq_false hb55
                          refine lB 109 hb55 ?_
                          refine lS hs [(110, .bool false, []), (111, .bool false, []), (112, .int .i64 (ari (ss.getD i ost0).op), [])] ?_
                          have hb56 : (decide ((ari (ss.getD i ost0).op : Int) < (2 : Int))) = false := decide_eq_false (by omega)
                          have phb56 := of_decide_eq_false hb56
                          refine lB 113 hb56 ?_
                          refine lS hs [(114, .bool false, [])] ?_
                          refine lG 115 ?_
                          refine lG 116 ?_
                          refine lG 117 ?_
                          refine lS hs [(118, .bool false, []), (119, .bool false, []), (4, .bool false, [])] ?_
                          refine lN ?_
                          refine cTo [(4, .bool false)] ?_
                          refine CG.ret ?_
                          exact hs.ret [] (.bool false) (congrArg Value.bool (decide_eq_false (by dsimp only [Formed, Refers, OSt.stp]; omega)).symm)
                        ·
                          have phb55 := of_decide_eq_true hb55
                          refine lB 109 hb55 ?_
                          refine lS hs [(110, .bool true, []), (111, .bool true, [])] ?_
                          refine lG 112 ?_
                          refine lG 113 ?_
                          refine lG 114 ?_
                          refine lG 115 ?_
                          refine lG 116 ?_
                          refine lG 117 ?_
                          refine lG 118 ?_
                          refine lS hs [(119, .bool true, []), (4, .bool true, [])] ?_
                          refine lN ?_
                          refine cTo [(4, .bool true)] ?_
                          refine CG.ret ?_
                          exact hs.ret [] (.bool true) (congrArg Value.bool (decide_eq_true (by dsimp only [Formed, Refers, OSt.stp]; omega)).symm)
                  ·
                    have phb48 := of_decide_eq_true hb48
                    refine lB 86 hb48 ?_
                    refine lS hs [(87, .bool true, []), (88, .bool true, []), (89, .bool true, [])] ?_
                    refine lG 90 ?_
                    refine lG 91 ?_
                    refine lG 92 ?_
                    refine lG 93 ?_
                    refine lG 94 ?_
                    refine lG 95 ?_
                    refine lG 96 ?_
                    refine lS hs [(97, .bool true, []), (75, .bool true, [])] ?_
                    refine lN ?_
                    refine cTo [(1, .int .i64 (i : Nat)), (4, .bool false), (5, .pointer (some ⟨b4, 0, none⟩)), (6, .int .i64 (ari (ss.getD i ost0).op)), (75, .bool true)] ?_
                    refine cIT ?_
                    refine cSL ?_
                    refine lS hs [(4, .bool false, [])] ?_
                    refine lN ?_
                    refine CG.ret ?_
                    exact hs.ret [] (.bool false) (congrArg Value.bool (decide_eq_false (by dsimp only [Formed, Refers, OSt.stp]; omega)).symm)
                ·
                  have phb47 := of_decide_eq_true hb47
                  refine lB 81 hb47 ?_
                  refine lS hs [(82, .bool true, [])] ?_
                  refine lG 83 ?_
                  refine lG 84 ?_
                  refine lG 85 ?_
                  refine lG 86 ?_
                  refine lS hs [(87, .bool true, []), (88, .bool true, []), (89, .bool true, [])] ?_
                  refine lG 90 ?_
                  refine lG 91 ?_
                  refine lG 92 ?_
                  refine lG 93 ?_
                  refine lG 94 ?_
                  refine lG 95 ?_
                  refine lG 96 ?_
                  refine lS hs [(97, .bool true, []), (75, .bool true, [])] ?_
                  refine lN ?_
                  refine cTo [(1, .int .i64 (i : Nat)), (4, .bool false), (5, .pointer (some ⟨b4, 0, none⟩)), (6, .int .i64 (ari (ss.getD i ost0).op)), (75, .bool true)] ?_
                  refine cIT ?_
                  refine cSL ?_
                  refine lS hs [(4, .bool false, [])] ?_
                  refine lN ?_
                  refine CG.ret ?_
                  exact hs.ret [] (.bool false) (congrArg Value.bool (decide_eq_false (by dsimp only [Formed, Refers, OSt.stp]; omega)).symm)
            ·
              have phb40 := of_decide_eq_true hb40
              refine lB 71 hb40 ?_
              refine lS hs [(72, .bool true, []), (73, .bool true, []), (74, .bool true, []), (44, .bool true, [])] ?_
              refine lN ?_
              refine cTo [(1, .int .i64 (i : Nat)), (4, .bool false), (5, .pointer (some ⟨b4, 0, none⟩)), (6, .int .i64 (ari (ss.getD i ost0).op)), (44, .bool true)] ?_
              refine cIT ?_
              refine cSL ?_
              refine lS hs [(4, .bool false, [])] ?_
              refine lN ?_
              refine CG.ret ?_
              exact hs.ret [] (.bool false) (congrArg Value.bool (decide_eq_false (by dsimp only [Formed, Refers, OSt.stp]; omega)).symm)
          ·
            have phb39 := of_decide_eq_true hb39
            refine lB 67 hb39 ?_
            refine lS hs [(68, .bool true, [])] ?_
            refine lG 69 ?_
            refine lG 70 ?_
            refine lG 71 ?_
            refine lS hs [(72, .bool true, []), (73, .bool true, []), (74, .bool true, []), (44, .bool true, [])] ?_
            refine lN ?_
            refine cTo [(1, .int .i64 (i : Nat)), (4, .bool false), (5, .pointer (some ⟨b4, 0, none⟩)), (6, .int .i64 (ari (ss.getD i ost0).op)), (44, .bool true)] ?_
            refine cIT ?_
            refine cSL ?_
            refine lS hs [(4, .bool false, [])] ?_
            refine lN ?_
            refine CG.ret ?_
            exact hs.ret [] (.bool false) (congrArg Value.bool (decide_eq_false (by dsimp only [Formed, Refers, OSt.stp]; omega)).symm)
        ·
          have phb36 := neOfBne hb36
          refine lB 32 hb36 ?_
          refine lS hs [(33, .bool true, []), (34, .pointer (some ⟨b4, 0, none⟩), []), (35, .int .i64 ((ss.getD i ost0).op), [(0, 0, 1)])] ?_
          cases hb57 : (((ss.getD i ost0).op : Int) != (2 : Int))
          ·
            have phb57 := eqOfBne hb57
            refine lB 36 hb57 ?_
            refine lS hs [(37, .bool false, []), (38, .bool false, [])] ?_
            refine lG 39 ?_
            refine lG 40 ?_
            refine lG 41 ?_
            refine lS hs [(42, .bool false, []), (43, .bool false, []), (15, .bool false, [])] ?_
            refine lN ?_
            refine cTo [(1, .int .i64 (i : Nat)), (2, .pointer (some ⟨b1, 0, none⟩)), (4, .bool false), (5, .pointer (some ⟨b4, 0, none⟩)), (6, .int .i64 (ari (ss.getD i ost0).op)), (15, .bool false)] ?_
            refine cIF ?_
            refine cSL ?_
            refine lS hs [(45, .pointer (some ⟨b4, 0, none⟩), []), (46, .int .i64 ((ss.getD i ost0).op), [(0, 0, 1)])] ?_
            have hb58 : (((ss.getD i ost0).op : Int) == (2 : Int)) = true := beqT (by omega)
            have phb58 := eq_of_beq hb58
            refine lB 47 hb58 ?_
            refine lS hs [(48, .bool true, []), (49, .pointer (some ⟨b4, 3, none⟩), []), (50, .int .i64 ((ss.getD i ost0).n), [(0, 3, 1)])] ?_
            cases hb59 : (decide (((ss.getD i ost0).n : Int) < (0 : Int)))
            ·
              have phb59 := of_decide_eq_false hb59
              refine lB 51 hb59 ?_
              refine lS hs [(52, .bool false, []), (53, .pointer (some ⟨b4, 3, none⟩), []), (54, .int .i64 ((ss.getD i ost0).n), [(0, 3, 1)]), (55, .pointer (some ⟨b1, 0, none⟩), []), (56, .int .i64 inp, [(1, 0, 1)])] ?_
              cases hb60 : (decide ((inp : Int) ≤ ((ss.getD i ost0).n : Int)))
              ·
                have phb60 := of_decide_eq_false hb60
                refine lB 57 hb60 ?_
                refine lS hs [(58, .bool false, []), (59, .bool false, []), (60, .bool false, []), (61, .pointer (some ⟨b4, 0, none⟩), []), (62, .int .i64 ((ss.getD i ost0).op), [(0, 0, 1)])] ?_
                have hb61 : (((ss.getD i ost0).op : Int) == (8 : Int)) = false := beqF (by omega)
                have phb61 := neOfBeq hb61
                refine lB 63 hb61 ?_
                refine lS hs [(64, .bool false, [])] ?_
                refine lG 65 ?_
                refine lG 66 ?_
                refine lG 67 ?_
                refine lG 68 ?_
                refine lG 69 ?_
                refine lG 70 ?_
                refine lG 71 ?_
                refine lG 72 ?_
                refine lS hs [(73, .bool false, []), (74, .bool false, []), (44, .bool false, [])] ?_
                refine lN ?_
                refine cTo [(1, .int .i64 (i : Nat)), (4, .bool false), (5, .pointer (some ⟨b4, 0, none⟩)), (6, .int .i64 (ari (ss.getD i ost0).op)), (44, .bool false)] ?_
                refine cIF ?_
                refine cSL ?_
                refine lS hs [(76, .int .i64 (ari (ss.getD i ost0).op), [])] ?_
                cases hb62 : (decide ((0 : Int) < (ari (ss.getD i ost0).op : Int)))
                ·
                  have phb62 := of_decide_eq_false hb62
                  refine lB 77 hb62 ?_
                  refine lS hs [(78, .bool false, [])] ?_
                  refine lG 79 ?_
                  refine lG 80 ?_
                  refine lG 81 ?_
                  refine lG 82 ?_
                  refine lG 83 ?_
                  refine lG 84 ?_
                  refine lG 85 ?_
                  refine lG 86 ?_
                  refine lG 87 ?_
                  refine lS hs [(88, .bool false, []), (89, .bool false, []), (90, .int .i64 (ari (ss.getD i ost0).op), [])] ?_
                  have hb63 : ((ari (ss.getD i ost0).op : Int) == (0 : Int)) = true := beqT (by omega)
                  have phb63 := eq_of_beq hb63
                  refine lB 91 hb63 ?_
                  refine lS hs [(92, .bool true, []), (93, .pointer (some ⟨b4, 1, none⟩), []), (94, .int .i64 ((ss.getD i ost0).a), [(0, 1, 1)])] ?_
                  cases hb64 : (((ss.getD i ost0).a : Int) != (0 : Int))
                  ·
                    have phb64 := eqOfBne hb64
                    refine lB 95 hb64 ?_
                    refine lS hs [(96, .bool false, []), (97, .bool false, []), (75, .bool false, [])] ?_
                    refine lN ?_
                    refine cTo [(1, .int .i64 (i : Nat)), (4, .bool false), (5, .pointer (some ⟨b4, 0, none⟩)), (6, .int .i64 (ari (ss.getD i ost0).op)), (75, .bool false)] ?_
                    refine cIF ?_
                    refine CG.skipN ?_
                    refine cSL ?_
                    refine lS hs [(98, .int .i64 (ari (ss.getD i ost0).op), [])] ?_
                    have hb65 : ((ari (ss.getD i ost0).op : Int) == (2 : Int)) = false := beqF (by omega)
                    have phb65 := neOfBeq hb65
                    refine lB 99 hb65 ?_
                    refine lS hs [(100, .bool false, [])] ?_
                    refine lG 101 ?_
                    refine lG 102 ?_
                    refine lG 103 ?_
                    refine lS hs [(104, .bool false, []), (105, .bool false, [])] ?_
                    refine lG 106 ?_
                    refine lG 107 ?_
                    refine lG 108 ?_
                    refine lG 109 ?_
                    refine lS hs [(110, .bool false, []), (111, .bool false, []), (112, .int .i64 (ari (ss.getD i ost0).op), [])] ?_
                    have hb66 : (decide ((ari (ss.getD i ost0).op : Int) < (2 : Int))) = true := decide_eq_true (by omega)
                    have phb66 := of_decide_eq_true hb66
                    refine lB 113 hb66 ?_
                    refine lS hs [(114, .bool true, []), (115, .pointer (some ⟨b4, 2, none⟩), []), (116, .int .i64 ((ss.getD i ost0).b), [(0, 2, 1)])] ?_
                    cases hb67 : (((ss.getD i ost0).b : Int) == (0 : Int))
                    ·
                      have phb67 := neOfBeq hb67
                      refine lB 117 hb67 ?_
                      refine lS hs [(118, .bool false, []), (119, .bool false, []), (4, .bool false, [])] ?_
                      refine lN ?_
                      refine cTo [(4, .bool false)] ?_
                      refine CG.ret ?_
                      exact hs.ret [] (.bool false) (congrArg Value.bool (decide_eq_false (by dsimp only [Formed, Refers, OSt.stp]; omega)).symm)
                    ·
                      have phb67 := eq_of_beq hb67
                      refine lB 117 hb67 ?_
                      refine lS hs [(118, .bool true, []), (119, .bool true, []), (4, .bool true, [])] ?_
                      refine lN ?_
                      refine cTo [(4, .bool true)] ?_
                      refine CG.ret ?_
                      exact hs.ret [] (.bool true) (congrArg Value.bool (decide_eq_true (by dsimp only [Formed, Refers, OSt.stp]; omega)).symm)
                  ·
                    have phb64 := neOfBne hb64
                    refine lB 95 hb64 ?_
                    refine lS hs [(96, .bool true, []), (97, .bool true, []), (75, .bool true, [])] ?_
                    refine lN ?_
                    refine cTo [(1, .int .i64 (i : Nat)), (4, .bool false), (5, .pointer (some ⟨b4, 0, none⟩)), (6, .int .i64 (ari (ss.getD i ost0).op)), (75, .bool true)] ?_
                    refine cIT ?_
                    refine cSL ?_
                    refine lS hs [(4, .bool false, [])] ?_
                    refine lN ?_
                    refine CG.ret ?_
                    exact hs.ret [] (.bool false) (congrArg Value.bool (decide_eq_false (by dsimp only [Formed, Refers, OSt.stp]; omega)).symm)
                ·
                  have phb62 := of_decide_eq_true hb62
                  refine lB 77 hb62 ?_
                  refine lS hs [(78, .bool true, []), (79, .pointer (some ⟨b4, 1, none⟩), []), (80, .int .i64 ((ss.getD i ost0).a), [(0, 1, 1)])] ?_
                  cases hb68 : (decide (((ss.getD i ost0).a : Int) < (0 : Int)))
                  ·
                    have phb68 := of_decide_eq_false hb68
                    refine lB 81 hb68 ?_
                    refine lS hs [(82, .bool false, []), (83, .pointer (some ⟨b4, 1, none⟩), []), (84, .int .i64 ((ss.getD i ost0).a), [(0, 1, 1)]), (85, .int .i64 (i : Nat), [])] ?_
                    cases hb69 : (decide (((i : Nat) : Int) ≤ ((ss.getD i ost0).a : Int)))
                    ·
                      have phb69 := of_decide_eq_false hb69
                      refine lB 86 hb69 ?_
                      refine lS hs [(87, .bool false, []), (88, .bool false, []), (89, .bool false, []), (90, .int .i64 (ari (ss.getD i ost0).op), [])] ?_
                      have hb70 : ((ari (ss.getD i ost0).op : Int) == (0 : Int)) = false := beqF (by omega)
                      have phb70 := neOfBeq hb70
                      refine lB 91 hb70 ?_
                      refine lS hs [(92, .bool false, [])] ?_
                      refine lG 93 ?_
                      refine lG 94 ?_
                      refine lG 95 ?_
                      refine lS hs [(96, .bool false, []), (97, .bool false, []), (75, .bool false, [])] ?_
                      refine lN ?_
                      refine cTo [(1, .int .i64 (i : Nat)), (4, .bool false), (5, .pointer (some ⟨b4, 0, none⟩)), (6, .int .i64 (ari (ss.getD i ost0).op)), (75, .bool false)] ?_
                      refine cIF ?_
                      refine CG.skipN ?_
                      refine cSL ?_
                      refine lS hs [(98, .int .i64 (ari (ss.getD i ost0).op), [])] ?_
                      cases hb71 : ((ari (ss.getD i ost0).op : Int) == (2 : Int))
                      ·
                        have phb71 := neOfBeq hb71
                        refine lB 99 hb71 ?_
                        refine lS hs [(100, .bool false, [])] ?_
                        refine lG 101 ?_
                        refine lG 102 ?_
                        refine lG 103 ?_
                        refine lS hs [(104, .bool false, []), (105, .bool false, [])] ?_
                        refine lG 106 ?_
                        refine lG 107 ?_
                        refine lG 108 ?_
                        refine lG 109 ?_
                        refine lS hs [(110, .bool false, []), (111, .bool false, []), (112, .int .i64 (ari (ss.getD i ost0).op), [])] ?_
                        cases hb72 : (decide ((ari (ss.getD i ost0).op : Int) < (2 : Int)))
                        ·
                          have phb72 := of_decide_eq_false hb72
                          refine lB 113 hb72 ?_
                          refine lS hs [(114, .bool false, [])] ?_
                          refine lG 115 ?_
                          refine lG 116 ?_
                          refine lG 117 ?_
                          refine lS hs [(118, .bool false, []), (119, .bool false, []), (4, .bool false, [])] ?_
                          refine lN ?_
                          refine cTo [(4, .bool false)] ?_
                          refine CG.ret ?_
                          exact hs.ret [] (.bool false) (congrArg Value.bool (decide_eq_false (by dsimp only [Formed, Refers, OSt.stp]; omega)).symm)
                        ·
                          have phb72 := of_decide_eq_true hb72
                          refine lB 113 hb72 ?_
                          refine lS hs [(114, .bool true, []), (115, .pointer (some ⟨b4, 2, none⟩), []), (116, .int .i64 ((ss.getD i ost0).b), [(0, 2, 1)])] ?_
                          cases hb73 : (((ss.getD i ost0).b : Int) == (0 : Int))
                          ·
                            have phb73 := neOfBeq hb73
                            refine lB 117 hb73 ?_
                            refine lS hs [(118, .bool false, []), (119, .bool false, []), (4, .bool false, [])] ?_
                            refine lN ?_
                            refine cTo [(4, .bool false)] ?_
                            refine CG.ret ?_
                            exact hs.ret [] (.bool false) (congrArg Value.bool (decide_eq_false (by dsimp only [Formed, Refers, OSt.stp]; omega)).symm)
                          ·
                            have phb73 := eq_of_beq hb73
                            refine lB 117 hb73 ?_
                            refine lS hs [(118, .bool true, []), (119, .bool true, []), (4, .bool true, [])] ?_
                            refine lN ?_
                            refine cTo [(4, .bool true)] ?_
                            refine CG.ret ?_
                            exact hs.ret [] (.bool true) (congrArg Value.bool (decide_eq_true (by dsimp only [Formed, Refers, OSt.stp]; omega)).symm)
                      ·
                        have phb71 := eq_of_beq hb71
                        refine lB 99 hb71 ?_
                        refine lS hs [(100, .bool true, []), (101, .pointer (some ⟨b4, 2, none⟩), []), (102, .int .i64 ((ss.getD i ost0).b), [(0, 2, 1)])] ?_
                        cases hb74 : (decide ((0 : Int) ≤ ((ss.getD i ost0).b : Int)))
                        ·
                          have phb74 := of_decide_eq_false hb74
                          refine lB 103 hb74 ?_
                          refine lS hs [(104, .bool false, []), (105, .bool false, [])] ?_
                          refine lG 106 ?_
                          refine lG 107 ?_
                          refine lG 108 ?_
                          refine lG 109 ?_
                          refine lS hs [(110, .bool false, []), (111, .bool false, []), (112, .int .i64 (ari (ss.getD i ost0).op), [])] ?_
                          have hb75 : (decide ((ari (ss.getD i ost0).op : Int) < (2 : Int))) = false := decide_eq_false (by omega)
                          have phb75 := of_decide_eq_false hb75
                          refine lB 113 hb75 ?_
                          refine lS hs [(114, .bool false, [])] ?_
                          refine lG 115 ?_
                          refine lG 116 ?_
                          refine lG 117 ?_
                          refine lS hs [(118, .bool false, []), (119, .bool false, []), (4, .bool false, [])] ?_
                          refine lN ?_
                          refine cTo [(4, .bool false)] ?_
                          refine CG.ret ?_
                          exact hs.ret [] (.bool false) (congrArg Value.bool (decide_eq_false (by dsimp only [Formed, Refers, OSt.stp]; omega)).symm)
                        ·
                          have phb74 := of_decide_eq_true hb74
                          refine lB 103 hb74 ?_
                          refine lS hs [(104, .bool true, []), (105, .bool true, []), (106, .pointer (some ⟨b4, 2, none⟩), []), (107, .int .i64 ((ss.getD i ost0).b), [(0, 2, 1)]), (108, .int .i64 (i : Nat), [])] ?_
                          cases hb76 : (decide (((ss.getD i ost0).b : Int) < ((i : Nat) : Int)))
                          ·
                            have phb76 := of_decide_eq_false hb76
                            refine lB 109 hb76 ?_
                            refine lS hs [(110, .bool false, []), (111, .bool false, []), (112, .int .i64 (ari (ss.getD i ost0).op), [])] ?_
                            have hb77 : (decide ((ari (ss.getD i ost0).op : Int) < (2 : Int))) = false := decide_eq_false (by omega)
                            have phb77 := of_decide_eq_false hb77
                            refine lB 113 hb77 ?_
                            refine lS hs [(114, .bool false, [])] ?_
                            refine lG 115 ?_
                            refine lG 116 ?_
                            refine lG 117 ?_
                            refine lS hs [(118, .bool false, []), (119, .bool false, []), (4, .bool false, [])] ?_
                            refine lN ?_
                            refine cTo [(4, .bool false)] ?_
                            refine CG.ret ?_
                            exact hs.ret [] (.bool false) (congrArg Value.bool (decide_eq_false (by dsimp only [Formed, Refers, OSt.stp]; omega)).symm)
                          ·
                            have phb76 := of_decide_eq_true hb76
                            refine lB 109 hb76 ?_
                            refine lS hs [(110, .bool true, []), (111, .bool true, [])] ?_
                            refine lG 112 ?_
                            refine lG 113 ?_
                            refine lG 114 ?_
                            refine lG 115 ?_
                            refine lG 116 ?_
                            refine lG 117 ?_
                            refine lG 118 ?_
                            refine lS hs [(119, .bool true, []), (4, .bool true, [])] ?_
                            refine lN ?_
                            refine cTo [(4, .bool true)] ?_
                            refine CG.ret ?_
                            exact hs.ret [] (.bool true) (congrArg Value.bool (decide_eq_true (by dsimp only [Formed, Refers, OSt.stp]; omega)).symm)
                    ·
                      have phb69 := of_decide_eq_true hb69
                      refine lB 86 hb69 ?_
                      refine lS hs [(87, .bool true, []), (88, .bool true, []), (89, .bool true, [])] ?_
                      refine lG 90 ?_
                      refine lG 91 ?_
                      refine lG 92 ?_
                      refine lG 93 ?_
                      refine lG 94 ?_
                      refine lG 95 ?_
                      refine lG 96 ?_
                      refine lS hs [(97, .bool true, []), (75, .bool true, [])] ?_
                      refine lN ?_
                      refine cTo [(1, .int .i64 (i : Nat)), (4, .bool false), (5, .pointer (some ⟨b4, 0, none⟩)), (6, .int .i64 (ari (ss.getD i ost0).op)), (75, .bool true)] ?_
                      refine cIT ?_
                      refine cSL ?_
                      refine lS hs [(4, .bool false, [])] ?_
                      refine lN ?_
                      refine CG.ret ?_
                      exact hs.ret [] (.bool false) (congrArg Value.bool (decide_eq_false (by dsimp only [Formed, Refers, OSt.stp]; omega)).symm)
                  ·
                    have phb68 := of_decide_eq_true hb68
                    refine lB 81 hb68 ?_
                    refine lS hs [(82, .bool true, [])] ?_
                    refine lG 83 ?_
                    refine lG 84 ?_
                    refine lG 85 ?_
                    refine lG 86 ?_
                    refine lS hs [(87, .bool true, []), (88, .bool true, []), (89, .bool true, [])] ?_
                    refine lG 90 ?_
                    refine lG 91 ?_
                    refine lG 92 ?_
                    refine lG 93 ?_
                    refine lG 94 ?_
                    refine lG 95 ?_
                    refine lG 96 ?_
                    refine lS hs [(97, .bool true, []), (75, .bool true, [])] ?_
                    refine lN ?_
                    refine cTo [(1, .int .i64 (i : Nat)), (4, .bool false), (5, .pointer (some ⟨b4, 0, none⟩)), (6, .int .i64 (ari (ss.getD i ost0).op)), (75, .bool true)] ?_
                    refine cIT ?_
                    refine cSL ?_
                    refine lS hs [(4, .bool false, [])] ?_
                    refine lN ?_
                    refine CG.ret ?_
                    exact hs.ret [] (.bool false) (congrArg Value.bool (decide_eq_false (by dsimp only [Formed, Refers, OSt.stp]; omega)).symm)
              ·
                have phb60 := of_decide_eq_true hb60
                refine lB 57 hb60 ?_
                refine lS hs [(58, .bool true, []), (59, .bool true, []), (60, .bool true, [])] ?_
                refine lG 61 ?_
                refine lG 62 ?_
                refine lG 63 ?_
                refine lG 64 ?_
                refine lG 65 ?_
                refine lG 66 ?_
                refine lG 67 ?_
                refine lG 68 ?_
                refine lG 69 ?_
                refine lG 70 ?_
                refine lG 71 ?_
                refine lG 72 ?_
                refine lG 73 ?_
                refine lS hs [(74, .bool true, []), (44, .bool true, [])] ?_
                refine lN ?_
                refine cTo [(1, .int .i64 (i : Nat)), (4, .bool false), (5, .pointer (some ⟨b4, 0, none⟩)), (6, .int .i64 (ari (ss.getD i ost0).op)), (44, .bool true)] ?_
                refine cIT ?_
                refine cSL ?_
                refine lS hs [(4, .bool false, [])] ?_
                refine lN ?_
                refine CG.ret ?_
                exact hs.ret [] (.bool false) (congrArg Value.bool (decide_eq_false (by dsimp only [Formed, Refers, OSt.stp]; omega)).symm)
            ·
              have phb59 := of_decide_eq_true hb59
              refine lB 51 hb59 ?_
              refine lS hs [(52, .bool true, [])] ?_
              refine lG 53 ?_
              refine lG 54 ?_
              refine lG 55 ?_
              refine lG 56 ?_
              refine lG 57 ?_
              refine lS hs [(58, .bool true, []), (59, .bool true, []), (60, .bool true, [])] ?_
              refine lG 61 ?_
              refine lG 62 ?_
              refine lG 63 ?_
              refine lG 64 ?_
              refine lG 65 ?_
              refine lG 66 ?_
              refine lG 67 ?_
              refine lG 68 ?_
              refine lG 69 ?_
              refine lG 70 ?_
              refine lG 71 ?_
              refine lG 72 ?_
              refine lG 73 ?_
              refine lS hs [(74, .bool true, []), (44, .bool true, [])] ?_
              refine lN ?_
              refine cTo [(1, .int .i64 (i : Nat)), (4, .bool false), (5, .pointer (some ⟨b4, 0, none⟩)), (6, .int .i64 (ari (ss.getD i ost0).op)), (44, .bool true)] ?_
              refine cIT ?_
              refine cSL ?_
              refine lS hs [(4, .bool false, [])] ?_
              refine lN ?_
              refine CG.ret ?_
              exact hs.ret [] (.bool false) (congrArg Value.bool (decide_eq_false (by dsimp only [Formed, Refers, OSt.stp]; omega)).symm)
          ·
            have phb57 := neOfBne hb57
            refine lB 36 hb57 ?_
            refine lS hs [(37, .bool true, []), (38, .bool true, []), (39, .pointer (some ⟨b4, 3, none⟩), []), (40, .int .i64 ((ss.getD i ost0).n), [(0, 3, 1)])] ?_
            cases hb78 : (((ss.getD i ost0).n : Int) != (0 : Int))
            ·
              have phb78 := eqOfBne hb78
              refine lB 41 hb78 ?_
              refine lS hs [(42, .bool false, []), (43, .bool false, []), (15, .bool false, [])] ?_
              refine lN ?_
              refine cTo [(1, .int .i64 (i : Nat)), (2, .pointer (some ⟨b1, 0, none⟩)), (4, .bool false), (5, .pointer (some ⟨b4, 0, none⟩)), (6, .int .i64 (ari (ss.getD i ost0).op)), (15, .bool false)] ?_
              refine cIF ?_
              refine cSL ?_
              refine lS hs [(45, .pointer (some ⟨b4, 0, none⟩), []), (46, .int .i64 ((ss.getD i ost0).op), [(0, 0, 1)])] ?_
              have hb79 : (((ss.getD i ost0).op : Int) == (2 : Int)) = false := beqF (by omega)
              have phb79 := neOfBeq hb79
              refine lB 47 hb79 ?_
              refine lS hs [(48, .bool false, [])] ?_
              refine lG 49 ?_
              refine lG 50 ?_
              refine lG 51 ?_
              refine lG 52 ?_
              refine lG 53 ?_
              refine lG 54 ?_
              refine lG 55 ?_
              refine lG 56 ?_
              refine lG 57 ?_
              refine lG 58 ?_
              refine lS hs [(59, .bool false, []), (60, .bool false, []), (61, .pointer (some ⟨b4, 0, none⟩), []), (62, .int .i64 ((ss.getD i ost0).op), [(0, 0, 1)])] ?_
              have hb80 : (((ss.getD i ost0).op : Int) == (8 : Int)) = false := beqF (by omega)
              have phb80 := neOfBeq hb80
              refine lB 63 hb80 ?_
              refine lS hs [(64, .bool false, [])] ?_
              refine lG 65 ?_
              refine lG 66 ?_
              refine lG 67 ?_
              refine lG 68 ?_
              refine lG 69 ?_
              refine lG 70 ?_
              refine lG 71 ?_
              refine lG 72 ?_
              refine lS hs [(73, .bool false, []), (74, .bool false, []), (44, .bool false, [])] ?_
              refine lN ?_
              refine cTo [(1, .int .i64 (i : Nat)), (4, .bool false), (5, .pointer (some ⟨b4, 0, none⟩)), (6, .int .i64 (ari (ss.getD i ost0).op)), (44, .bool false)] ?_
              refine cIF ?_
              refine cSL ?_
              refine lS hs [(76, .int .i64 (ari (ss.getD i ost0).op), [])] ?_
              cases hb81 : (decide ((0 : Int) < (ari (ss.getD i ost0).op : Int)))
              ·
                have phb81 := of_decide_eq_false hb81
                refine lB 77 hb81 ?_
                refine lS hs [(78, .bool false, [])] ?_
                refine lG 79 ?_
                refine lG 80 ?_
                refine lG 81 ?_
                refine lG 82 ?_
                refine lG 83 ?_
                refine lG 84 ?_
                refine lG 85 ?_
                refine lG 86 ?_
                refine lG 87 ?_
                refine lS hs [(88, .bool false, []), (89, .bool false, []), (90, .int .i64 (ari (ss.getD i ost0).op), [])] ?_
                have hb82 : ((ari (ss.getD i ost0).op : Int) == (0 : Int)) = true := beqT (by omega)
                have phb82 := eq_of_beq hb82
                refine lB 91 hb82 ?_
                refine lS hs [(92, .bool true, []), (93, .pointer (some ⟨b4, 1, none⟩), []), (94, .int .i64 ((ss.getD i ost0).a), [(0, 1, 1)])] ?_
                cases hb83 : (((ss.getD i ost0).a : Int) != (0 : Int))
                ·
                  have phb83 := eqOfBne hb83
                  refine lB 95 hb83 ?_
                  refine lS hs [(96, .bool false, []), (97, .bool false, []), (75, .bool false, [])] ?_
                  refine lN ?_
                  refine cTo [(1, .int .i64 (i : Nat)), (4, .bool false), (5, .pointer (some ⟨b4, 0, none⟩)), (6, .int .i64 (ari (ss.getD i ost0).op)), (75, .bool false)] ?_
                  refine cIF ?_
                  refine CG.skipN ?_
                  refine cSL ?_
                  refine lS hs [(98, .int .i64 (ari (ss.getD i ost0).op), [])] ?_
                  have hb84 : ((ari (ss.getD i ost0).op : Int) == (2 : Int)) = false := beqF (by omega)
                  have phb84 := neOfBeq hb84
                  refine lB 99 hb84 ?_
                  refine lS hs [(100, .bool false, [])] ?_
                  refine lG 101 ?_
                  refine lG 102 ?_
                  refine lG 103 ?_
                  refine lS hs [(104, .bool false, []), (105, .bool false, [])] ?_
                  refine lG 106 ?_
                  refine lG 107 ?_
                  refine lG 108 ?_
                  refine lG 109 ?_
                  refine lS hs [(110, .bool false, []), (111, .bool false, []), (112, .int .i64 (ari (ss.getD i ost0).op), [])] ?_
                  have hb85 : (decide ((ari (ss.getD i ost0).op : Int) < (2 : Int))) = true := decide_eq_true (by omega)
                  have phb85 := of_decide_eq_true hb85
                  refine lB 113 hb85 ?_
                  refine lS hs [(114, .bool true, []), (115, .pointer (some ⟨b4, 2, none⟩), []), (116, .int .i64 ((ss.getD i ost0).b), [(0, 2, 1)])] ?_
                  cases hb86 : (((ss.getD i ost0).b : Int) == (0 : Int))
                  ·
                    have phb86 := neOfBeq hb86
                    refine lB 117 hb86 ?_
                    refine lS hs [(118, .bool false, []), (119, .bool false, []), (4, .bool false, [])] ?_
                    refine lN ?_
                    refine cTo [(4, .bool false)] ?_
                    refine CG.ret ?_
                    exact hs.ret [] (.bool false) (congrArg Value.bool (decide_eq_false (by dsimp only [Formed, Refers, OSt.stp]; omega)).symm)
                  ·
                    have phb86 := eq_of_beq hb86
                    refine lB 117 hb86 ?_
                    refine lS hs [(118, .bool true, []), (119, .bool true, []), (4, .bool true, [])] ?_
                    refine lN ?_
                    refine cTo [(4, .bool true)] ?_
                    refine CG.ret ?_
                    exact hs.ret [] (.bool true) (congrArg Value.bool (decide_eq_true (by dsimp only [Formed, Refers, OSt.stp]; omega)).symm)
                ·
                  have phb83 := neOfBne hb83
                  refine lB 95 hb83 ?_
                  refine lS hs [(96, .bool true, []), (97, .bool true, []), (75, .bool true, [])] ?_
                  refine lN ?_
                  refine cTo [(1, .int .i64 (i : Nat)), (4, .bool false), (5, .pointer (some ⟨b4, 0, none⟩)), (6, .int .i64 (ari (ss.getD i ost0).op)), (75, .bool true)] ?_
                  refine cIT ?_
                  refine cSL ?_
                  refine lS hs [(4, .bool false, [])] ?_
                  refine lN ?_
                  refine CG.ret ?_
                  exact hs.ret [] (.bool false) (congrArg Value.bool (decide_eq_false (by dsimp only [Formed, Refers, OSt.stp]; omega)).symm)
              ·
                have phb81 := of_decide_eq_true hb81
                refine lB 77 hb81 ?_
                refine lS hs [(78, .bool true, []), (79, .pointer (some ⟨b4, 1, none⟩), []), (80, .int .i64 ((ss.getD i ost0).a), [(0, 1, 1)])] ?_
                cases hb87 : (decide (((ss.getD i ost0).a : Int) < (0 : Int)))
                ·
                  have phb87 := of_decide_eq_false hb87
                  refine lB 81 hb87 ?_
                  refine lS hs [(82, .bool false, []), (83, .pointer (some ⟨b4, 1, none⟩), []), (84, .int .i64 ((ss.getD i ost0).a), [(0, 1, 1)]), (85, .int .i64 (i : Nat), [])] ?_
                  cases hb88 : (decide (((i : Nat) : Int) ≤ ((ss.getD i ost0).a : Int)))
                  ·
                    have phb88 := of_decide_eq_false hb88
                    refine lB 86 hb88 ?_
                    refine lS hs [(87, .bool false, []), (88, .bool false, []), (89, .bool false, []), (90, .int .i64 (ari (ss.getD i ost0).op), [])] ?_
                    have hb89 : ((ari (ss.getD i ost0).op : Int) == (0 : Int)) = false := beqF (by omega)
                    have phb89 := neOfBeq hb89
                    refine lB 91 hb89 ?_
                    refine lS hs [(92, .bool false, [])] ?_
                    refine lG 93 ?_
                    refine lG 94 ?_
                    refine lG 95 ?_
                    refine lS hs [(96, .bool false, []), (97, .bool false, []), (75, .bool false, [])] ?_
                    refine lN ?_
                    refine cTo [(1, .int .i64 (i : Nat)), (4, .bool false), (5, .pointer (some ⟨b4, 0, none⟩)), (6, .int .i64 (ari (ss.getD i ost0).op)), (75, .bool false)] ?_
                    refine cIF ?_
                    refine CG.skipN ?_
                    refine cSL ?_
                    refine lS hs [(98, .int .i64 (ari (ss.getD i ost0).op), [])] ?_
                    cases hb90 : ((ari (ss.getD i ost0).op : Int) == (2 : Int))
                    ·
                      have phb90 := neOfBeq hb90
                      refine lB 99 hb90 ?_
                      refine lS hs [(100, .bool false, [])] ?_
                      refine lG 101 ?_
                      refine lG 102 ?_
                      refine lG 103 ?_
                      refine lS hs [(104, .bool false, []), (105, .bool false, [])] ?_
                      refine lG 106 ?_
                      refine lG 107 ?_
                      refine lG 108 ?_
                      refine lG 109 ?_
                      refine lS hs [(110, .bool false, []), (111, .bool false, []), (112, .int .i64 (ari (ss.getD i ost0).op), [])] ?_
                      cases hb91 : (decide ((ari (ss.getD i ost0).op : Int) < (2 : Int)))
                      ·
                        have phb91 := of_decide_eq_false hb91
                        refine lB 113 hb91 ?_
                        refine lS hs [(114, .bool false, [])] ?_
                        refine lG 115 ?_
                        refine lG 116 ?_
                        refine lG 117 ?_
                        refine lS hs [(118, .bool false, []), (119, .bool false, []), (4, .bool false, [])] ?_
                        refine lN ?_
                        refine cTo [(4, .bool false)] ?_
                        refine CG.ret ?_
                        exact hs.ret [] (.bool false) (congrArg Value.bool (decide_eq_false (by dsimp only [Formed, Refers, OSt.stp]; omega)).symm)
                      ·
                        have phb91 := of_decide_eq_true hb91
                        refine lB 113 hb91 ?_
                        refine lS hs [(114, .bool true, []), (115, .pointer (some ⟨b4, 2, none⟩), []), (116, .int .i64 ((ss.getD i ost0).b), [(0, 2, 1)])] ?_
                        cases hb92 : (((ss.getD i ost0).b : Int) == (0 : Int))
                        ·
                          have phb92 := neOfBeq hb92
                          refine lB 117 hb92 ?_
                          refine lS hs [(118, .bool false, []), (119, .bool false, []), (4, .bool false, [])] ?_
                          refine lN ?_
                          refine cTo [(4, .bool false)] ?_
                          refine CG.ret ?_
                          exact hs.ret [] (.bool false) (congrArg Value.bool (decide_eq_false (by dsimp only [Formed, Refers, OSt.stp]; omega)).symm)
                        ·
                          have phb92 := eq_of_beq hb92
                          refine lB 117 hb92 ?_
                          refine lS hs [(118, .bool true, []), (119, .bool true, []), (4, .bool true, [])] ?_
                          refine lN ?_
                          refine cTo [(4, .bool true)] ?_
                          refine CG.ret ?_
                          exact hs.ret [] (.bool true) (congrArg Value.bool (decide_eq_true (by dsimp only [Formed, Refers, OSt.stp]; omega)).symm)
                    ·
                      have phb90 := eq_of_beq hb90
                      refine lB 99 hb90 ?_
                      refine lS hs [(100, .bool true, []), (101, .pointer (some ⟨b4, 2, none⟩), []), (102, .int .i64 ((ss.getD i ost0).b), [(0, 2, 1)])] ?_
                      cases hb93 : (decide ((0 : Int) ≤ ((ss.getD i ost0).b : Int)))
                      ·
                        have phb93 := of_decide_eq_false hb93
                        refine lB 103 hb93 ?_
                        refine lS hs [(104, .bool false, []), (105, .bool false, [])] ?_
                        refine lG 106 ?_
                        refine lG 107 ?_
                        refine lG 108 ?_
                        refine lG 109 ?_
                        refine lS hs [(110, .bool false, []), (111, .bool false, []), (112, .int .i64 (ari (ss.getD i ost0).op), [])] ?_
                        have hb94 : (decide ((ari (ss.getD i ost0).op : Int) < (2 : Int))) = false := decide_eq_false (by omega)
                        have phb94 := of_decide_eq_false hb94
                        refine lB 113 hb94 ?_
                        refine lS hs [(114, .bool false, [])] ?_
                        refine lG 115 ?_
                        refine lG 116 ?_
                        refine lG 117 ?_
                        refine lS hs [(118, .bool false, []), (119, .bool false, []), (4, .bool false, [])] ?_
                        refine lN ?_
                        refine cTo [(4, .bool false)] ?_
                        refine CG.ret ?_
                        exact hs.ret [] (.bool false) (congrArg Value.bool (decide_eq_false (by dsimp only [Formed, Refers, OSt.stp]; omega)).symm)
                      ·
                        have phb93 := of_decide_eq_true hb93
                        refine lB 103 hb93 ?_
                        refine lS hs [(104, .bool true, []), (105, .bool true, []), (106, .pointer (some ⟨b4, 2, none⟩), []), (107, .int .i64 ((ss.getD i ost0).b), [(0, 2, 1)]), (108, .int .i64 (i : Nat), [])] ?_
                        cases hb95 : (decide (((ss.getD i ost0).b : Int) < ((i : Nat) : Int)))
                        ·
                          have phb95 := of_decide_eq_false hb95
                          refine lB 109 hb95 ?_
                          refine lS hs [(110, .bool false, []), (111, .bool false, []), (112, .int .i64 (ari (ss.getD i ost0).op), [])] ?_
                          have hb96 : (decide ((ari (ss.getD i ost0).op : Int) < (2 : Int))) = false := decide_eq_false (by omega)
                          have phb96 := of_decide_eq_false hb96
                          refine lB 113 hb96 ?_
                          refine lS hs [(114, .bool false, [])] ?_
                          refine lG 115 ?_
                          refine lG 116 ?_
                          refine lG 117 ?_
                          refine lS hs [(118, .bool false, []), (119, .bool false, []), (4, .bool false, [])] ?_
                          refine lN ?_
                          refine cTo [(4, .bool false)] ?_
                          refine CG.ret ?_
                          exact hs.ret [] (.bool false) (congrArg Value.bool (decide_eq_false (by dsimp only [Formed, Refers, OSt.stp]; omega)).symm)
                        ·
                          have phb95 := of_decide_eq_true hb95
                          refine lB 109 hb95 ?_
                          refine lS hs [(110, .bool true, []), (111, .bool true, [])] ?_
                          refine lG 112 ?_
                          refine lG 113 ?_
                          refine lG 114 ?_
                          refine lG 115 ?_
                          refine lG 116 ?_
                          refine lG 117 ?_
                          refine lG 118 ?_
                          refine lS hs [(119, .bool true, []), (4, .bool true, [])] ?_
                          refine lN ?_
                          refine cTo [(4, .bool true)] ?_
                          refine CG.ret ?_
                          exact hs.ret [] (.bool true) (congrArg Value.bool (decide_eq_true (by dsimp only [Formed, Refers, OSt.stp]; omega)).symm)
                  ·
                    have phb88 := of_decide_eq_true hb88
                    refine lB 86 hb88 ?_
                    refine lS hs [(87, .bool true, []), (88, .bool true, []), (89, .bool true, [])] ?_
                    refine lG 90 ?_
                    refine lG 91 ?_
                    refine lG 92 ?_
                    refine lG 93 ?_
                    refine lG 94 ?_
                    refine lG 95 ?_
                    refine lG 96 ?_
                    refine lS hs [(97, .bool true, []), (75, .bool true, [])] ?_
                    refine lN ?_
                    refine cTo [(1, .int .i64 (i : Nat)), (4, .bool false), (5, .pointer (some ⟨b4, 0, none⟩)), (6, .int .i64 (ari (ss.getD i ost0).op)), (75, .bool true)] ?_
                    refine cIT ?_
                    refine cSL ?_
                    refine lS hs [(4, .bool false, [])] ?_
                    refine lN ?_
                    refine CG.ret ?_
                    exact hs.ret [] (.bool false) (congrArg Value.bool (decide_eq_false (by dsimp only [Formed, Refers, OSt.stp]; omega)).symm)
                ·
                  have phb87 := of_decide_eq_true hb87
                  refine lB 81 hb87 ?_
                  refine lS hs [(82, .bool true, [])] ?_
                  refine lG 83 ?_
                  refine lG 84 ?_
                  refine lG 85 ?_
                  refine lG 86 ?_
                  refine lS hs [(87, .bool true, []), (88, .bool true, []), (89, .bool true, [])] ?_
                  refine lG 90 ?_
                  refine lG 91 ?_
                  refine lG 92 ?_
                  refine lG 93 ?_
                  refine lG 94 ?_
                  refine lG 95 ?_
                  refine lG 96 ?_
                  refine lS hs [(97, .bool true, []), (75, .bool true, [])] ?_
                  refine lN ?_
                  refine cTo [(1, .int .i64 (i : Nat)), (4, .bool false), (5, .pointer (some ⟨b4, 0, none⟩)), (6, .int .i64 (ari (ss.getD i ost0).op)), (75, .bool true)] ?_
                  refine cIT ?_
                  refine cSL ?_
                  refine lS hs [(4, .bool false, [])] ?_
                  refine lN ?_
                  refine CG.ret ?_
                  exact hs.ret [] (.bool false) (congrArg Value.bool (decide_eq_false (by dsimp only [Formed, Refers, OSt.stp]; omega)).symm)
            ·
              have phb78 := neOfBne hb78
              refine lB 41 hb78 ?_
              refine lS hs [(42, .bool true, []), (43, .bool true, []), (15, .bool true, [])] ?_
              refine lN ?_
              refine cTo [(1, .int .i64 (i : Nat)), (2, .pointer (some ⟨b1, 0, none⟩)), (4, .bool false), (5, .pointer (some ⟨b4, 0, none⟩)), (6, .int .i64 (ari (ss.getD i ost0).op)), (15, .bool true)] ?_
              refine cIT ?_
              refine cSL ?_
              refine lS hs [(4, .bool false, [])] ?_
              refine lN ?_
              refine CG.ret ?_
              exact hs.ret [] (.bool false) (congrArg Value.bool (decide_eq_false (by dsimp only [Formed, Refers, OSt.stp]; omega)).symm)
  ·
    have phb10 := of_decide_eq_true hb10
    refine lB 17 hb10 ?_
    refine lS hs [(18, .bool true, [])] ?_
    refine lG 19 ?_
    refine lG 20 ?_
    refine lG 21 ?_
    refine lG 22 ?_
    refine lG 23 ?_
    refine lG 24 ?_
    refine lG 25 ?_
    refine lG 26 ?_
    refine lG 27 ?_
    refine lS hs [(28, .bool true, []), (29, .bool true, [])] ?_
    refine lG 30 ?_
    refine lG 31 ?_
    refine lG 32 ?_
    refine lG 33 ?_
    refine lG 34 ?_
    refine lG 35 ?_
    refine lG 36 ?_
    refine lG 37 ?_
    refine lG 38 ?_
    refine lG 39 ?_
    refine lG 40 ?_
    refine lG 41 ?_
    refine lG 42 ?_
    refine lS hs [(43, .bool true, []), (15, .bool true, [])] ?_
    refine lN ?_
    refine cTo [(1, .int .i64 (i : Nat)), (2, .pointer (some ⟨b1, 0, none⟩)), (4, .bool false), (5, .pointer (some ⟨b4, 0, none⟩)), (6, .int .i64 (ari (ss.getD i ost0).op)), (15, .bool true)] ?_
    refine cIT ?_
    refine cSL ?_
    refine lS hs [(4, .bool false, [])] ?_
    refine lN ?_
    refine CG.ret ?_
    exact hs.ret [] (.bool false) (congrArg Value.bool (decide_eq_false (by dsimp only [Formed, Refers, OSt.stp]; omega)).symm)

end Go.Proofs.YtmkonbkdjmfjhaaGreatDoor
