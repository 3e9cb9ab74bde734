/- Contracts of tape.arity, formed, weight, Check. -/
import Derived.Test.YtmkonbkdjmfjhaaGreatDoorTqL
namespace Go.Proofs.YtmkonbkdjmfjhaaGreatDoor
open Go.RowKit

set_option maxRecDepth 100000 in
set_option maxHeartbeats 600000 in
theorem tArity (op : Int) (w : World) (h : Hp) (g : G w h) :
    Calls Tryz.prog 39 #[.int .i64 op] w (Ret w h fun v _ => v = .int .i64 (ari op)) := by
  have hs := SS.start g
  refine go Tryz.func39 [(0, .int .i64 op)] rfl ?_
  refine cSL ?_
  refine lS hs [(2, .int .i64 0, [])] ?_
  refine lN ?_
  refine CG.seq ?_
  refine cSL ?_
  refine lS hs [(3, .int .i64 op, [])] ?_
  refine lN ?_
  refine CG.block ?_
  refine CG.seq ?_
  refine cSL ?_
  cases hb1 : ((op : Int) == (1 : Int))
  ·
    have phb1 := neOfBeq hb1
    refine lB 5 hb1 ?_
    refine lS hs [(4, .bool false, [])] ?_
    refine lN ?_
    refine cIF ?_
    refine CG.listed ?_
    cases hb2 : ((op : Int) == (2 : Int))
    ·
      have phb2 := neOfBeq hb2
      refine lB 6 hb2 ?_
      refine lS hs [(4, .bool false, [])] ?_
      refine lN ?_
      refine cIF ?_
      refine CG.seq ?_
      refine cSL ?_
      cases hb3 : ((op : Int) == (7 : Int))
      ·
        have phb3 := neOfBeq hb3
        refine lB 8 hb3 ?_
        refine lS hs [(7, .bool false, [])] ?_
        refine lN ?_
        refine cIF ?_
        refine cSL ?_
        cases hb4 : ((op : Int) == (8 : Int))
        ·
          have phb4 := neOfBeq hb4
          refine lB 9 hb4 ?_
          refine lS hs [(7, .bool false, [])] ?_
          refine lN ?_
          refine cIF ?_
          refine cSL ?_
          cases hb5 : ((op : Int) == (9 : Int))
          ·
            have phb5 := neOfBeq hb5
            refine lB 10 hb5 ?_
            refine lS hs [(7, .bool false, [])] ?_
            refine lN ?_
            refine cIF ?_
            refine cSL ?_
            cases hb6 : ((op : Int) == (10 : Int))
            ·
              have phb6 := neOfBeq hb6
              refine lB 11 hb6 ?_
              refine lS hs [(7, .bool false, [])] ?_
              refine lN ?_
              refine cIF ?_
              refine CG.listed ?_
              cases hb7 : ((op : Int) == (11 : Int))
              ·
                have phb7 := neOfBeq hb7
                refine lB 12 hb7 ?_
                refine lS hs [(7, .bool false, [])] ?_
                refine lN ?_
                refine cIF ?_
                refine CG.seq ?_
                refine cSL ?_
                cases hb8 : ((op : Int) == (3 : Int))
                ·
                  have phb8 := neOfBeq hb8
                  refine lB 14 hb8 ?_
                  refine lS hs [(13, .bool false, [])] ?_
                  refine lN ?_
                  refine cIF ?_
                  refine cSL ?_
                  cases hb9 : ((op : Int) == (4 : Int))
                  ·
                    have phb9 := neOfBeq hb9
                    refine lB 15 hb9 ?_
                    refine lS hs [(13, .bool false, [])] ?_
                    refine lN ?_
                    refine cIF ?_
                    refine cSL ?_
                    cases hb10 : ((op : Int) == (5 : Int))
                    ·
                      have phb10 := neOfBeq hb10
                      refine lB 16 hb10 ?_
                      refine lS hs [(13, .bool false, [])] ?_
                      refine lN ?_
                      refine cTo [(2, .int .i64 0), (3, .int .i64 op), (13, .bool false)] ?_
                      refine cIF ?_
                      refine cSL ?_
                      cases hb11 : ((op : Int) == (6 : Int))
                      ·
                        have phb11 := neOfBeq hb11
                        refine lB 17 hb11 ?_
                        refine lS hs [(13, .bool false, [])] ?_
                        refine lN ?_
                        refine cIF ?_
                        refine cSL ?_
                        cases hb12 : ((op : Int) == (12 : Int))
                        ·
                          have phb12 := neOfBeq hb12
                          refine lB 18 hb12 ?_
                          refine lS hs [(13, .bool false, [])] ?_
                          refine lN ?_
                          refine cIF ?_
                          refine CG.listed ?_
                          cases hb13 : ((op : Int) == (13 : Int))
                          ·
                            have phb13 := neOfBeq hb13
                            refine lB 19 hb13 ?_
                            refine lS hs [(13, .bool false, [])] ?_
                            refine lN ?_
                            refine cIF ?_
                            refine CG.skipN ?_
                            refine cSL ?_
                            refine lS hs [(2, .int .i64 (-1), [])] ?_
                            refine lN ?_
                            refine CG.ret ?_
                            exact hs.ret [] (.int .i64 (-1)) (congrArg (Value.int .i64) (by have := ari_cases op; omega))
                          ·
                            have phb13 := eq_of_beq hb13
                            refine lB 19 hb13 ?_
                            refine lS hs [(13, .bool true, [])] ?_
                            refine lN ?_
                            refine cIT ?_
                            refine cSL ?_
                            refine lS hs [(2, .int .i64 2, [])] ?_
                            refine lN ?_
                            refine CG.ret ?_
                            exact hs.ret [] (.int .i64 2) (congrArg (Value.int .i64) (by have := ari_cases op; omega))
                        ·
                          have phb12 := eq_of_beq hb12
                          refine lB 18 hb12 ?_
                          refine lS hs [(13, .bool true, [])] ?_
                          refine lN ?_
                          refine cIT ?_
                          refine CG.skipN ?_
                          refine cIT ?_
                          refine cSL ?_
                          refine lS hs [(2, .int .i64 2, [])] ?_
                          refine lN ?_
                          refine CG.ret ?_
                          exact hs.ret [] (.int .i64 2) (congrArg (Value.int .i64) (by have := ari_cases op; omega))
                      ·
                        have phb11 := eq_of_beq hb11
                        refine lB 17 hb11 ?_
                        refine lS hs [(13, .bool true, [])] ?_
                        refine lN ?_
                        refine cIT ?_
                        refine CG.skipN ?_
                        refine cIT ?_
                        refine cSL ?_
                        refine lS hs [(2, .int .i64 2, [])] ?_
                        refine lN ?_
                        refine CG.ret ?_
                        exact hs.ret [] (.int .i64 2) (congrArg (Value.int .i64) (by have := ari_cases op; omega))
                    ·
                      have phb10 := eq_of_beq hb10
                      refine lB 16 hb10 ?_
                      refine lS hs [(13, .bool true, [])] ?_
                      refine lN ?_
                      refine cTo [(2, .int .i64 0), (3, .int .i64 op), (13, .bool true)] ?_
                      refine cIT ?_
                      refine CG.skipN ?_
                      refine cIT ?_
                      refine cSL ?_
                      refine lS hs [(2, .int .i64 2, [])] ?_
                      refine lN ?_
                      refine CG.ret ?_
                      exact hs.ret [] (.int .i64 2) (congrArg (Value.int .i64) (by have := ari_cases op; omega))
                  ·
                    have phb9 := eq_of_beq hb9
                    refine lB 15 hb9 ?_
                    refine lS hs [(13, .bool true, [])] ?_
                    refine lN ?_
                    refine cIT ?_
                    refine CG.skipN ?_
                    refine cTo [(2, .int .i64 0), (13, .bool true)] ?_
                    refine cIT ?_
                    refine cSL ?_
                    refine lS hs [(2, .int .i64 2, [])] ?_
                    refine lN ?_
                    refine CG.ret ?_
                    exact hs.ret [] (.int .i64 2) (congrArg (Value.int .i64) (by have := ari_cases op; omega))
                ·
                  have phb8 := eq_of_beq hb8
                  refine lB 14 hb8 ?_
                  refine lS hs [(13, .bool true, [])] ?_
                  refine lN ?_
                  refine cIT ?_
                  refine CG.skipN ?_
                  refine cIT ?_
                  refine cSL ?_
                  refine lS hs [(2, .int .i64 2, [])] ?_
                  refine lN ?_
                  refine cTo [(2, .int .i64 2)] ?_
                  refine CG.ret ?_
                  exact hs.ret [] (.int .i64 2) (congrArg (Value.int .i64) (by have := ari_cases op; omega))
              ·
                have phb7 := eq_of_beq hb7
                refine lB 12 hb7 ?_
                refine lS hs [(7, .bool true, [])] ?_
                refine lN ?_
                refine cIT ?_
                refine cSL ?_
                refine lS hs [(2, .int .i64 1, [])] ?_
                refine lN ?_
                refine CG.ret ?_
                exact hs.ret [] (.int .i64 1) (congrArg (Value.int .i64) (by have := ari_cases op; omega))
            ·
              have phb6 := eq_of_beq hb6
              refine lB 11 hb6 ?_
              refine lS hs [(7, .bool true, [])] ?_
              refine lN ?_
              refine cIT ?_
              refine CG.skipN ?_
              refine cIT ?_
              refine cSL ?_
              refine lS hs [(2, .int .i64 1, [])] ?_
              refine lN ?_
              refine CG.ret ?_
              exact hs.ret [] (.int .i64 1) (congrArg (Value.int .i64) (by have := ari_cases op; omega))
          ·
            have phb5 := eq_of_beq hb5
            refine lB 10 hb5 ?_
            refine lS hs [(7, .bool true, [])] ?_
            refine lN ?_
            refine cIT ?_
            refine CG.skipN ?_
            refine cIT ?_
            refine cSL ?_
            refine lS hs [(2, .int .i64 1, [])] ?_
            refine lN ?_
            refine CG.ret ?_
            exact hs.ret [] (.int .i64 1) (congrArg (Value.int .i64) (by have := ari_cases op; omega))
        ·
          have phb4 := eq_of_beq hb4
          refine lB 9 hb4 ?_
          refine lS hs [(7, .bool true, [])] ?_
          refine lN ?_
          refine cIT ?_
          refine CG.skipN ?_
          refine cIT ?_
          refine cSL ?_
          refine lS hs [(2, .int .i64 1, [])] ?_
          refine lN ?_
          refine CG.ret ?_
          exact hs.ret [] (.int .i64 1) (congrArg (Value.int .i64) (by have := ari_cases op; omega))
      ·
        have phb3 := eq_of_beq hb3
        refine lB 8 hb3 ?_
        refine lS hs [(7, .bool true, [])] ?_
        refine lN ?_
        refine cIT ?_
        refine CG.skipN ?_
        refine cIT ?_
        refine cSL ?_
        refine lS hs [(2, .int .i64 1, [])] ?_
        refine lN ?_
        refine CG.ret ?_
        exact hs.ret [] (.int .i64 1) (congrArg (Value.int .i64) (by have := ari_cases op; omega))
    ·
      have phb2 := eq_of_beq hb2
      refine lB 6 hb2 ?_
      refine lS hs [(4, .bool true, [])] ?_
      refine lN ?_
      refine cIT ?_
      refine cSL ?_
      refine lS hs [(2, .int .i64 0, [])] ?_
      refine lN ?_
      refine CG.ret ?_
      exact hs.ret [] (.int .i64 0) (congrArg (Value.int .i64) (by have := ari_cases op; omega))
  ·
    have phb1 := eq_of_beq hb1
    refine lB 5 hb1 ?_
    refine lS hs [(4, .bool true, [])] ?_
    refine lN ?_
    refine cIT ?_
    refine CG.skipN ?_
    refine cIT ?_
    refine cSL ?_
    refine lS hs [(2, .int .i64 0, [])] ?_
    refine lN ?_
    refine CG.ret ?_
    exact hs.ret [] (.int .i64 0) (congrArg (Value.int .i64) (by have := ari_cases op; omega))

set_option maxRecDepth 100000 in
set_option maxHeartbeats 600000 in
theorem tRefers_true (tt : Int) (i rb : Nat) (w : World) (h : Hp) (g : G w h) (ho : Own w rb 3 [.int .i64 (i : Nat)]) (hj : h[rb]? = some junk) :
    Calls Tryz.prog 44 #[.int .i64 tt, .bool true, .pointer (some ⟨rb, 0, none⟩)] w (RetM rb w h fun v w' _ => v = .bool (decide (0 ≤ (tt : Int) ∧ (tt : Int) < (i : Nat))) ∧ Own w' rb 3 [.int .i64 (i : Nat)]) := by
  have hmo : UpM [rb] w h w h := UpM.refl g
  obtain ⟨wz, hz, hs⟩ := SS.at_ g ho hj
  refine go Tryz.func44 [(0, .int .i64 tt), (1, .bool true), (2, .pointer (some ⟨rb, 0, none⟩))] rfl ?_
  refine cSL ?_
  refine lS hs [(5, .bool false, [])] ?_
  refine lN ?_
  refine CG.seq ?_
  refine cSL ?_
  refine lS hs [(6, .bool true, [])] ?_
  refine lN ?_
  refine cIT ?_
  refine cSL ?_
  refine lS hs [(7, .int .i64 tt, [])] ?_
  cases hb1 : (decide ((0 : Int) ≤ (tt : Int)))
  ·
    have phb1 := of_decide_eq_false hb1
    refine lB 8 hb1 ?_
    refine lS hs [(9, .bool false, [])] ?_
    refine lG 10 ?_
    refine lG 11 ?_
    refine lG 12 ?_
    refine lS hs [(13, .bool false, []), (5, .bool false, [])] ?_
    refine lN ?_
    refine CG.ret ?_
    exact hs.retM hmo [] (.bool false) ⟨congrArg Value.bool (decide_eq_false (by omega)).symm, hs.own 0⟩
  ·
    have phb1 := of_decide_eq_true hb1
    refine lB 8 hb1 ?_
    refine lS hs [(9, .bool true, []), (10, .int .i64 tt, []), (11, .int .i64 (i : Nat), [(0, 0, 1)])] ?_
    cases hb2 : (decide ((tt : Int) < ((i : Nat) : Int)))
    ·
      have phb2 := of_decide_eq_false hb2
      refine lB 12 hb2 ?_
      refine lS hs [(13, .bool false, []), (5, .bool false, [])] ?_
      refine lN ?_
      refine CG.ret ?_
      exact hs.retM hmo [] (.bool false) ⟨congrArg Value.bool (decide_eq_false (by omega)).symm, hs.own 0⟩
    ·
      have phb2 := of_decide_eq_true hb2
      refine lB 12 hb2 ?_
      refine lS hs [(13, .bool true, []), (5, .bool true, [])] ?_
      refine lN ?_
      refine CG.ret ?_
      exact hs.retM hmo [] (.bool true) ⟨congrArg Value.bool (decide_eq_true (by omega)).symm, hs.own 0⟩

set_option maxRecDepth 100000 in
set_option maxHeartbeats 600000 in
theorem tRefers_false (tt : Int) (i rb : Nat) (w : World) (h : Hp) (g : G w h) (ho : Own w rb 3 [.int .i64 (i : Nat)]) (hj : h[rb]? = some junk) :
    Calls Tryz.prog 44 #[.int .i64 tt, .bool false, .pointer (some ⟨rb, 0, none⟩)] w (RetM rb w h fun v w' _ => v = .bool (decide ((tt : Int) = 0)) ∧ Own w' rb 3 [.int .i64 (i : Nat)]) := by
  have hmo : UpM [rb] w h w h := UpM.refl g
  obtain ⟨wz, hz, hs⟩ := SS.at_ g ho hj
  refine go Tryz.func44 [(0, .int .i64 tt), (1, .bool false), (2, .pointer (some ⟨rb, 0, none⟩))] rfl ?_
  refine cSL ?_
  refine lS hs [(5, .bool false, [])] ?_
  refine lN ?_
  refine CG.seq ?_
  refine cSL ?_
  refine lS hs [(6, .bool false, [])] ?_
  refine lN ?_
  refine cIF ?_
  refine CG.skipN ?_
  refine cSL ?_
  refine lS hs [(14, .int .i64 tt, [])] ?_
  cases hb1 : ((tt : Int) == (0 : Int))
  ·
    have phb1 := neOfBeq hb1
    refine lB 15 hb1 ?_
    refine lS hs [(5, .bool false, [])] ?_
    refine lN ?_
    refine CG.ret ?_
    exact hs.retM hmo [] (.bool false) ⟨congrArg Value.bool (decide_eq_false (by omega)).symm, hs.own 0⟩
  ·
    have phb1 := eq_of_beq hb1
    refine lB 15 hb1 ?_
    refine lS hs [(5, .bool true, [])] ?_
    refine lN ?_
    refine CG.ret ?_
    exact hs.retM hmo [] (.bool true) ⟨congrArg Value.bool (decide_eq_true (by omega)).symm, hs.own 0⟩

set_option maxRecDepth 100000 in
set_option maxHeartbeats 600000 in
theorem tFormed (inp : Int) (A : Option Addr) (c : Nat) (l : List Stp) (O : Option Addr) (d : Nat) (os : List Int) (i : Nat) (hik : i < l.length) (hl : l.length ≤ 65536) (hq : Sm (l.getD i stp0).q) (w : World) (h : Hp) (g : G w h) (hA : SlO 9 stc stp0 h A l) (hO : SlO 1 i64c 0 h O os) :
    Calls Tryz.prog 20 #[.agg #[.int .i64 inp, .slice A ((l).length) c, .slice O ((os).length) d], .int .i64 (i : Nat)] w (Ret w h fun v _ => v = .bool (decide (Formed inp i (l.getD i stp0)))) := by
  have hs := SS.start g
  replace hs := ((hs.a_SlO hA).a_SlO hO)
  have hsg : (l.getD i stp0).q.num.sign = 0 ↔ (l.getD i stp0).q.num = 0 := Int.sign_eq_zero_iff_zero
  refine go Tryz.func20 [(0, .agg #[.int .i64 inp, .slice A ((l).length) c, .slice O ((os).length) d]), (1, .int .i64 (i : Nat))] rfl ?_
  refine cSL ?_
  refine lA 2 30 ([.int .i64 inp, .slice A ((l).length) c, .slice O ((os).length) d]) hs (fun b1 w2 h3 hs => ?_)
  refine lA 3 3 ([.int .i64 (i : Nat)]) hs (fun b4 w5 h6 hs => ?_)
  refine lS hs [(4, .bool false, [])] ?_
  refine lN ?_
  refine cSL ?_
  refine lS hs [(8, .pointer (some ⟨b1, 1, none⟩), []), (9, .slice A ((l).length) c, [(1, 1, 1)]), (10, .int .i64 (i : Nat), [(0, 0, 1)])] ?_
  refine lX 11 A ((l).length) c 9 (i : Nat) i ((hs.f.2.1).ok (by omega)) ?_
  refine lH 12 (.agg #[.int .i64 ((l.getD i stp0).op), .int .i64 ((l.getD i stp0).a), .int .i64 ((l.getD i stp0).b), .int .i64 ((l.getD i stp0).n), .bool (ineg ((l.getD i stp0).q).num), .int .u64 (lo (iabs ((l.getD i stp0).q).num)), .string (hi (iabs ((l.getD i stp0).q).num)), .int .u64 (lo (qd ((l.getD i stp0).q))), .string (hi (qd ((l.getD i stp0).q)))]) hs ((hs.f.2.1).el i (by omega)) ?_
  refine lA 5 62 ([.int .i64 0, .int .i64 0, .int .i64 0, .int .i64 0, .bool false, .int .u64 0, .string (⟨#[]⟩), .int .u64 0, .string (⟨#[]⟩)]) hs (fun b7 w8 h9 hs => ?_)
  refine lP 0 0 ([.int .i64 ((l.getD i stp0).op), .int .i64 ((l.getD i stp0).a), .int .i64 ((l.getD i stp0).b), .int .i64 ((l.getD i stp0).n), .bool (ineg ((l.getD i stp0).q).num), .int .u64 (lo (iabs ((l.getD i stp0).q).num)), .string (hi (iabs ((l.getD i stp0).q).num)), .int .u64 (lo (qd ((l.getD i stp0).q))), .string (hi (qd ((l.getD i stp0).q)))]) hs (fun w10 hs => ?_)
  refine lN ?_
  refine cSL ?_
  refine lS hs [(13, .pointer (some ⟨b7, 0, none⟩), []), (14, .int .i64 ((l.getD i stp0).op), [(0, 0, 1)])] ?_
  refine lC 15 hs (tArity (l.getD i stp0).op _ _ hs.g) ?_
  rintro _ w11 h12 hs rfl
  have hac := ari_cases (l.getD i stp0).op
  refine lS hs [(6, .int .i64 (ari (l.getD i stp0).op), [])] ?_
  refine lN ?_
  refine CG.seq ?_
  refine cSL ?_
  refine lS hs [(16, .int .i64 (ari (l.getD i stp0).op), [])] ?_
  cases hb13 : (decide ((ari (l.getD i stp0).op : Int) < (0 : Int)))
  ·
    have phb13 := of_decide_eq_false hb13
    refine lB 17 hb13 ?_
    refine lN ?_
    refine cIF ?_
    refine CG.skipN ?_
    refine cSL ?_
    refine lS hs [(18, .func (.func 44) #[] #[.pointer (some ⟨b4, 0, none⟩)], []), (7, .func (.func 44) #[] #[.pointer (some ⟨b4, 0, none⟩)], [])] ?_
    refine lN ?_
    refine cTo [(2, .pointer (some ⟨b1, 0, none⟩)), (4, .bool false), (5, .pointer (some ⟨b7, 0, none⟩)), (6, .int .i64 (ari (l.getD i stp0).op)), (7, .func (.func 44) #[] #[.pointer (some ⟨b4, 0, none⟩)])] ?_
    refine CG.seq ?_
    refine cSL ?_
    refine lS hs [(19, .func (.func 44) #[] #[.pointer (some ⟨b4, 0, none⟩)], []), (20, .pointer (some ⟨b7, 1, none⟩), []), (21, .int .i64 ((l.getD i stp0).a), [(0, 1, 1)]), (22, .int .i64 (ari (l.getD i stp0).op), [])] ?_
    cases hb14 : (decide ((0 : Int) < (ari (l.getD i stp0).op : Int)))
    ·
      have phb14 := of_decide_eq_false hb14
      refine lB 23 hb14 ?_
      refine lCm 24 (tRefers_false ((l.getD i stp0).a) i b4 _ _ hs.g (hs.own 1) (hs.jk 1)) ?_
      rintro _ w16 h17 u18 ⟨rfl, hO15⟩
      replace hs := (hs.stepM 1 u18 hO15).to [⟨b7, 62, [.int .i64 ((l.getD i stp0).op), .int .i64 ((l.getD i stp0).a), .int .i64 ((l.getD i stp0).b), .int .i64 ((l.getD i stp0).n), .bool (ineg ((l.getD i stp0).q).num), .int .u64 (lo (iabs ((l.getD i stp0).q).num)), .string (hi (iabs ((l.getD i stp0).q).num)), .int .u64 (lo (qd ((l.getD i stp0).q))), .string (hi (qd ((l.getD i stp0).q)))]⟩, ⟨b4, 3, [.int .i64 (i : Nat)]⟩, ⟨b1, 30, [.int .i64 inp, .slice A ((l).length) c, .slice O ((os).length) d]⟩] []
      cases hb19 : (decide (((l.getD i stp0).a : Int) = 0))
      ·
        have phb19 := of_decide_eq_false hb19
        refine lS hs [(25, .bool true, []), (26, .bool true, [])] ?_
        refine lG 27 ?_
        refine lG 28 ?_
        refine lG 29 ?_
        refine lG 30 ?_
        refine lG 31 ?_
        refine lG 32 ?_
        refine lG 33 ?_
        refine lS hs [(34, .bool true, []), (35, .bool true, [])] ?_
        refine lG 36 ?_
        refine lG 37 ?_
        refine lG 38 ?_
        refine lG 39 ?_
        refine lG 40 ?_
        refine lG 41 ?_
        refine lG 42 ?_
        refine lG 43 ?_
        refine lG 44 ?_
        refine lS hs [(45, .bool true, [])] ?_
        refine lN ?_
        refine cTo [(2, .pointer (some ⟨b1, 0, none⟩)), (4, .bool false), (5, .pointer (some ⟨b7, 0, none⟩)), (45, .bool true)] ?_
        refine cIT ?_
        refine cSL ?_
        refine lS hs [(4, .bool false, [])] ?_
        refine lN ?_
        refine CG.ret ?_
        exact hs.ret [] (.bool false) (congrArg Value.bool (decide_eq_false (by unfold Formed Refers; omega)).symm)
      ·
        have phb19 := of_decide_eq_true hb19
        refine lS hs [(25, .bool false, []), (26, .bool false, []), (27, .func (.func 44) #[] #[.pointer (some ⟨b4, 0, none⟩)], []), (28, .pointer (some ⟨b7, 2, none⟩), []), (29, .int .i64 ((l.getD i stp0).b), [(0, 2, 1)]), (30, .int .i64 (ari (l.getD i stp0).op), [])] ?_
        have hb20 : (decide ((1 : Int) < (ari (l.getD i stp0).op : Int))) = false := decide_eq_false (by omega)
        have phb20 := of_decide_eq_false hb20
        refine lB 31 hb20 ?_
        refine lCm 32 (tRefers_false ((l.getD i stp0).b) i b4 _ _ hs.g (hs.own 1) (hs.jk 1)) ?_
        rintro _ w22 h23 u24 ⟨rfl, hO21⟩
        replace hs := (hs.stepM 1 u24 hO21).to [⟨b7, 62, [.int .i64 ((l.getD i stp0).op), .int .i64 ((l.getD i stp0).a), .int .i64 ((l.getD i stp0).b), .int .i64 ((l.getD i stp0).n), .bool (ineg ((l.getD i stp0).q).num), .int .u64 (lo (iabs ((l.getD i stp0).q).num)), .string (hi (iabs ((l.getD i stp0).q).num)), .int .u64 (lo (qd ((l.getD i stp0).q))), .string (hi (qd ((l.getD i stp0).q)))]⟩, ⟨b4, 3, [.int .i64 (i : Nat)]⟩, ⟨b1, 30, [.int .i64 inp, .slice A ((l).length) c, .slice O ((os).length) d]⟩] []
        cases hb25 : (decide (((l.getD i stp0).b : Int) = 0))
        ·
          have phb25 := of_decide_eq_false hb25
          refine lS hs [(33, .bool true, []), (34, .bool true, []), (35, .bool true, [])] ?_
          refine lG 36 ?_
          refine lG 37 ?_
          refine lG 38 ?_
          refine lG 39 ?_
          refine lG 40 ?_
          refine lG 41 ?_
          refine lG 42 ?_
          refine lG 43 ?_
          refine lG 44 ?_
          refine lS hs [(45, .bool true, [])] ?_
          refine lN ?_
          refine cTo [(2, .pointer (some ⟨b1, 0, none⟩)), (4, .bool false), (5, .pointer (some ⟨b7, 0, none⟩)), (45, .bool true)] ?_
          refine cIT ?_
          refine cSL ?_
          refine lS hs [(4, .bool false, [])] ?_
          refine lN ?_
          refine CG.ret ?_
          exact hs.ret [] (.bool false) (congrArg Value.bool (decide_eq_false (by unfold Formed Refers; omega)).symm)
        ·
          have phb25 := of_decide_eq_true hb25
          refine lS hs [(33, .bool false, []), (34, .bool false, []), (35, .bool false, []), (36, .pointer (some ⟨b7, 0, none⟩), []), (37, .int .i64 ((l.getD i stp0).op), [(0, 0, 1)])] ?_
          cases hb26 : (((l.getD i stp0).op : Int) != (1 : Int))
          ·
            have phb26 := eqOfBne hb26
            refine lB 38 hb26 ?_
            refine lS hs [(39, .bool false, [])] ?_
            refine lG 40 ?_
            refine lG 41 ?_
            refine lG 42 ?_
            refine lG 43 ?_
            refine lS hs [(44, .bool false, []), (45, .bool false, [])] ?_
            refine lN ?_
            refine cTo [(2, .pointer (some ⟨b1, 0, none⟩)), (4, .bool false), (5, .pointer (some ⟨b7, 0, none⟩)), (45, .bool false)] ?_
            refine cIF ?_
            refine CG.skipN ?_
            refine CG.seq ?_
            refine cSL ?_
            refine lS hs [(46, .pointer (some ⟨b7, 0, none⟩), []), (47, .int .i64 ((l.getD i stp0).op), [(0, 0, 1)])] ?_
            refine lN ?_
            refine CG.block ?_
            refine cSL ?_
            have hb27 : (((l.getD i stp0).op : Int) == (2 : Int)) = false := beqF (by omega)
            have phb27 := neOfBeq hb27
            refine lB 49 hb27 ?_
            refine lS hs [(48, .bool false, [])] ?_
            refine lN ?_
            refine cIF ?_
            refine cSL ?_
            have hb28 : (((l.getD i stp0).op : Int) == (8 : Int)) = false := beqF (by omega)
            have phb28 := neOfBeq hb28
            refine lB 61 hb28 ?_
            refine lS hs [(60, .bool false, [])] ?_
            refine lN ?_
            refine cIF ?_
            refine CG.skipN ?_
            refine cSL ?_
            refine lS hs [(70, .pointer (some ⟨b7, 3, none⟩), []), (71, .int .i64 ((l.getD i stp0).n), [(0, 3, 1)])] ?_
            cases hb29 : (((l.getD i stp0).n : Int) == (0 : Int))
            ·
              have phb29 := neOfBeq hb29
              refine lB 72 hb29 ?_
              refine lS hs [(4, .bool false, [])] ?_
              refine lN ?_
              refine CG.ret ?_
              exact hs.ret [] (.bool false) (congrArg Value.bool (decide_eq_false (by unfold Formed Refers; omega)).symm)
            ·
              have phb29 := eq_of_beq hb29
              refine lB 72 hb29 ?_
              refine lS hs [(4, .bool true, [])] ?_
              refine lN ?_
              refine CG.ret ?_
              exact hs.ret [] (.bool true) (congrArg Value.bool (decide_eq_true (by unfold Formed Refers; omega)).symm)
          ·
            have phb26 := neOfBne hb26
            refine lB 38 hb26 ?_
            refine lS hs [(39, .bool true, []), (40, .pointer (some ⟨b7, 4, none⟩), []), (41, qv ((l.getD i stp0).q), [(0, 4, 5)])] ?_
            refine lC 42 hs (Ret.of_ext hs.g (cSign (l.getD i stp0).q hq _)) ?_
            rintro _ w30 h31 hs rfl
            cases hb32 : (((l.getD i stp0).q.num.sign : Int) != (0 : Int))
            ·
              have phb32 := eqOfBne hb32
              refine lB 43 hb32 ?_
              refine lS hs [(44, .bool false, []), (45, .bool false, [])] ?_
              refine lN ?_
              refine cTo [(2, .pointer (some ⟨b1, 0, none⟩)), (4, .bool false), (5, .pointer (some ⟨b7, 0, none⟩)), (45, .bool false)] ?_
              refine cIF ?_
              refine CG.skipN ?_
              refine CG.seq ?_
              refine cSL ?_
              refine lS hs [(46, .pointer (some ⟨b7, 0, none⟩), []), (47, .int .i64 ((l.getD i stp0).op), [(0, 0, 1)])] ?_
              refine lN ?_
              refine CG.block ?_
              refine cSL ?_
              cases hb33 : (((l.getD i stp0).op : Int) == (2 : Int))
              ·
                have phb33 := neOfBeq hb33
                refine lB 49 hb33 ?_
                refine lS hs [(48, .bool false, [])] ?_
                refine lN ?_
                refine cIF ?_
                refine cSL ?_
                cases hb34 : (((l.getD i stp0).op : Int) == (8 : Int))
                ·
                  have phb34 := neOfBeq hb34
                  refine lB 61 hb34 ?_
                  refine lS hs [(60, .bool false, [])] ?_
                  refine lN ?_
                  refine cIF ?_
                  refine CG.skipN ?_
                  refine cSL ?_
                  refine lS hs [(70, .pointer (some ⟨b7, 3, none⟩), []), (71, .int .i64 ((l.getD i stp0).n), [(0, 3, 1)])] ?_
                  cases hb35 : (((l.getD i stp0).n : Int) == (0 : Int))
                  ·
                    have phb35 := neOfBeq hb35
                    refine lB 72 hb35 ?_
                    refine lS hs [(4, .bool false, [])] ?_
                    refine lN ?_
                    refine CG.ret ?_
                    exact hs.ret [] (.bool false) (congrArg Value.bool (decide_eq_false (by unfold Formed Refers; omega)).symm)
                  ·
                    have phb35 := eq_of_beq hb35
                    refine lB 72 hb35 ?_
                    refine lS hs [(4, .bool true, [])] ?_
                    refine lN ?_
                    refine CG.ret ?_
                    exact hs.ret [] (.bool true) (congrArg Value.bool (decide_eq_true (by unfold Formed Refers; omega)).symm)
                ·
                  have phb34 := eq_of_beq hb34
                  refine lB 61 hb34 ?_
                  refine lS hs [(60, .bool true, [])] ?_
                  refine lN ?_
                  refine cIT ?_
                  refine cSL ?_
                  refine lS hs [(62, .pointer (some ⟨b7, 3, none⟩), []), (63, .int .i64 ((l.getD i stp0).n), [(0, 3, 1)])] ?_
                  cases hb36 : (decide ((-12 : Int) ≤ ((l.getD i stp0).n : Int)))
                  ·
                    have phb36 := of_decide_eq_false hb36
                    refine lB 64 hb36 ?_
                    refine lS hs [(65, .bool false, [])] ?_
                    refine lG 66 ?_
                    refine lG 67 ?_
                    refine lG 68 ?_
                    refine lS hs [(69, .bool false, []), (4, .bool false, [])] ?_
                    refine lN ?_
                    refine cTo [(4, .bool false), (5, .pointer (some ⟨b7, 0, none⟩))] ?_
                    refine CG.ret ?_
                    exact hs.ret [] (.bool false) (congrArg Value.bool (decide_eq_false (by unfold Formed Refers; omega)).symm)
                  ·
                    have phb36 := of_decide_eq_true hb36
                    refine lB 64 hb36 ?_
                    refine lS hs [(65, .bool true, []), (66, .pointer (some ⟨b7, 3, none⟩), []), (67, .int .i64 ((l.getD i stp0).n), [(0, 3, 1)])] ?_
                    cases hb37 : (decide (((l.getD i stp0).n : Int) ≤ (12 : Int)))
                    ·
                      have phb37 := of_decide_eq_false hb37
                      refine lB 68 hb37 ?_
                      refine lS hs [(69, .bool false, []), (4, .bool false, [])] ?_
                      refine lN ?_
                      refine cTo [(4, .bool false), (5, .pointer (some ⟨b7, 0, none⟩))] ?_
                      refine CG.ret ?_
                      exact hs.ret [] (.bool false) (congrArg Value.bool (decide_eq_false (by unfold Formed Refers; omega)).symm)
                    ·
                      have phb37 := of_decide_eq_true hb37
                      refine lB 68 hb37 ?_
                      refine lS hs [(69, .bool true, []), (4, .bool true, [])] ?_
                      refine lN ?_
                      refine cTo [(4, .bool true), (5, .pointer (some ⟨b7, 0, none⟩))] ?_
                      refine CG.ret ?_
                      exact hs.ret [] (.bool true) (congrArg Value.bool (decide_eq_true (by unfold Formed Refers; omega)).symm)
              ·
                have phb33 := eq_of_beq hb33
                refine lB 49 hb33 ?_
                refine lS hs [(48, .bool true, [])] ?_
                refine lN ?_
                refine cIT ?_
                refine cSL ?_
                refine lS hs [(50, .pointer (some ⟨b7, 3, none⟩), []), (51, .int .i64 ((l.getD i stp0).n), [(0, 3, 1)])] ?_
                cases hb38 : (decide ((0 : Int) ≤ ((l.getD i stp0).n : Int)))
                ·
                  have phb38 := of_decide_eq_false hb38
                  refine lB 52 hb38 ?_
                  refine lS hs [(53, .bool false, [])] ?_
                  refine lG 54 ?_
                  refine lG 55 ?_
                  refine lG 56 ?_
                  refine lG 57 ?_
                  refine lG 58 ?_
                  refine lS hs [(59, .bool false, []), (4, .bool false, [])] ?_
                  refine lN ?_
                  refine cTo [(4, .bool false), (5, .pointer (some ⟨b7, 0, none⟩))] ?_
                  refine CG.ret ?_
                  exact hs.ret [] (.bool false) (congrArg Value.bool (decide_eq_false (by unfold Formed Refers; omega)).symm)
                ·
                  have phb38 := of_decide_eq_true hb38
                  refine lB 52 hb38 ?_
                  refine lS hs [(53, .bool true, []), (54, .pointer (some ⟨b7, 3, none⟩), []), (55, .int .i64 ((l.getD i stp0).n), [(0, 3, 1)]), (56, .pointer (some ⟨b1, 0, none⟩), []), (57, .int .i64 inp, [(2, 0, 1)])] ?_
                  cases hb39 : (decide (((l.getD i stp0).n : Int) < (inp : Int)))
                  ·
                    have phb39 := of_decide_eq_false hb39
                    refine lB 58 hb39 ?_
                    refine lS hs [(59, .bool false, []), (4, .bool false, [])] ?_
                    refine lN ?_
                    refine cTo [(4, .bool false), (5, .pointer (some ⟨b7, 0, none⟩))] ?_
                    refine CG.ret ?_
                    exact hs.ret [] (.bool false) (congrArg Value.bool (decide_eq_false (by unfold Formed Refers; omega)).symm)
                  ·
                    have phb39 := of_decide_eq_true hb39
                    refine lB 58 hb39 ?_
                    refine lS hs [(59, .bool true, []), (4, .bool true, [])] ?_
                    refine lN ?_
                    refine cTo [(4, .bool true), (5, .pointer (some ⟨b7, 0, none⟩))] ?_
                    refine CG.ret ?_
                    exact hs.ret [] (.bool true) (congrArg Value.bool (decide_eq_true (by unfold Formed Refers; omega)).symm)
            ·
              have phb32 := neOfBne hb32
              refine lB 43 hb32 ?_
              refine lS hs [(44, .bool true, []), (45, .bool true, [])] ?_
              refine lN ?_
              refine cTo [(2, .pointer (some ⟨b1, 0, none⟩)), (4, .bool false), (5, .pointer (some ⟨b7, 0, none⟩)), (45, .bool true)] ?_
              refine cIT ?_
              refine cSL ?_
              refine lS hs [(4, .bool false, [])] ?_
              refine lN ?_
              refine CG.ret ?_
              exact hs.ret [] (.bool false) (congrArg Value.bool (decide_eq_false (by unfold Formed Refers; omega)).symm)
    ·
      have phb14 := of_decide_eq_true hb14
      refine lB 23 hb14 ?_
      refine lCm 24 (tRefers_true ((l.getD i stp0).a) i b4 _ _ hs.g (hs.own 1) (hs.jk 1)) ?_
      rintro _ w41 h42 u43 ⟨rfl, hO40⟩
      replace hs := (hs.stepM 1 u43 hO40).to [⟨b7, 62, [.int .i64 ((l.getD i stp0).op), .int .i64 ((l.getD i stp0).a), .int .i64 ((l.getD i stp0).b), .int .i64 ((l.getD i stp0).n), .bool (ineg ((l.getD i stp0).q).num), .int .u64 (lo (iabs ((l.getD i stp0).q).num)), .string (hi (iabs ((l.getD i stp0).q).num)), .int .u64 (lo (qd ((l.getD i stp0).q))), .string (hi (qd ((l.getD i stp0).q)))]⟩, ⟨b4, 3, [.int .i64 (i : Nat)]⟩, ⟨b1, 30, [.int .i64 inp, .slice A ((l).length) c, .slice O ((os).length) d]⟩] []
      cases hb44 : (decide (0 ≤ ((l.getD i stp0).a : Int) ∧ ((l.getD i stp0).a : Int) < (i : Nat)))
      ·
        have phb44 := of_decide_eq_false hb44
        refine lS hs [(25, .bool true, []), (26, .bool true, [])] ?_
        refine lG 27 ?_
        refine lG 28 ?_
        refine lG 29 ?_
        refine lG 30 ?_
        refine lG 31 ?_
        refine lG 32 ?_
        refine lG 33 ?_
        refine lS hs [(34, .bool true, []), (35, .bool true, [])] ?_
        refine lG 36 ?_
        refine lG 37 ?_
        refine lG 38 ?_
        refine lG 39 ?_
        refine lG 40 ?_
        refine lG 41 ?_
        refine lG 42 ?_
        refine lG 43 ?_
        refine lG 44 ?_
        refine lS hs [(45, .bool true, [])] ?_
        refine lN ?_
        refine cTo [(2, .pointer (some ⟨b1, 0, none⟩)), (4, .bool false), (5, .pointer (some ⟨b7, 0, none⟩)), (45, .bool true)] ?_
        refine cIT ?_
        refine cSL ?_
        refine lS hs [(4, .bool false, [])] ?_
        refine lN ?_
        refine CG.ret ?_
        exact hs.ret [] (.bool false) (congrArg Value.bool (decide_eq_false (by unfold Formed Refers; omega)).symm)
      ·
        have phb44 := of_decide_eq_true hb44
        refine lS hs [(25, .bool false, []), (26, .bool false, []), (27, .func (.func 44) #[] #[.pointer (some ⟨b4, 0, none⟩)], []), (28, .pointer (some ⟨b7, 2, none⟩), []), (29, .int .i64 ((l.getD i stp0).b), [(0, 2, 1)]), (30, .int .i64 (ari (l.getD i stp0).op), [])] ?_
        cases hb45 : (decide ((1 : Int) < (ari (l.getD i stp0).op : Int)))
        ·
          have phb45 := of_decide_eq_false hb45
          refine lB 31 hb45 ?_
          refine lCm 32 (tRefers_false ((l.getD i stp0).b) i b4 _ _ hs.g (hs.own 1) (hs.jk 1)) ?_
          rintro _ w47 h48 u49 ⟨rfl, hO46⟩
          replace hs := (hs.stepM 1 u49 hO46).to [⟨b7, 62, [.int .i64 ((l.getD i stp0).op), .int .i64 ((l.getD i stp0).a), .int .i64 ((l.getD i stp0).b), .int .i64 ((l.getD i stp0).n), .bool (ineg ((l.getD i stp0).q).num), .int .u64 (lo (iabs ((l.getD i stp0).q).num)), .string (hi (iabs ((l.getD i stp0).q).num)), .int .u64 (lo (qd ((l.getD i stp0).q))), .string (hi (qd ((l.getD i stp0).q)))]⟩, ⟨b4, 3, [.int .i64 (i : Nat)]⟩, ⟨b1, 30, [.int .i64 inp, .slice A ((l).length) c, .slice O ((os).length) d]⟩] []
          cases hb50 : (decide (((l.getD i stp0).b : Int) = 0))
          ·
            have phb50 := of_decide_eq_false hb50
            refine lS hs [(33, .bool true, []), (34, .bool true, []), (35, .bool true, [])] ?_
            refine lG 36 ?_
            refine lG 37 ?_
            refine lG 38 ?_
            refine lG 39 ?_
            refine lG 40 ?_
            refine lG 41 ?_
            refine lG 42 ?_
            refine lG 43 ?_
            refine lG 44 ?_
            refine lS hs [(45, .bool true, [])] ?_
            refine lN ?_
            refine cTo [(2, .pointer (some ⟨b1, 0, none⟩)), (4, .bool false), (5, .pointer (some ⟨b7, 0, none⟩)), (45, .bool true)] ?_
            refine cIT ?_
            refine cSL ?_
            refine lS hs [(4, .bool false, [])] ?_
            refine lN ?_
            refine CG.ret ?_
            exact hs.ret [] (.bool false) (congrArg Value.bool (decide_eq_false (by unfold Formed Refers; omega)).symm)
          ·
            have phb50 := of_decide_eq_true hb50
            refine lS hs [(33, .bool false, []), (34, .bool false, []), (35, .bool false, []), (36, .pointer (some ⟨b7, 0, none⟩), []), (37, .int .i64 ((l.getD i stp0).op), [(0, 0, 1)])] ?_
            cases hb51 : (((l.getD i stp0).op : Int) != (1 : Int))
            ·
              have phb51 := eqOfBne hb51
              refine lB 38 hb51 ?_
              refine lS hs [(39, .bool false, [])] ?_
              refine lG 40 ?_
              refine lG 41 ?_
              refine lG 42 ?_
              refine lG 43 ?_
              refine lS hs [(44, .bool false, []), (45, .bool false, [])] ?_
              refine lN ?_
              refine cTo [(2, .pointer (some ⟨b1, 0, none⟩)), (4, .bool false), (5, .pointer (some ⟨b7, 0, none⟩)), (45, .bool false)] ?_
              refine cIF ?_
              refine CG.skipN ?_
              refine CG.seq ?_
              refine cSL ?_
              refine lS hs [(46, .pointer (some ⟨b7, 0, none⟩), []), (47, .int .i64 ((l.getD i stp0).op), [(0, 0, 1)])] ?_
              refine lN ?_
              refine CG.block ?_
              refine cSL ?_
              have hb52 : (((l.getD i stp0).op : Int) == (2 : Int)) = false := beqF (by omega)
              have phb52 := neOfBeq hb52
              refine lB 49 hb52 ?_
              refine lS hs [(48, .bool false, [])] ?_
              refine lN ?_
              refine cIF ?_
              refine cSL ?_
              have hb53 : (((l.getD i stp0).op : Int) == (8 : Int)) = false := beqF (by omega)
              have phb53 := neOfBeq hb53
              refine lB 61 hb53 ?_
              refine lS hs [(60, .bool false, [])] ?_
              refine lN ?_
              refine cIF ?_
              refine CG.skipN ?_
              refine cSL ?_
              refine lS hs [(70, .pointer (some ⟨b7, 3, none⟩), []), (71, .int .i64 ((l.getD i stp0).n), [(0, 3, 1)])] ?_
              cases hb54 : (((l.getD i stp0).n : Int) == (0 : Int))
              ·
                have phb54 := neOfBeq hb54
                refine lB 72 hb54 ?_
                refine lS hs [(4, .bool false, [])] ?_
                refine lN ?_
                refine CG.ret ?_
                exact hs.ret [] (.bool false) (congrArg Value.bool (decide_eq_false (by unfold Formed Refers; omega)).symm)
              ·
                have phb54 := eq_of_beq hb54
                refine lB 72 hb54 ?_
                refine lS hs [(4, .bool true, [])] ?_
                refine lN ?_
                refine CG.ret ?_
                exact hs.ret [] (.bool true) (congrArg Value.bool (decide_eq_true (by unfold Formed Refers; omega)).symm)
            ·
              have phb51 := neOfBne hb51
              refine lB 38 hb51 ?_
              refine lS hs [(39, .bool true, []), (40, .pointer (some ⟨b7, 4, none⟩), []), (41, qv ((l.getD i stp0).q), [(0, 4, 5)])] ?_
              refine lC 42 hs (Ret.of_ext hs.g (cSign (l.getD i stp0).q hq _)) ?_
              rintro _ w55 h56 hs rfl
              cases hb57 : (((l.getD i stp0).q.num.sign : Int) != (0 : Int))
              ·
                have phb57 := eqOfBne hb57
                refine lB 43 hb57 ?_
                refine lS hs [(44, .bool false, []), (45, .bool false, [])] ?_
                refine lN ?_
                refine cTo [(2, .pointer (some ⟨b1, 0, none⟩)), (4, .bool false), (5, .pointer (some ⟨b7, 0, none⟩)), (45, .bool false)] ?_
                refine cIF ?_
                refine CG.skipN ?_
                refine CG.seq ?_
                refine cSL ?_
                refine lS hs [(46, .pointer (some ⟨b7, 0, none⟩), []), (47, .int .i64 ((l.getD i stp0).op), [(0, 0, 1)])] ?_
                refine lN ?_
                refine CG.block ?_
                refine cSL ?_
                cases hb58 : (((l.getD i stp0).op : Int) == (2 : Int))
                ·
                  have phb58 := neOfBeq hb58
                  refine lB 49 hb58 ?_
                  refine lS hs [(48, .bool false, [])] ?_
                  refine lN ?_
                  refine cIF ?_
                  refine cSL ?_
                  cases hb59 : (((l.getD i stp0).op : Int) == (8 : Int))
                  ·
                    have phb59 := neOfBeq hb59
                    refine lB 61 hb59 ?_
                    refine lS hs [(60, .bool false, [])] ?_
                    refine lN ?_
                    refine cIF ?_
                    refine CG.skipN ?_
                    refine cSL ?_
                    refine lS hs [(70, .pointer (some ⟨b7, 3, none⟩), []), (71, .int .i64 ((l.getD i stp0).n), [(0, 3, 1)])] ?_
                    cases hb60 : (((l.getD i stp0).n : Int) == (0 : Int))
                    ·
                      have phb60 := neOfBeq hb60
                      refine lB 72 hb60 ?_
                      refine lS hs [(4, .bool false, [])] ?_
                      refine lN ?_
                      refine CG.ret ?_
                      exact hs.ret [] (.bool false) (congrArg Value.bool (decide_eq_false (by unfold Formed Refers; omega)).symm)
                    ·
                      have phb60 := eq_of_beq hb60
                      refine lB 72 hb60 ?_
                      refine lS hs [(4, .bool true, [])] ?_
                      refine lN ?_
                      refine CG.ret ?_
                      exact hs.ret [] (.bool true) (congrArg Value.bool (decide_eq_true (by unfold Formed Refers; omega)).symm)
                  ·
                    have phb59 := eq_of_beq hb59
                    refine lB 61 hb59 ?_
                    refine lS hs [(60, .bool true, [])] ?_
                    refine lN ?_
                    refine cIT ?_
                    refine cSL ?_
                    refine lS hs [(62, .pointer (some ⟨b7, 3, none⟩), []), (63, .int .i64 ((l.getD i stp0).n), [(0, 3, 1)])] ?_
                    cases hb61 : (decide ((-12 : Int) ≤ ((l.getD i stp0).n : Int)))
                    ·
                      have phb61 := of_decide_eq_false hb61
                      refine lB 64 hb61 ?_
                      refine lS hs [(65, .bool false, [])] ?_
                      refine lG 66 ?_
                      refine lG 67 ?_
                      refine lG 68 ?_
                      refine lS hs [(69, .bool false, []), (4, .bool false, [])] ?_
                      refine lN ?_
                      refine cTo [(4, .bool false), (5, .pointer (some ⟨b7, 0, none⟩))] ?_
                      refine CG.ret ?_
                      exact hs.ret [] (.bool false) (congrArg Value.bool (decide_eq_false (by unfold Formed Refers; omega)).symm)
                    ·
                      have phb61 := of_decide_eq_true hb61
                      refine lB 64 hb61 ?_
                      refine lS hs [(65, .bool true, []), (66, .pointer (some ⟨b7, 3, none⟩), []), (67, .int .i64 ((l.getD i stp0).n), [(0, 3, 1)])] ?_
                      cases hb62 : (decide (((l.getD i stp0).n : Int) ≤ (12 : Int)))
                      ·
                        have phb62 := of_decide_eq_false hb62
                        refine lB 68 hb62 ?_
                        refine lS hs [(69, .bool false, []), (4, .bool false, [])] ?_
                        refine lN ?_
                        refine cTo [(4, .bool false), (5, .pointer (some ⟨b7, 0, none⟩))] ?_
                        refine CG.ret ?_
                        exact hs.ret [] (.bool false) (congrArg Value.bool (decide_eq_false (by unfold Formed Refers; omega)).symm)
                      ·
                        have phb62 := of_decide_eq_true hb62
                        refine lB 68 hb62 ?_
                        refine lS hs [(69, .bool true, []), (4, .bool true, [])] ?_
                        refine lN ?_
                        refine cTo [(4, .bool true), (5, .pointer (some ⟨b7, 0, none⟩))] ?_
                        refine CG.ret ?_
                        exact hs.ret [] (.bool true) (congrArg Value.bool (decide_eq_true (by unfold Formed Refers; omega)).symm)
                ·
                  have phb58 := eq_of_beq hb58
                  refine lB 49 hb58 ?_
                  refine lS hs [(48, .bool true, [])] ?_
                  refine lN ?_
                  refine cIT ?_
                  refine cSL ?_
                  refine lS hs [(50, .pointer (some ⟨b7, 3, none⟩), []), (51, .int .i64 ((l.getD i stp0).n), [(0, 3, 1)])] ?_
                  cases hb63 : (decide ((0 : Int) ≤ ((l.getD i stp0).n : Int)))
                  ·
                    have phb63 := of_decide_eq_false hb63
                    refine lB 52 hb63 ?_
                    refine lS hs [(53, .bool false, [])] ?_
                    refine lG 54 ?_
                    refine lG 55 ?_
                    refine lG 56 ?_
                    refine lG 57 ?_
                    refine lG 58 ?_
                    refine lS hs [(59, .bool false, []), (4, .bool false, [])] ?_
                    refine lN ?_
                    refine cTo [(4, .bool false), (5, .pointer (some ⟨b7, 0, none⟩))] ?_
                    refine CG.ret ?_
                    exact hs.ret [] (.bool false) (congrArg Value.bool (decide_eq_false (by unfold Formed Refers; omega)).symm)
                  ·
                    have phb63 := of_decide_eq_true hb63
                    refine lB 52 hb63 ?_
                    refine lS hs [(53, .bool true, []), (54, .pointer (some ⟨b7, 3, none⟩), []), (55, .int .i64 ((l.getD i stp0).n), [(0, 3, 1)]), (56, .pointer (some ⟨b1, 0, none⟩), []), (57, .int .i64 inp, [(2, 0, 1)])] ?_
                    cases hb64 : (decide (((l.getD i stp0).n : Int) < (inp : Int)))
                    ·
                      have phb64 := of_decide_eq_false hb64
                      refine lB 58 hb64 ?_
                      refine lS hs [(59, .bool false, []), (4, .bool false, [])] ?_
                      refine lN ?_
                      refine cTo [(4, .bool false), (5, .pointer (some ⟨b7, 0, none⟩))] ?_
                      refine CG.ret ?_
                      exact hs.ret [] (.bool false) (congrArg Value.bool (decide_eq_false (by unfold Formed Refers; omega)).symm)
                    ·
                      have phb64 := of_decide_eq_true hb64
                      refine lB 58 hb64 ?_
                      refine lS hs [(59, .bool true, []), (4, .bool true, [])] ?_
                      refine lN ?_
                      refine cTo [(4, .bool true), (5, .pointer (some ⟨b7, 0, none⟩))] ?_
                      refine CG.ret ?_
                      exact hs.ret [] (.bool true) (congrArg Value.bool (decide_eq_true (by unfold Formed Refers; omega)).symm)
              ·
                have phb57 := neOfBne hb57
                refine lB 43 hb57 ?_
                refine lS hs [(44, .bool true, []), (45, .bool true, [])] ?_
                refine lN ?_
                refine cTo [(2, .pointer (some ⟨b1, 0, none⟩)), (4, .bool false), (5, .pointer (some ⟨b7, 0, none⟩)), (45, .bool true)] ?_
                refine cIT ?_
                refine cSL ?_
                refine lS hs [(4, .bool false, [])] ?_
                refine lN ?_
                refine CG.ret ?_
                exact hs.ret [] (.bool false) (congrArg Value.bool (decide_eq_false (by unfold Formed Refers; omega)).symm)
        ·
          have phb45 := of_decide_eq_true hb45
          refine lB 31 hb45 ?_
          refine lCm 32 (tRefers_true ((l.getD i stp0).b) i b4 _ _ hs.g (hs.own 1) (hs.jk 1)) ?_
          rintro _ w66 h67 u68 ⟨rfl, hO65⟩
          replace hs := (hs.stepM 1 u68 hO65).to [⟨b7, 62, [.int .i64 ((l.getD i stp0).op), .int .i64 ((l.getD i stp0).a), .int .i64 ((l.getD i stp0).b), .int .i64 ((l.getD i stp0).n), .bool (ineg ((l.getD i stp0).q).num), .int .u64 (lo (iabs ((l.getD i stp0).q).num)), .string (hi (iabs ((l.getD i stp0).q).num)), .int .u64 (lo (qd ((l.getD i stp0).q))), .string (hi (qd ((l.getD i stp0).q)))]⟩, ⟨b4, 3, [.int .i64 (i : Nat)]⟩, ⟨b1, 30, [.int .i64 inp, .slice A ((l).length) c, .slice O ((os).length) d]⟩] []
          cases hb69 : (decide (0 ≤ ((l.getD i stp0).b : Int) ∧ ((l.getD i stp0).b : Int) < (i : Nat)))
          ·
            have phb69 := of_decide_eq_false hb69
            refine lS hs [(33, .bool true, []), (34, .bool true, []), (35, .bool true, [])] ?_
            refine lG 36 ?_
            refine lG 37 ?_
            refine lG 38 ?_
            refine lG 39 ?_
            refine lG 40 ?_
            refine lG 41 ?_
            refine lG 42 ?_
            refine lG 43 ?_
            refine lG 44 ?_
            refine lS hs [(45, .bool true, [])] ?_
            refine lN ?_
            refine cTo [(2, .pointer (some ⟨b1, 0, none⟩)), (4, .bool false), (5, .pointer (some ⟨b7, 0, none⟩)), (45, .bool true)] ?_
            refine cIT ?_
            refine cSL ?_
            refine lS hs [(4, .bool false, [])] ?_
            refine lN ?_
            refine CG.ret ?_
            exact hs.ret [] (.bool false) (congrArg Value.bool (decide_eq_false (by unfold Formed Refers; omega)).symm)
          ·
            have phb69 := of_decide_eq_true hb69
            refine lS hs [(33, .bool false, []), (34, .bool false, []), (35, .bool false, []), (36, .pointer (some ⟨b7, 0, none⟩), []), (37, .int .i64 ((l.getD i stp0).op), [(0, 0, 1)])] ?_
            cases hb70 : (((l.getD i stp0).op : Int) != (1 : Int))
            ·
              have phb70 := eqOfBne hb70
              refine lB 38 hb70 ?_
              refine lS hs [(39, .bool false, [])] ?_
              refine lG 40 ?_
              refine lG 41 ?_
              refine lG 42 ?_
              refine lG 43 ?_
              refine lS hs [(44, .bool false, []), (45, .bool false, [])] ?_
              refine lN ?_
              refine cTo [(2, .pointer (some ⟨b1, 0, none⟩)), (4, .bool false), (5, .pointer (some ⟨b7, 0, none⟩)), (45, .bool false)] ?_
              refine cIF ?_
              refine CG.skipN ?_
              refine CG.seq ?_
              refine cSL ?_
              refine lS hs [(46, .pointer (some ⟨b7, 0, none⟩), []), (47, .int .i64 ((l.getD i stp0).op), [(0, 0, 1)])] ?_
              refine lN ?_
              refine CG.block ?_
              refine cSL ?_
              have hb71 : (((l.getD i stp0).op : Int) == (2 : Int)) = false := beqF (by omega)
              have phb71 := neOfBeq hb71
              refine lB 49 hb71 ?_
              refine lS hs [(48, .bool false, [])] ?_
              refine lN ?_
              refine cIF ?_
              refine cSL ?_
              have hb72 : (((l.getD i stp0).op : Int) == (8 : Int)) = false := beqF (by omega)
              have phb72 := neOfBeq hb72
              refine lB 61 hb72 ?_
              refine lS hs [(60, .bool false, [])] ?_
              refine lN ?_
              refine cIF ?_
              refine CG.skipN ?_
              refine cSL ?_
              refine lS hs [(70, .pointer (some ⟨b7, 3, none⟩), []), (71, .int .i64 ((l.getD i stp0).n), [(0, 3, 1)])] ?_
              cases hb73 : (((l.getD i stp0).n : Int) == (0 : Int))
              ·
                have phb73 := neOfBeq hb73
                refine lB 72 hb73 ?_
                refine lS hs [(4, .bool false, [])] ?_
                refine lN ?_
                refine CG.ret ?_
                exact hs.ret [] (.bool false) (congrArg Value.bool (decide_eq_false (by unfold Formed Refers; omega)).symm)
              ·
                have phb73 := eq_of_beq hb73
                refine lB 72 hb73 ?_
                refine lS hs [(4, .bool true, [])] ?_
                refine lN ?_
                refine CG.ret ?_
                exact hs.ret [] (.bool true) (congrArg Value.bool (decide_eq_true (by unfold Formed Refers; omega)).symm)
            ·
              have phb70 := neOfBne hb70
              refine lB 38 hb70 ?_
              refine lS hs [(39, .bool true, []), (40, .pointer (some ⟨b7, 4, none⟩), []), (41, qv ((l.getD i stp0).q), [(0, 4, 5)])] ?_
              refine lC 42 hs (Ret.of_ext hs.g (cSign (l.getD i stp0).q hq _)) ?_
              rintro _ w74 h75 hs rfl
              cases hb76 : (((l.getD i stp0).q.num.sign : Int) != (0 : Int))
              ·
                have phb76 := eqOfBne hb76
                refine lB 43 hb76 ?_
                refine lS hs [(44, .bool false, []), (45, .bool false, [])] ?_
                refine lN ?_
                refine cTo [(2, .pointer (some ⟨b1, 0, none⟩)), (4, .bool false), (5, .pointer (some ⟨b7, 0, none⟩)), (45, .bool false)] ?_
                refine cIF ?_
                refine CG.skipN ?_
                refine CG.seq ?_
                refine cSL ?_
                refine lS hs [(46, .pointer (some ⟨b7, 0, none⟩), []), (47, .int .i64 ((l.getD i stp0).op), [(0, 0, 1)])] ?_
                refine lN ?_
                refine CG.block ?_
                refine cSL ?_
                cases hb77 : (((l.getD i stp0).op : Int) == (2 : Int))
                ·
                  have phb77 := neOfBeq hb77
                  refine lB 49 hb77 ?_
                  refine lS hs [(48, .bool false, [])] ?_
                  refine lN ?_
                  refine cIF ?_
                  refine cSL ?_
                  cases hb78 : (((l.getD i stp0).op : Int) == (8 : Int))
                  ·
                    have phb78 := neOfBeq hb78
                    refine lB 61 hb78 ?_
                    refine lS hs [(60, .bool false, [])] ?_
                    refine lN ?_
                    refine cIF ?_
                    refine CG.skipN ?_
                    refine cSL ?_
                    refine lS hs [(70, .pointer (some ⟨b7, 3, none⟩), []), (71, .int .i64 ((l.getD i stp0).n), [(0, 3, 1)])] ?_
                    cases hb79 : (((l.getD i stp0).n : Int) == (0 : Int))
                    ·
                      have phb79 := neOfBeq hb79
                      refine lB 72 hb79 ?_
                      refine lS hs [(4, .bool false, [])] ?_
                      refine lN ?_
                      refine CG.ret ?_
                      exact hs.ret [] (.bool false) (congrArg Value.bool (decide_eq_false (by unfold Formed Refers; omega)).symm)
                    ·
                      have phb79 := eq_of_beq hb79
                      refine lB 72 hb79 ?_
                      refine lS hs [(4, .bool true, [])] ?_
                      refine lN ?_
                      refine CG.ret ?_
                      exact hs.ret [] (.bool true) (congrArg Value.bool (decide_eq_true (by unfold Formed Refers; omega)).symm)
                  ·
                    have phb78 := eq_of_beq hb78
                    refine lB 61 hb78 ?_
                    refine lS hs [(60, .bool true, [])] ?_
                    refine lN ?_
                    refine cIT ?_
                    refine cSL ?_
                    refine lS hs [(62, .pointer (some ⟨b7, 3, none⟩), []), (63, .int .i64 ((l.getD i stp0).n), [(0, 3, 1)])] ?_
                    cases hb80 : (decide ((-12 : Int) ≤ ((l.getD i stp0).n : Int)))
                    ·
                      have phb80 := of_decide_eq_false hb80
                      refine lB 64 hb80 ?_
                      refine lS hs [(65, .bool false, [])] ?_
                      refine lG 66 ?_
                      refine lG 67 ?_
                      refine lG 68 ?_
                      refine lS hs [(69, .bool false, []), (4, .bool false, [])] ?_
                      refine lN ?_
                      refine cTo [(4, .bool false), (5, .pointer (some ⟨b7, 0, none⟩))] ?_
                      refine CG.ret ?_
                      exact hs.ret [] (.bool false) (congrArg Value.bool (decide_eq_false (by unfold Formed Refers; omega)).symm)
                    ·
                      have phb80 := of_decide_eq_true hb80
                      refine lB 64 hb80 ?_
                      refine lS hs [(65, .bool true, []), (66, .pointer (some ⟨b7, 3, none⟩), []), (67, .int .i64 ((l.getD i stp0).n), [(0, 3, 1)])] ?_
                      cases hb81 : (decide (((l.getD i stp0).n : Int) ≤ (12 : Int)))
                      ·
                        have phb81 := of_decide_eq_false hb81
                        refine lB 68 hb81 ?_
                        refine lS hs [(69, .bool false, []), (4, .bool false, [])] ?_
                        refine lN ?_
                        refine cTo [(4, .bool false), (5, .pointer (some ⟨b7, 0, none⟩))] ?_
                        refine CG.ret ?_
                        exact hs.ret [] (.bool false) (congrArg Value.bool (decide_eq_false (by unfold Formed Refers; omega)).symm)
                      ·
                        have phb81 := of_decide_eq_true hb81
                        refine lB 68 hb81 ?_
                        refine lS hs [(69, .bool true, []), (4, .bool true, [])] ?_
                        refine lN ?_
                        refine cTo [(4, .bool true), (5, .pointer (some ⟨b7, 0, none⟩))] ?_
                        refine CG.ret ?_
                        exact hs.ret [] (.bool true) (congrArg Value.bool (decide_eq_true (by unfold Formed Refers; omega)).symm)
                ·
                  have phb77 := eq_of_beq hb77
                  refine lB 49 hb77 ?_
                  refine lS hs [(48, .bool true, [])] ?_
                  refine lN ?_
                  refine cIT ?_
                  refine cSL ?_
                  refine lS hs [(50, .pointer (some ⟨b7, 3, none⟩), []), (51, .int .i64 ((l.getD i stp0).n), [(0, 3, 1)])] ?_
                  cases hb82 : (decide ((0 : Int) ≤ ((l.getD i stp0).n : Int)))
                  ·
                    have phb82 := of_decide_eq_false hb82
                    refine lB 52 hb82 ?_
                    refine lS hs [(53, .bool false, [])] ?_
                    refine lG 54 ?_
                    refine lG 55 ?_
                    refine lG 56 ?_
                    refine lG 57 ?_
                    refine lG 58 ?_
                    refine lS hs [(59, .bool false, []), (4, .bool false, [])] ?_
                    refine lN ?_
                    refine cTo [(4, .bool false), (5, .pointer (some ⟨b7, 0, none⟩))] ?_
                    refine CG.ret ?_
                    exact hs.ret [] (.bool false) (congrArg Value.bool (decide_eq_false (by unfold Formed Refers; omega)).symm)
                  ·
                    have phb82 := of_decide_eq_true hb82
                    refine lB 52 hb82 ?_
                    refine lS hs [(53, .bool true, []), (54, .pointer (some ⟨b7, 3, none⟩), []), (55, .int .i64 ((l.getD i stp0).n), [(0, 3, 1)]), (56, .pointer (some ⟨b1, 0, none⟩), []), (57, .int .i64 inp, [(2, 0, 1)])] ?_
                    cases hb83 : (decide (((l.getD i stp0).n : Int) < (inp : Int)))
                    ·
                      have phb83 := of_decide_eq_false hb83
                      refine lB 58 hb83 ?_
                      refine lS hs [(59, .bool false, []), (4, .bool false, [])] ?_
                      refine lN ?_
                      refine cTo [(4, .bool false), (5, .pointer (some ⟨b7, 0, none⟩))] ?_
                      refine CG.ret ?_
                      exact hs.ret [] (.bool false) (congrArg Value.bool (decide_eq_false (by unfold Formed Refers; omega)).symm)
                    ·
                      have phb83 := of_decide_eq_true hb83
                      refine lB 58 hb83 ?_
                      refine lS hs [(59, .bool true, []), (4, .bool true, [])] ?_
                      refine lN ?_
                      refine cTo [(4, .bool true), (5, .pointer (some ⟨b7, 0, none⟩))] ?_
                      refine CG.ret ?_
                      exact hs.ret [] (.bool true) (congrArg Value.bool (decide_eq_true (by unfold Formed Refers; omega)).symm)
              ·
                have phb76 := neOfBne hb76
                refine lB 43 hb76 ?_
                refine lS hs [(44, .bool true, []), (45, .bool true, [])] ?_
                refine lN ?_
                refine cTo [(2, .pointer (some ⟨b1, 0, none⟩)), (4, .bool false), (5, .pointer (some ⟨b7, 0, none⟩)), (45, .bool true)] ?_
                refine cIT ?_
                refine cSL ?_
                refine lS hs [(4, .bool false, [])] ?_
                refine lN ?_
                refine CG.ret ?_
                exact hs.ret [] (.bool false) (congrArg Value.bool (decide_eq_false (by unfold Formed Refers; omega)).symm)
  ·
    have phb13 := of_decide_eq_true hb13
    refine lB 17 hb13 ?_
    refine lN ?_
    refine cIT ?_
    refine cSL ?_
    refine lS hs [(4, .bool false, [])] ?_
    refine lN ?_
    refine CG.ret ?_
    exact hs.ret [] (.bool false) (congrArg Value.bool (decide_eq_false (by unfold Formed Refers; omega)).symm)

set_option maxRecDepth 100000 in
set_option maxHeartbeats 600000 in
theorem tWeight (s : Stp) (V : Option Addr) (n c : Nat) (hv : List Int) (hn : hv.length = n) (k : Nat) (inp : Int) (hF : Formed inp k s) (hW : Wts hv k) (hk : k ≤ hv.length) (w : World) (h : Hp) (g : G w h) (hV : SlO 1 i64c 0 h V hv) :
    Calls Tryz.prog 21 #[.agg #[.int .i64 s.op, .int .i64 s.a, .int .i64 s.b, .int .i64 s.n, .bool (ineg s.q.num), .int .u64 (lo (iabs s.q.num)), .string (hi (iabs s.q.num)), .int .u64 (lo (qd s.q)), .string (hi (qd s.q))], .slice V n c] w (Ret w h fun v _ => v = .int .i64 (weightS s hv)) := by
  have hs := SS.start g
  replace hs := (hs.a_SlO hV)
  have hwb := hW.weight hF
  have hpw := hW.pow hF
  obtain ⟨f0, f1, f2, f3, f4, f5, f6⟩ := hF
  unfold Refers at f1 f2
  have hac := ari_cases s.op
  have hwa := fun h0 => hW s.a.toNat h0
  have hwc := fun h0 => hW s.b.toNat h0
  refine go Tryz.func21 [(0, .agg #[.int .i64 s.op, .int .i64 s.a, .int .i64 s.b, .int .i64 s.n, .bool (ineg s.q.num), .int .u64 (lo (iabs s.q.num)), .string (hi (iabs s.q.num)), .int .u64 (lo (qd s.q)), .string (hi (qd s.q))]), (1, .slice V n c)] rfl ?_
  refine cSL ?_
  refine lA 2 62 ([.int .i64 s.op, .int .i64 s.a, .int .i64 s.b, .int .i64 s.n, .bool (ineg s.q.num), .int .u64 (lo (iabs s.q.num)), .string (hi (iabs s.q.num)), .int .u64 (lo (qd s.q)), .string (hi (qd s.q))]) hs (fun b1 w2 h3 hs => ?_)
  refine lS hs [(4, .int .i64 0, [])] ?_
  refine lN ?_
  refine CG.seq ?_
  refine cSL ?_
  refine lS hs [(5, .pointer (some ⟨b1, 0, none⟩), []), (6, .int .i64 s.op, [(0, 0, 1)])] ?_
  refine lC 7 hs (tArity s.op _ _ hs.g) ?_
  rintro _ w4 h5 hs rfl
  refine lN ?_
  refine CG.block ?_
  refine cSL ?_
  cases hb6 : ((ari s.op : Int) == (0 : Int))
  ·
    have phb6 := neOfBeq hb6
    refine lB 9 hb6 ?_
    refine lS hs [(8, .bool false, [])] ?_
    refine lN ?_
    refine cIF ?_
    refine cSL ?_
    cases hb7 : ((ari s.op : Int) == (2 : Int))
    ·
      have phb7 := neOfBeq hb7
      refine lB 11 hb7 ?_
      refine lS hs [(10, .bool false, [])] ?_
      refine lN ?_
      refine cIF ?_
      refine CG.skipN ?_
      refine CG.seq ?_
      refine cSL ?_
      refine lS hs [(23, .pointer (some ⟨b1, 0, none⟩), []), (24, .int .i64 s.op, [(0, 0, 1)])] ?_
      refine lN ?_
      refine CG.block ?_
      refine cSL ?_
      cases hb8 : ((s.op : Int) == (11 : Int))
      ·
        have phb8 := neOfBeq hb8
        refine lB 26 hb8 ?_
        refine lS hs [(25, .bool false, [])] ?_
        refine lN ?_
        refine cIF ?_
        refine cSL ?_
        cases hb9 : ((s.op : Int) == (8 : Int))
        ·
          have phb9 := neOfBeq hb9
          refine lB 34 hb9 ?_
          refine lS hs [(33, .bool false, [])] ?_
          refine lN ?_
          refine cTo [(1, .slice V n c), (2, .pointer (some ⟨b1, 0, none⟩)), (4, .int .i64 0), (33, .bool false)] ?_
          refine cIF ?_
          refine CG.skipN ?_
          refine cSL ?_
          refine lS hs [(47, .slice V n c, []), (48, .pointer (some ⟨b1, 1, none⟩), []), (49, .int .i64 s.a, [(0, 1, 1)])] ?_
          refine lX 50 V n c 1 s.a s.a.toNat ((hs.f.1).ok (by omega)) ?_
          refine lH 51 (.int .i64 (hv.getD s.a.toNat 0)) hs ((hs.f.1).el s.a.toNat (by omega)) ?_
          refine lS hs [(4, .int .i64 (hv.getD s.a.toNat 0), [])] ?_
          refine lN ?_
          refine CG.ret ?_
          exact hs.ret [] (.int .i64 (hv.getD s.a.toNat 0)) (congrArg (Value.int .i64) (by unfold weightS; first | (rw [if_pos (by omega)]) | (rw [if_neg (by omega), if_pos (by omega)]) | (rw [if_neg (by omega), if_neg (by omega), if_pos (by omega)]) | (rw [if_neg (by omega), if_neg (by omega), if_neg (by omega), if_pos (by omega)]) | (rw [if_neg (by omega), if_neg (by omega), if_neg (by omega), if_neg (by omega)])))
        ·
          have phb9 := eq_of_beq hb9
          refine lB 34 hb9 ?_
          refine lS hs [(33, .bool true, [])] ?_
          refine lN ?_
          refine cTo [(1, .slice V n c), (2, .pointer (some ⟨b1, 0, none⟩)), (4, .int .i64 0), (33, .bool true)] ?_
          refine cIT ?_
          refine CG.seq ?_
          refine cR 12 [] mixed hs al_nil ?_
          refine eV 0 35 (.pointer (some ⟨b1, 3, none⟩)) ?_
          refine eO 1 36 [(0, 3, 1)] (.int .i64 s.n) hs ?_
          refine eV 2 37 (.pointer (some ⟨b1, 3, none⟩)) ?_
          refine eO 3 38 [(0, 3, 1)] (.int .i64 s.n) hs ?_
          refine eI 4 39 (0 - s.n) ?_
          refine eV 5 40 (.int .i64 (max (max (s.n : Int) (0 - s.n : Int)) (1 : Int))) ?_ (hv := fun _ => rint (n := (if (1 : Int) > (if (0 - s.n : Int) > (s.n : Int) then (0 - s.n : Int) else (s.n : Int)) then (1 : Int) else (if (0 - s.n : Int) > (s.n : Int) then (0 - s.n : Int) else (s.n : Int)))) (by kernel_rfl) (by simp only [imax2]))
          refine eV 6 41 (.slice V n c) ?_
          refine eV 7 42 (.pointer (some ⟨b1, 1, none⟩)) ?_
          refine eO 8 43 [(0, 1, 1)] (.int .i64 s.a) hs ?_
          refine eX 9 44 V n c 1 s.a s.a.toNat ((hs.f.1).ok (by omega)) ?_
          refine eH 10 45 (.int .i64 (hv.getD s.a.toNat 0)) hs ((hs.f.1).el s.a.toNat (by omega)) ?_
          refine eI 11 46 ((max (max (s.n : Int) (0 - s.n : Int)) (1 : Int)) * (hv.getD s.a.toNat 0)) ?_
          refine eD0 hs (fun w10 h11 hs => ?_)
          refine tV 12 4 (.int .i64 ((max (max (s.n : Int) (0 - s.n : Int)) (1 : Int)) * (hv.getD s.a.toNat 0))) ?_
          refine tN ?_
          refine cTo [(1, .slice V n c), (2, .pointer (some ⟨b1, 0, none⟩)), (4, .int .i64 ((max (max (s.n : Int) (0 - s.n : Int)) (1 : Int)) * (hv.getD s.a.toNat 0)))] ?_
          refine CG.ret ?_
          exact hs.ret [] (.int .i64 ((max (max (s.n : Int) (0 - s.n : Int)) (1 : Int)) * (hv.getD s.a.toNat 0))) (congrArg (Value.int .i64) (by unfold weightS; first | (rw [if_pos (by omega)]) | (rw [if_neg (by omega), if_pos (by omega)]) | (rw [if_neg (by omega), if_neg (by omega), if_pos (by omega)]) | (rw [if_neg (by omega), if_neg (by omega), if_neg (by omega), if_pos (by omega)]) | (rw [if_neg (by omega), if_neg (by omega), if_neg (by omega), if_neg (by omega)])))
      ·
        have phb8 := eq_of_beq hb8
        refine lB 26 hb8 ?_
        refine lS hs [(25, .bool true, [])] ?_
        refine lN ?_
        refine cIT ?_
        refine cSL ?_
        refine lS hs [(27, .slice V n c, []), (28, .pointer (some ⟨b1, 1, none⟩), []), (29, .int .i64 s.a, [(0, 1, 1)])] ?_
        refine lX 30 V n c 1 s.a s.a.toNat ((hs.f.1).ok (by omega)) ?_
        refine lH 31 (.int .i64 (hv.getD s.a.toNat 0)) hs ((hs.f.1).el s.a.toNat (by omega)) ?_
        refine lI 32 (2 * (hv.getD s.a.toNat 0)) ?_
        refine lS hs [(4, .int .i64 (2 * (hv.getD s.a.toNat 0)), [])] ?_
        refine lN ?_
        refine cTo [(1, .slice V n c), (2, .pointer (some ⟨b1, 0, none⟩)), (4, .int .i64 (2 * (hv.getD s.a.toNat 0)))] ?_
        refine CG.ret ?_
        exact hs.ret [] (.int .i64 (2 * (hv.getD s.a.toNat 0))) (congrArg (Value.int .i64) (by unfold weightS; first | (rw [if_pos (by omega)]) | (rw [if_neg (by omega), if_pos (by omega)]) | (rw [if_neg (by omega), if_neg (by omega), if_pos (by omega)]) | (rw [if_neg (by omega), if_neg (by omega), if_neg (by omega), if_pos (by omega)]) | (rw [if_neg (by omega), if_neg (by omega), if_neg (by omega), if_neg (by omega)])))
    ·
      have phb7 := eq_of_beq hb7
      refine lB 11 hb7 ?_
      refine lS hs [(10, .bool true, [])] ?_
      refine lN ?_
      refine cIT ?_
      refine CG.seq ?_
      refine cR 11 [] mixed hs al_nil ?_
      refine eV 0 12 (.slice V n c) ?_
      refine eV 1 13 (.pointer (some ⟨b1, 1, none⟩)) ?_
      refine eO 2 14 [(0, 1, 1)] (.int .i64 s.a) hs ?_
      refine eX 3 15 V n c 1 s.a s.a.toNat ((hs.f.1).ok (by omega)) ?_
      refine eH 4 16 (.int .i64 (hv.getD s.a.toNat 0)) hs ((hs.f.1).el s.a.toNat (by omega)) ?_
      refine eV 5 17 (.slice V n c) ?_
      refine eV 6 18 (.pointer (some ⟨b1, 2, none⟩)) ?_
      refine eO 7 19 [(0, 2, 1)] (.int .i64 s.b) hs ?_
      refine eX 8 20 V n c 1 s.b s.b.toNat ((hs.f.1).ok (by omega)) ?_
      refine eH 9 21 (.int .i64 (hv.getD s.b.toNat 0)) hs ((hs.f.1).el s.b.toNat (by omega)) ?_
      refine eI 10 22 ((hv.getD s.a.toNat 0) + (hv.getD s.b.toNat 0)) ?_
      refine eD0 hs (fun w12 h13 hs => ?_)
      refine tV 11 4 (.int .i64 ((hv.getD s.a.toNat 0) + (hv.getD s.b.toNat 0))) ?_
      refine tN ?_
      refine cTo [(1, .slice V n c), (2, .pointer (some ⟨b1, 0, none⟩)), (4, .int .i64 ((hv.getD s.a.toNat 0) + (hv.getD s.b.toNat 0)))] ?_
      refine CG.ret ?_
      exact hs.ret [] (.int .i64 ((hv.getD s.a.toNat 0) + (hv.getD s.b.toNat 0))) (congrArg (Value.int .i64) (by unfold weightS; first | (rw [if_pos (by omega)]) | (rw [if_neg (by omega), if_pos (by omega)]) | (rw [if_neg (by omega), if_neg (by omega), if_pos (by omega)]) | (rw [if_neg (by omega), if_neg (by omega), if_neg (by omega), if_pos (by omega)]) | (rw [if_neg (by omega), if_neg (by omega), if_neg (by omega), if_neg (by omega)])))
  ·
    have phb6 := eq_of_beq hb6
    refine lB 9 hb6 ?_
    refine lS hs [(8, .bool true, [])] ?_
    refine lN ?_
    refine cIT ?_
    refine cSL ?_
    refine lS hs [(4, .int .i64 1, [])] ?_
    refine lN ?_
    refine CG.ret ?_
    exact hs.ret [] (.int .i64 1) (congrArg (Value.int .i64) (by unfold weightS; first | (rw [if_pos (by omega)]) | (rw [if_neg (by omega), if_pos (by omega)]) | (rw [if_neg (by omega), if_neg (by omega), if_pos (by omega)]) | (rw [if_neg (by omega), if_neg (by omega), if_neg (by omega), if_pos (by omega)]) | (rw [if_neg (by omega), if_neg (by omega), if_neg (by omega), if_neg (by omega)])))

set_option maxRecDepth 100000 in
set_option maxHeartbeats 600000 in
theorem tCheck (inp : Int) (A : Option Addr) (c : Nat) (l : List Stp) (O : Option Addr) (d : Nat) (os : List Int) (hl : l.length ≤ 1000000) (ho : os.length ≤ 1000000) (hq : ∀ i, i < l.length → Sm (l.getD i stp0).q) (w : World) (h : Hp) (g : G w h) (hA : SlO 9 stc stp0 h A l) (hO : SlO 1 i64c 0 h O os) :
    Calls Tryz.prog 8 #[.agg #[.int .i64 inp, .slice A ((l).length) c, .slice O ((os).length) d]] w (Ret w h fun v _ => v = .int .i64 (chkTp inp l os)) := by
  have hs := SS.start g
  replace hs := ((hs.a_SlO hA).a_SlO hO)
  refine go Tryz.func8 [(0, .agg #[.int .i64 inp, .slice A ((l).length) c, .slice O ((os).length) d])] rfl ?_
  refine cSL ?_
  refine lA 1 30 ([.int .i64 inp, .slice A ((l).length) c, .slice O ((os).length) d]) hs (fun b1 w2 h3 hs => ?_)
  refine lS hs [(2, .int .i64 0, [])] ?_
  refine lN ?_
  refine CG.seq ?_
  refine cSL ?_
  refine lS hs [(8, .pointer (some ⟨b1, 0, none⟩), []), (9, .int .i64 inp, [(0, 0, 1)])] ?_
  cases hb4 : (decide ((inp : Int) < (0 : Int)))
  ·
    have phb4 := of_decide_eq_false hb4
    refine lB 10 hb4 ?_
    refine lS hs [(11, .bool false, []), (12, .pointer (some ⟨b1, 0, none⟩), []), (13, .int .i64 inp, [(0, 0, 1)])] ?_
    cases hb5 : (decide ((1000 : Int) < (inp : Int)))
    ·
      have phb5 := of_decide_eq_false hb5
      refine lB 14 hb5 ?_
      refine lS hs [(15, .bool false, []), (16, .bool false, []), (17, .pointer (some ⟨b1, 1, none⟩), []), (18, .slice A ((l).length) c, [(0, 1, 1)]), (19, .int .i64 ((l).length : Nat), [])] ?_
      cases hb6 : (decide ((65536 : Int) < (((l).length : Nat) : Int)))
      ·
        have phb6 := of_decide_eq_false hb6
        refine lB 20 hb6 ?_
        refine lS hs [(21, .bool false, []), (22, .bool false, []), (23, .pointer (some ⟨b1, 2, none⟩), []), (24, .slice O ((os).length) d, [(0, 2, 1)]), (25, .int .i64 ((os).length : Nat), [])] ?_
        cases hb7 : (decide ((300 : Int) < (((os).length : Nat) : Int)))
        ·
          have phb7 := of_decide_eq_false hb7
          refine lB 26 hb7 ?_
          refine lS hs [(27, .bool false, [])] ?_
          refine lN ?_
          refine cTo [(1, .pointer (some ⟨b1, 0, none⟩)), (2, .int .i64 0), (27, .bool false)] ?_
          refine cIF ?_
          refine CG.skipN ?_
          refine cSL ?_
          refine lS hs [(28, .pointer (some ⟨b1, 1, none⟩), []), (29, .slice A ((l).length) c, [(0, 1, 1)]), (30, .int .i64 ((l).length : Nat), [])] ?_
          refine lK 31 3 ((l).length) 1 8 (.int .i64 0) i64c (0 : Int) hs (fun b8 w9 h10 hs => ?_)
          have hl11 : (List.replicate ((l).length) (0 : Int)).length = ((l).length) := by simp
          refine lS hs [(3, .slice (some ⟨b8, 0, none⟩) ((l).length) ((l).length), [])] ?_
          refine lN ?_
          refine CG.seq ?_
          refine cSL ?_
          refine lS hs [(32, .pointer (some ⟨b1, 1, none⟩), []), (33, .slice A ((l).length) c, [(1, 1, 1)]), (34, .int .i64 ((l).length : Nat), []), (35, .int .i64 0, [])] ?_
          refine lN ?_
          refine CG.block ?_
          refine cTo [(1, .pointer (some ⟨b1, 0, none⟩)), (3, .slice (some ⟨b8, 0, none⟩) ((l).length) ((l).length)), (33, .slice A ((l).length) c), (34, .int .i64 ((l).length : Nat)), (35, .int .i64 0)] ?_
          have hsh : 0 ≤ inp ∧ inp ≤ 1000 ∧ l.length ≤ 65536 ∧ os.length ≤ 300 := by omega
          refine CG.loop (fun μ_ Γ w_ => ∃ (k : Nat) (L : List Int) (h_ : Hp), μ_ = l.length - k ∧ Γ = [(1, .pointer (some ⟨b1, 0, none⟩)), (3, .slice (some ⟨b8, 0, none⟩) ((l).length) ((l).length)), (33, .slice A ((l).length) c), (34, .int .i64 ((l).length : Nat)), (35, .int .i64 (k : Nat))] ∧ SS w h w_ h_ [⟨b8, 3, (L).flatMap i64c⟩, ⟨b1, 30, [.int .i64 inp, .slice A ((l).length) c, .slice O ((os).length) d]⟩] [] [fun h_ => SlO 1 i64c 0 h_ O os, fun h_ => SlO 9 stc stp0 h_ A l] ∧ (k ≤ l.length) ∧ (L.length = l.length) ∧ (Wts L k) ∧ (goS inp l [] = goS inp (l.drop k) (L.take k))) _ ⟨0, List.replicate ((l).length) (0 : Int), h10, rfl, rfl, hs.to _ _, Nat.zero_le _, hl11, fun j hj => absurd hj (Nat.not_lt_zero j), rfl⟩ ?_
          rintro _ _ w12 ⟨k, L, h13, hm14, rfl, hs, hk, hlL, hWt, hgo⟩
          refine cSL ?_
          cases hb15 : (decide (((k : Nat) : Int) < (((l).length : Nat) : Int)))
          ·
            have phb15 := of_decide_eq_false hb15
            refine lB 36 hb15 ?_
            refine lN ?_
            refine CG.seq ?_
            refine cIF ?_
            refine CG.exit ?_
            show CG _ _ _ _ _ _ _ _
            refine CG.seq ?_
            refine cSL ?_
            refine lS hs [(56, .pointer (some ⟨b1, 2, none⟩), []), (57, .slice O ((os).length) d, [(1, 2, 1)]), (58, .int .i64 ((os).length : Nat), []), (59, .int .i64 0, [])] ?_
            refine lN ?_
            refine CG.block ?_
            refine cTo [(1, .pointer (some ⟨b1, 0, none⟩)), (57, .slice O ((os).length) d), (58, .int .i64 ((os).length : Nat)), (59, .int .i64 0)] ?_
            refine CG.loop (fun μ_ Γ w_ => ∃ (j : Nat) (h_ : Hp), μ_ = os.length - j ∧ Γ = [(1, .pointer (some ⟨b1, 0, none⟩)), (57, .slice O ((os).length) d), (58, .int .i64 ((os).length : Nat)), (59, .int .i64 (j : Nat))] ∧ SS w h w_ h_ [⟨b8, 3, (L).flatMap i64c⟩, ⟨b1, 30, [.int .i64 inp, .slice A ((l).length) c, .slice O ((os).length) d]⟩] [] [fun h_ => SlO 1 i64c 0 h_ O os, fun h_ => SlO 9 stc stp0 h_ A l] ∧ (j ≤ os.length) ∧ (∀ i, i < j → 0 ≤ os.getD i 0 ∧ os.getD i 0 < l.length)) _ ⟨0, h13, rfl, rfl, hs.to _ _, Nat.zero_le _, fun j hj => absurd hj (Nat.not_lt_zero j)⟩ ?_
            rintro _ _ w16 ⟨j, h17, hm18, rfl, hs, hj, hou⟩
            refine cSL ?_
            cases hb19 : (decide (((j : Nat) : Int) < (((os).length : Nat) : Int)))
            ·
              have phb19 := of_decide_eq_false hb19
              refine lB 60 hb19 ?_
              refine lN ?_
              refine CG.seq ?_
              refine cIF ?_
              refine CG.exit ?_
              show CG _ _ _ _ _ _ _ _
              refine cSL ?_
              refine lS hs [(2, .int .i64 0, [])] ?_
              refine lN ?_
              refine CG.ret ?_
              exact hs.ret [] (.int .i64 0) (congrArg (Value.int .i64) (chkTp_ok hsh (by rw [hgo, List.drop_eq_nil_of_le (by omega)]; rfl) (fun i hi => hou i (by omega))).symm)
            ·
              have phb19 := of_decide_eq_true hb19
              refine lB 60 hb19 ?_
              refine lN ?_
              refine CG.seq ?_
              refine cIT ?_
              refine CG.skipN ?_
              refine CG.seq ?_
              refine CG.block ?_
              refine cSL ?_
              refine lX 61 O ((os).length) d 1 (j : Nat) j ((hs.f.1).ok (by omega)) ?_
              refine lH 62 (.int .i64 (os.getD j 0)) hs ((hs.f.1).el j (by omega)) ?_
              refine lS hs [(7, .int .i64 (os.getD j 0), [])] ?_
              refine lN ?_
              refine cSL ?_
              refine lS hs [(63, .int .i64 (os.getD j 0), [])] ?_
              cases hb20 : (decide ((os.getD j 0 : Int) < (0 : Int)))
              ·
                have phb20 := of_decide_eq_false hb20
                refine lB 64 hb20 ?_
                refine lS hs [(65, .bool false, []), (66, .int .i64 (os.getD j 0), []), (67, .pointer (some ⟨b1, 1, none⟩), []), (68, .slice A ((l).length) c, [(1, 1, 1)]), (69, .int .i64 ((l).length : Nat), [])] ?_
                cases hb21 : (decide ((((l).length : Nat) : Int) ≤ (os.getD j 0 : Int)))
                ·
                  have phb21 := of_decide_eq_false hb21
                  refine lB 70 hb21 ?_
                  refine lS hs [(71, .bool false, [])] ?_
                  refine lN ?_
                  refine cIF ?_
                  refine CG.skipN ?_
                  refine cTo [(1, .pointer (some ⟨b1, 0, none⟩)), (57, .slice O ((os).length) d), (58, .int .i64 ((os).length : Nat)), (59, .int .i64 (j : Nat))] ?_
                  refine CG.listed ?_
                  refine lIn 72 ((j : Nat) + 1) (j + 1) ?_
                  refine lS hs [(59, .int .i64 (j + 1 : Nat), [])] ?_
                  refine lD ?_
                  intro a_ ka
                  have q22 : (j + 1) ≤ os.length := by omega
                  have q23 : ∀ i, i < (j + 1) → 0 ≤ os.getD i 0 ∧ os.getD i 0 < l.length := fun i hi => by by_cases e : i = j; (subst e; omega); exact hou i (by omega)
                  refine ⟨_, _, ?_, ⟨j + 1, h17, rfl, rfl, hs.to _ _, q22, q23⟩, ka.to [(1, .pointer (some ⟨b1, 0, none⟩)), (57, .slice O ((os).length) d), (58, .int .i64 ((os).length : Nat)), (59, .int .i64 ((j + 1) : Nat))] (by kernel_rfl)⟩
                  omega
                ·
                  have phb21 := of_decide_eq_true hb21
                  refine lB 70 hb21 ?_
                  refine lS hs [(71, .bool true, [])] ?_
                  refine lN ?_
                  refine cIT ?_
                  refine cSL ?_
                  refine lS hs [(2, .int .i64 1, [])] ?_
                  refine lN ?_
                  refine cTo [(1, .pointer (some ⟨b1, 0, none⟩)), (57, .slice O ((os).length) d), (58, .int .i64 ((os).length : Nat)), (59, .int .i64 (j : Nat)), (2, .int .i64 1)] ?_
                  refine CG.ret ?_
                  exact hs.ret [] (.int .i64 1) (congrArg (Value.int .i64) (chkTp_arg hsh (by rw [hgo, List.drop_eq_nil_of_le (by omega)]; rfl) (fun h_ => by have := h_ j (by omega); omega)).symm)
              ·
                have phb20 := of_decide_eq_true hb20
                refine lB 64 hb20 ?_
                refine lS hs [(65, .bool true, [])] ?_
                refine lG 66 ?_
                refine lG 67 ?_
                refine lG 68 ?_
                refine lG 69 ?_
                refine lG 70 ?_
                refine lS hs [(71, .bool true, [])] ?_
                refine lN ?_
                refine cIT ?_
                refine cSL ?_
                refine lS hs [(2, .int .i64 1, [])] ?_
                refine lN ?_
                refine cTo [(1, .pointer (some ⟨b1, 0, none⟩)), (57, .slice O ((os).length) d), (58, .int .i64 ((os).length : Nat)), (59, .int .i64 (j : Nat)), (2, .int .i64 1)] ?_
                refine CG.ret ?_
                exact hs.ret [] (.int .i64 1) (congrArg (Value.int .i64) (chkTp_arg hsh (by rw [hgo, List.drop_eq_nil_of_le (by omega)]; rfl) (fun h_ => by have := h_ j (by omega); omega)).symm)
          ·
            have phb15 := of_decide_eq_true hb15
            refine lB 36 hb15 ?_
            refine lN ?_
            refine CG.seq ?_
            refine cIT ?_
            refine CG.skipN ?_
            refine CG.seq ?_
            refine CG.block ?_
            refine cSL ?_
            refine lS hs [(37, .int .i64 (k : Nat), [])] ?_
            refine lX 38 A ((l).length) c 9 (k : Nat) k ((hs.f.2.1).ok (by omega)) ?_
            refine lH 39 (.agg #[.int .i64 ((l.getD k stp0).op), .int .i64 ((l.getD k stp0).a), .int .i64 ((l.getD k stp0).b), .int .i64 ((l.getD k stp0).n), .bool (ineg ((l.getD k stp0).q).num), .int .u64 (lo (iabs ((l.getD k stp0).q).num)), .string (hi (iabs ((l.getD k stp0).q).num)), .int .u64 (lo (qd ((l.getD k stp0).q))), .string (hi (qd ((l.getD k stp0).q)))]) hs ((hs.f.2.1).el k (by omega)) ?_
            refine lA 5 62 ([.int .i64 0, .int .i64 0, .int .i64 0, .int .i64 0, .bool false, .int .u64 0, .string (⟨#[]⟩), .int .u64 0, .string (⟨#[]⟩)]) hs (fun b24 w25 h26 hs => ?_)
            refine lS hs [(4, .int .i64 (k : Nat), [])] ?_
            refine lP 0 0 ([.int .i64 ((l.getD k stp0).op), .int .i64 ((l.getD k stp0).a), .int .i64 ((l.getD k stp0).b), .int .i64 ((l.getD k stp0).n), .bool (ineg ((l.getD k stp0).q).num), .int .u64 (lo (iabs ((l.getD k stp0).q).num)), .string (hi (iabs ((l.getD k stp0).q).num)), .int .u64 (lo (qd ((l.getD k stp0).q))), .string (hi (qd ((l.getD k stp0).q)))]) hs (fun w27 hs => ?_)
            refine lN ?_
            refine CG.seq ?_
            refine cSL ?_
            refine lS hs [(40, .agg #[.int .i64 inp, .slice A ((l).length) c, .slice O ((os).length) d], [(2, 0, 3)]), (41, .int .i64 (k : Nat), [])] ?_
            refine lC 42 hs (tFormed inp A c l O d os k (by omega) (by omega) (hq k (by omega)) _ _ hs.g (hs.f.2.1) (hs.f.1)) ?_
            rintro _ w28 h29 hs rfl
            cases hb30 : (decide (Formed inp k (l.getD k stp0)))
            ·
              have phb30 := of_decide_eq_false hb30
              refine lS hs [(43, .bool true, [])] ?_
              refine lN ?_
              refine cIT ?_
              refine cSL ?_
              refine lS hs [(2, .int .i64 2, [])] ?_
              refine lN ?_
              refine CG.ret ?_
              exact hs.ret [] (.int .i64 2) (congrArg (Value.int .i64) ((chkTp_go hsh (by rw [hgo, goS_bad (by omega) (by simp; omega) ‹¬ Formed inp k (l.getD k stp0)›]; decide)).trans (hgo.trans (goS_bad (by omega) (by simp; omega) ‹¬ Formed inp k (l.getD k stp0)›))).symm)
            ·
              have phb30 := of_decide_eq_true hb30
              refine lS hs [(43, .bool false, [])] ?_
              refine lN ?_
              refine cIF ?_
              refine CG.skipN ?_
              refine cSL ?_
              refine lS hs [(44, .slice (some ⟨b8, 0, none⟩) ((l).length) ((l).length), []), (45, .int .i64 (k : Nat), []), (46, .agg #[.int .i64 ((l.getD k stp0).op), .int .i64 ((l.getD k stp0).a), .int .i64 ((l.getD k stp0).b), .int .i64 ((l.getD k stp0).n), .bool (ineg ((l.getD k stp0).q).num), .int .u64 (lo (iabs ((l.getD k stp0).q).num)), .string (hi (iabs ((l.getD k stp0).q).num)), .int .u64 (lo (qd ((l.getD k stp0).q))), .string (hi (qd ((l.getD k stp0).q)))], [(0, 0, 9)]), (47, .slice (some ⟨b8, 0, none⟩) ((l).length) ((l).length), [])] ?_
              refine lCl 48 1 hs (fun _ g_ f_ sg_ => tWeight (l.getD k stp0) (some ⟨b8, 0, none⟩) ((l).length) ((l).length) L hlL k inp ‹Formed inp k (l.getD k stp0)› hWt (by omega) _ _ g_ (SlO.of_flat (sz := 1) (f := i64c) (d := 0) (b := b8) (o := 0) (l := L) (fun _ => rfl) sg_)) ?_
              rintro _ w31 h32 hs rfl
              have hws := hWt.weight ‹Formed inp k (l.getD k stp0)›
              have hgs : (L.set k (weightS (l.getD k stp0) L)).getD k 0 = weightS (l.getD k stp0) L := by rw [List.getD_eq_getElem?_getD, List.getElem?_set_self (by omega)]; rfl
              refine lX 49 (some ⟨b8, 0, none⟩) ((l).length) ((l).length) 1 (k : Nat) k rfl ?_
              refine lW 1 L i64c 1 k (weightS (l.getD k stp0) L) hs (by omega) (fun w33 hs => ?_)
              have hl34 : ((L).set k (weightS (l.getD k stp0) L)).length = ((l).length) := by rw [List.length_set]; exact hlL
              replace hs := hs.to [⟨b24, 62, [.int .i64 ((l.getD k stp0).op), .int .i64 ((l.getD k stp0).a), .int .i64 ((l.getD k stp0).b), .int .i64 ((l.getD k stp0).n), .bool (ineg ((l.getD k stp0).q).num), .int .u64 (lo (iabs ((l.getD k stp0).q).num)), .string (hi (iabs ((l.getD k stp0).q).num)), .int .u64 (lo (qd ((l.getD k stp0).q))), .string (hi (qd ((l.getD k stp0).q)))]⟩, ⟨b8, 3, ((L).set k (weightS (l.getD k stp0) L)).flatMap i64c⟩, ⟨b1, 30, [.int .i64 inp, .slice A ((l).length) c, .slice O ((os).length) d]⟩] []
              refine lN ?_
              refine cTo [(1, .pointer (some ⟨b1, 0, none⟩)), (3, .slice (some ⟨b8, 0, none⟩) ((l).length) ((l).length)), (33, .slice A ((l).length) c), (34, .int .i64 ((l).length : Nat)), (35, .int .i64 (k : Nat)), (4, .int .i64 (k : Nat))] ?_
              refine cSL ?_
              refine lS hs [(50, .slice (some ⟨b8, 0, none⟩) ((l).length) ((l).length), []), (51, .int .i64 (k : Nat), [])] ?_
              refine lX 52 (some ⟨b8, 0, none⟩) ((l).length) ((l).length) 1 (k : Nat) k rfl ?_
              refine lQ 53 1 ((L).set k (weightS (l.getD k stp0) L)) i64c 1 0 k (.int .i64 (((L).set k (weightS (l.getD k stp0) L)).getD k 0)) hs (by omega) ?_
              cases hb35 : (decide ((65536 : Int) < (((L).set k (weightS (l.getD k stp0) L)).getD k 0 : Int)))
              ·
                have phb35 := of_decide_eq_false hb35
                refine lB 54 hb35 ?_
                refine lN ?_
                refine cIF ?_
                refine CG.skipN ?_
                refine CG.listed ?_
                refine lIn 55 ((k : Nat) + 1) (k + 1) ?_
                refine lS hs [(35, .int .i64 (k + 1 : Nat), [])] ?_
                refine lD ?_
                intro a_ ka
                have q36 : (k + 1) ≤ l.length := by omega
                have q37 : ((L).set k (weightS (l.getD k stp0) L)).length = l.length := hl34
                have q38 : Wts ((L).set k (weightS (l.getD k stp0) L)) (k + 1) := hWt.snoc (by omega) hws.1 (by omega)
                have q39 : goS inp l [] = goS inp (l.drop (k + 1)) (((L).set k (weightS (l.getD k stp0) L)).take (k + 1)) := hgo.trans ((goS_step (by omega) (by simp; omega) ‹Formed inp k (l.getD k stp0)› (by rw [weight_take ‹Formed inp k (l.getD k stp0)›]; omega)).trans (by rw [weight_take ‹Formed inp k (l.getD k stp0)›, take_set_snoc (by omega)]))
                replace hs := hs.drop 1 0
                refine ⟨_, _, ?_, ⟨k + 1, (L).set k (weightS (l.getD k stp0) L), h32, rfl, rfl, hs.to _ _, q36, q37, q38, q39⟩, ka.to [(1, .pointer (some ⟨b1, 0, none⟩)), (3, .slice (some ⟨b8, 0, none⟩) ((l).length) ((l).length)), (33, .slice A ((l).length) c), (34, .int .i64 ((l).length : Nat)), (35, .int .i64 ((k + 1) : Nat))] (by kernel_rfl)⟩
                omega
              ·
                have phb35 := of_decide_eq_true hb35
                refine lB 54 hb35 ?_
                refine lN ?_
                refine cIT ?_
                refine cSL ?_
                refine lS hs [(2, .int .i64 18, [])] ?_
                refine lN ?_
                refine CG.ret ?_
                exact hs.ret [] (.int .i64 18) (congrArg (Value.int .i64) ((chkTp_go hsh (by rw [hgo, goS_over (by omega) (by simp; omega) ‹Formed inp k (l.getD k stp0)› (by rw [weight_take ‹Formed inp k (l.getD k stp0)›]; omega)]; decide)).trans (hgo.trans (goS_over (by omega) (by simp; omega) ‹Formed inp k (l.getD k stp0)› (by rw [weight_take ‹Formed inp k (l.getD k stp0)›]; omega)))).symm)
        ·
          have phb7 := of_decide_eq_true hb7
          refine lB 26 hb7 ?_
          refine lS hs [(27, .bool true, [])] ?_
          refine lN ?_
          refine cTo [(1, .pointer (some ⟨b1, 0, none⟩)), (2, .int .i64 0), (27, .bool true)] ?_
          refine cIT ?_
          refine cSL ?_
          refine lS hs [(2, .int .i64 5, [])] ?_
          refine lN ?_
          refine CG.ret ?_
          exact hs.ret [] (.int .i64 5) (congrArg (Value.int .i64) (chkTp_shape (by omega)).symm)
      ·
        have phb6 := of_decide_eq_true hb6
        refine lB 20 hb6 ?_
        refine lS hs [(21, .bool true, []), (22, .bool true, [])] ?_
        refine lG 23 ?_
        refine lG 24 ?_
        refine lG 25 ?_
        refine lG 26 ?_
        refine lS hs [(27, .bool true, [])] ?_
        refine lN ?_
        refine cTo [(1, .pointer (some ⟨b1, 0, none⟩)), (2, .int .i64 0), (27, .bool true)] ?_
        refine cIT ?_
        refine cSL ?_
        refine lS hs [(2, .int .i64 5, [])] ?_
        refine lN ?_
        refine CG.ret ?_
        exact hs.ret [] (.int .i64 5) (congrArg (Value.int .i64) (chkTp_shape (by omega)).symm)
    ·
      have phb5 := of_decide_eq_true hb5
      refine lB 14 hb5 ?_
      refine lS hs [(15, .bool true, []), (16, .bool true, [])] ?_
      refine lG 17 ?_
      refine lG 18 ?_
      refine lG 19 ?_
      refine lG 20 ?_
      refine lS hs [(21, .bool true, []), (22, .bool true, [])] ?_
      refine lG 23 ?_
      refine lG 24 ?_
      refine lG 25 ?_
      refine lG 26 ?_
      refine lS hs [(27, .bool true, [])] ?_
      refine lN ?_
      refine cTo [(1, .pointer (some ⟨b1, 0, none⟩)), (2, .int .i64 0), (27, .bool true)] ?_
      refine cIT ?_
      refine cSL ?_
      refine lS hs [(2, .int .i64 5, [])] ?_
      refine lN ?_
      refine CG.ret ?_
      exact hs.ret [] (.int .i64 5) (congrArg (Value.int .i64) (chkTp_shape (by omega)).symm)
  ·
    have phb4 := of_decide_eq_true hb4
    refine lB 10 hb4 ?_
    refine lS hs [(11, .bool true, [])] ?_
    refine lG 12 ?_
    refine lG 13 ?_
    refine lG 14 ?_
    refine lS hs [(15, .bool true, []), (16, .bool true, [])] ?_
    refine lG 17 ?_
    refine lG 18 ?_
    refine lG 19 ?_
    refine lG 20 ?_
    refine lS hs [(21, .bool true, []), (22, .bool true, [])] ?_
    refine lG 23 ?_
    refine lG 24 ?_
    refine lG 25 ?_
    refine lG 26 ?_
    refine lS hs [(27, .bool true, [])] ?_
    refine lN ?_
    refine cTo [(1, .pointer (some ⟨b1, 0, none⟩)), (2, .int .i64 0), (27, .bool true)] ?_
    refine cIT ?_
    refine cSL ?_
    refine lS hs [(2, .int .i64 5, [])] ?_
    refine lN ?_
    refine CG.ret ?_
    exact hs.ret [] (.int .i64 5) (congrArg (Value.int .i64) (chkTp_shape (by omega)).symm)

end Go.Proofs.YtmkonbkdjmfjhaaGreatDoor
