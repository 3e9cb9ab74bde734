/- Contracts of the reference's CheckTape. -/
import Derived.Test.YtmkonbkdjmfjhaaGreatDoorTqA
namespace Go.Proofs.YtmkonbkdjmfjhaaGreatDoor
open Go.RowKit

set_option maxRecDepth 100000 in
set_option maxHeartbeats 4000000 in
theorem rCheckTape (inp : Int) (A : Option Addr) (c : Nat) (ts : List RSt) (ss : List OSt) (O : Option Addr) (d : Nat) (os : List Int) (hl : ss.length ≤ 1000000) (ho : os.length ≤ 1000000) (w : World) (h : Hp) (g : G w h) (hA : SlO 7 rsc rst0 h A ts) (hT : RSs h ts ss) (hO : SlO 1 i64c 0 h O os) :
    Calls Tryz.prog 9 #[.agg #[.int .i64 inp, .slice A ts.length c, .slice O os.length d]] w (Ret w h fun v _ => v = .int .i64 (chkTp inp (ss.map OSt.stp) os)) := by
  have hs := SS.start g
  replace hs := (((hs.a_SlO hA).add (K := fun h_ => RSs h_ ts ss) hT).a_SlO hO)
  have hlt := (hs.f.2.1).len
  refine go Tryz.func9 [(0, .agg #[.int .i64 inp, .slice A ts.length c, .slice O os.length d])] rfl ?_
  refine cSL ?_
  refine lA 1 25 ([.int .i64 inp, .slice A ts.length c, .slice O os.length d]) hs (fun b1 w2 h3 hs => ?_)
  refine lS hs [(2, .int .i64 0, [])] ?_
  refine lN ?_
  refine CG.seq ?_
  refine cSL ?_
  refine lS hs [(8, .pointer (some ⟨b1, 0, none⟩), []), (9, .int .i64 inp, [(0, 0, 1)])] ?_
  cases hb4 : (decide ((inp : Int) < (0 : Int)))
  ·
    have phb4 := of_decide_eq_false hb4
    refine lB 10 hb4 ?_
    refine lS hs [(11, .bool false, []), (12, .pointer (some ⟨b1, 0, none⟩), []), (13, .int .i64 inp, [(0, 0, 1)])] ?_
    cases hb5 : (decide ((1000 : Int) < (inp : Int)))
    ·
      have phb5 := of_decide_eq_false hb5
      refine lB 14 hb5 ?_
      refine lS hs [(15, .bool false, []), (16, .bool false, []), (17, .pointer (some ⟨b1, 1, none⟩), []), (18, .slice A ts.length c, [(0, 1, 1)]), (19, .int .i64 (ts.length : Nat), [])] ?_
      cases hb6 : (decide ((65536 : Int) < ((ts.length : Nat) : Int)))
      ·
        have phb6 := of_decide_eq_false hb6
        refine lB 20 hb6 ?_
        refine lS hs [(21, .bool false, []), (22, .bool false, []), (23, .pointer (some ⟨b1, 2, none⟩), []), (24, .slice O os.length d, [(0, 2, 1)]), (25, .int .i64 (os.length : Nat), [])] ?_
        cases hb7 : (decide ((300 : Int) < ((os.length : Nat) : Int)))
        ·
          have phb7 := of_decide_eq_false hb7
          refine lB 26 hb7 ?_
          refine lS hs [(27, .bool false, [])] ?_
          refine lN ?_
          refine cTo [(1, .pointer (some ⟨b1, 0, none⟩)), (2, .int .i64 0), (27, .bool false)] ?_
          refine cIF ?_
          refine CG.skipN ?_
          refine cSL ?_
          refine lS hs [(3, .slice none 0 0, [])] ?_
          refine lN ?_
          refine CG.seq ?_
          refine cSL ?_
          refine lS hs [(4, .int .i64 0, [])] ?_
          refine lN ?_
          refine CG.block ?_
          replace hs := hs.nil 3 1
          refine cTo [(1, .pointer (some ⟨b1, 0, none⟩)), (4, .int .i64 0), (3, .slice none 0 0)] ?_
          have hsh : 0 ≤ inp ∧ inp ≤ 1000 ∧ (ss.map OSt.stp).length ≤ 65536 ∧ os.length ≤ 300 := by rw [List.length_map]; omega
          refine CG.loop (fun μ_ Γ w_ => ∃ (k : Nat) (waA : Option Addr) (wac : Nat) (L : List Int) (h_ : Hp), μ_ = ss.length - k ∧ Γ = [(1, .pointer (some ⟨b1, 0, none⟩)), (4, .int .i64 (k : Nat)), (3, .slice waA ((L).length) wac)] ∧ SS w h w_ h_ [⟨b1, 25, [.int .i64 inp, .slice A ts.length c, .slice O os.length d]⟩] [⟨3, 1, waA, wac, (L).length, (L).flatMap i64c⟩] [fun h_ => SlO 1 i64c 0 h_ O os, fun h_ => RSs h_ ts ss, fun h_ => SlO 7 rsc rst0 h_ A ts] ∧ (k ≤ ss.length) ∧ (L.length = k) ∧ (Wts L k) ∧ (goS inp (ss.map OSt.stp) [] = goS inp ((ss.map OSt.stp).drop k) L)) _ ⟨0, none, 0, [], h3, rfl, rfl, hs.to _ _, Nat.zero_le _, rfl, fun j hj => absurd hj (Nat.not_lt_zero j), rfl⟩ ?_
          rintro _ _ w8 ⟨k, waA, wac, L, h9, hm10, rfl, hs, hk, hll, hWt, hgo⟩
          refine CG.seq ?_
          refine cSL ?_
          refine lS hs [(28, .int .i64 (k : Nat), []), (29, .pointer (some ⟨b1, 1, none⟩), []), (30, .slice A ts.length c, [(0, 1, 1)]), (31, .int .i64 (ts.length : Nat), [])] ?_
          cases hb11 : (decide (((k : Nat) : Int) < ((ts.length : Nat) : Int)))
          ·
            have phb11 := of_decide_eq_false hb11
            refine lB 32 hb11 ?_
            refine lN ?_
            refine cIF ?_
            refine CG.exit ?_
            show CG _ _ _ _ _ _ _ _
            refine CG.seq ?_
            refine cSL ?_
            refine lS hs [(7, .int .i64 0, [])] ?_
            refine lN ?_
            refine CG.block ?_
            refine cTo [(1, .pointer (some ⟨b1, 0, none⟩)), (7, .int .i64 0)] ?_
            refine CG.loop (fun μ_ Γ w_ => ∃ (j : Nat) (h_ : Hp), μ_ = os.length - j ∧ Γ = [(1, .pointer (some ⟨b1, 0, none⟩)), (7, .int .i64 (j : Nat))] ∧ SS w h w_ h_ [⟨b1, 25, [.int .i64 inp, .slice A ts.length c, .slice O os.length d]⟩] [⟨3, 1, waA, wac, (L).length, (L).flatMap i64c⟩] [fun h_ => SlO 1 i64c 0 h_ O os, fun h_ => RSs h_ ts ss, fun h_ => SlO 7 rsc rst0 h_ A ts] ∧ (j ≤ os.length) ∧ (∀ i, i < j → 0 ≤ os.getD i 0 ∧ os.getD i 0 < ss.length)) _ ⟨0, h9, rfl, rfl, hs.to _ _, Nat.zero_le _, fun j hj => absurd hj (Nat.not_lt_zero j)⟩ ?_
            rintro _ _ w12 ⟨j, h13, hm14, rfl, hs, hj, hou⟩
            refine CG.seq ?_
            refine cSL ?_
            refine lS hs [(84, .int .i64 (j : Nat), []), (85, .pointer (some ⟨b1, 2, none⟩), []), (86, .slice O os.length d, [(0, 2, 1)]), (87, .int .i64 (os.length : Nat), [])] ?_
            cases hb15 : (decide (((j : Nat) : Int) < ((os.length : Nat) : Int)))
            ·
              have phb15 := of_decide_eq_false hb15
              refine lB 88 hb15 ?_
              refine lN ?_
              refine cIF ?_
              refine CG.exit ?_
              show CG _ _ _ _ _ _ _ _
              refine cSL ?_
              refine lS hs [(2, .int .i64 0, [])] ?_
              refine lN ?_
              refine CG.ret ?_
              exact hs.ret [] (.int .i64 0) (congrArg (Value.int .i64) (chkTp_ok hsh (by rw [hgo, List.drop_eq_nil_of_le (by rw [List.length_map]; omega)]; rfl) (fun i hi => by rw [List.length_map]; exact hou i (by omega))).symm)
            ·
              have phb15 := of_decide_eq_true hb15
              refine lB 88 hb15 ?_
              refine lN ?_
              refine cIT ?_
              refine CG.skipN ?_
              refine CG.seq ?_
              refine CG.block ?_
              refine CG.seq ?_
              refine cR 17 [] mixed hs al_nil ?_
              refine eV 0 91 (.pointer (some ⟨b1, 2, none⟩)) ?_
              refine eO 1 92 [(0, 2, 1)] (.slice O os.length d) hs ?_
              refine eV 2 93 (.int .i64 (j : Nat)) ?_
              refine eX 3 94 O os.length d 1 (j : Nat) j ((hs.f.1).ok (by omega)) ?_
              refine eH 4 95 (.int .i64 (os.getD j 0)) hs ((hs.f.1).el j (by omega)) ?_
              cases hb16 : (decide ((os.getD j 0 : Int) < (0 : Int)))
              ·
                have phb16 := of_decide_eq_false hb16
                refine eB 5 96 hb16 ?_
                refine eV 6 97 (.bool false) ?_
                refine eV 7 98 (.pointer (some ⟨b1, 2, none⟩)) ?_
                refine eO 8 99 [(0, 2, 1)] (.slice O os.length d) hs ?_
                refine eV 9 100 (.int .i64 (j : Nat)) ?_
                refine eX 10 101 O os.length d 1 (j : Nat) j ((hs.f.1).ok (by omega)) ?_
                refine eH 11 102 (.int .i64 (os.getD j 0)) hs ((hs.f.1).el j (by omega)) ?_
                refine eV 12 103 (.pointer (some ⟨b1, 1, none⟩)) ?_
                refine eO 13 104 [(0, 1, 1)] (.slice A ts.length c) hs ?_
                refine eV 14 105 (.int .i64 (ts.length : Nat)) ?_
                cases hb17 : (decide (((ts.length : Nat) : Int) ≤ (os.getD j 0 : Int)))
                ·
                  have phb17 := of_decide_eq_false hb17
                  refine eB 15 106 hb17 ?_
                  refine eV 16 107 (.bool false) ?_
                  refine eD0 hs (fun w18 h19 hs => ?_)
                  refine tN ?_
                  refine cTo [(1, .pointer (some ⟨b1, 0, none⟩)), (7, .int .i64 (j : Nat)), (107, .bool false)] ?_
                  refine cIF ?_
                  refine CG.skipN ?_
                  refine CG.listed ?_
                  refine lS hs [(89, .int .i64 (j : Nat), [])] ?_
                  refine lIn 90 ((j : Nat) + 1) (j + 1) ?_
                  refine lS hs [(7, .int .i64 (j + 1 : Nat), [])] ?_
                  refine lD ?_
                  intro a_ ka
                  have q20 : (j + 1) ≤ os.length := by omega
                  have q21 : ∀ i, i < (j + 1) → 0 ≤ os.getD i 0 ∧ os.getD i 0 < ss.length := fun i hi => by by_cases e : i = j; (subst e; omega); exact hou i (by omega)
                  refine ⟨_, _, ?_, ⟨j + 1, h19, rfl, rfl, hs.to _ _, q20, q21⟩, ka.to [(1, .pointer (some ⟨b1, 0, none⟩)), (7, .int .i64 ((j + 1) : Nat))] (by kernel_rfl)⟩
                  omega
                ·
                  have phb17 := of_decide_eq_true hb17
                  refine eB 15 106 hb17 ?_
                  refine eV 16 107 (.bool true) ?_
                  refine eD0 hs (fun w22 h23 hs => ?_)
                  refine tN ?_
                  refine cTo [(1, .pointer (some ⟨b1, 0, none⟩)), (7, .int .i64 (j : Nat)), (107, .bool true)] ?_
                  refine cIT ?_
                  refine cSL ?_
                  refine lS hs [(2, .int .i64 1, [])] ?_
                  refine lN ?_
                  refine CG.ret ?_
                  exact hs.ret [] (.int .i64 1) (congrArg (Value.int .i64) (chkTp_arg hsh (by rw [hgo, List.drop_eq_nil_of_le (by rw [List.length_map]; omega)]; rfl) (fun h_ => by have := h_ j (by omega); rw [List.length_map] at this; omega)).symm)
              ·
                have phb16 := of_decide_eq_true hb16
                refine eB 5 96 hb16 ?_
                refine eV 6 97 (.bool true) ?_
                refine eG 7 98 ?_
                refine eG 8 99 ?_
                refine eG 9 100 ?_
                refine eG 10 101 ?_
                refine eG 11 102 ?_
                refine eG 12 103 ?_
                refine eG 13 104 ?_
                refine eG 14 105 ?_
                refine eG 15 106 ?_
                refine eV 16 107 (.bool true) ?_
                refine eD0 hs (fun w24 h25 hs => ?_)
                refine tN ?_
                refine cTo [(1, .pointer (some ⟨b1, 0, none⟩)), (7, .int .i64 (j : Nat)), (107, .bool true)] ?_
                refine cIT ?_
                refine cSL ?_
                refine lS hs [(2, .int .i64 1, [])] ?_
                refine lN ?_
                refine CG.ret ?_
                exact hs.ret [] (.int .i64 1) (congrArg (Value.int .i64) (chkTp_arg hsh (by rw [hgo, List.drop_eq_nil_of_le (by rw [List.length_map]; omega)]; rfl) (fun h_ => by have := h_ j (by omega); rw [List.length_map] at this; omega)).symm)
          ·
            have phb11 := of_decide_eq_true hb11
            refine lB 32 hb11 ?_
            refine lN ?_
            refine cIT ?_
            refine CG.skipN ?_
            refine CG.seq ?_
            refine CG.block ?_
            refine CG.seq ?_
            refine cSL ?_
            refine lS hs [(35, .agg #[.int .i64 inp, .slice A ts.length c, .slice O os.length d], [(0, 0, 3)]), (36, .int .i64 (k : Nat), [])] ?_
            refine lC 37 hs (rRight inp A c ts ss O d os k (by omega) (by omega) _ _ hs.g (hs.f.2.2.1) (hs.f.2.1) (hs.f.1)) ?_
            rintro _ w26 h27 hs rfl
            cases hb28 : (decide (Formed inp k (ss.getD k ost0).stp))
            ·
              have phb28 := of_decide_eq_false hb28
              refine lS hs [(38, .bool true, [])] ?_
              refine lN ?_
              refine cIT ?_
              refine cSL ?_
              refine lS hs [(2, .int .i64 2, [])] ?_
              refine lN ?_
              refine CG.ret ?_
              exact hs.ret [] (.int .i64 2) (congrArg (Value.int .i64) ((chkTp_go hsh (by rw [hgo, goS_bad (by rw [List.length_map]; omega) hll (by rw [stp_getD (by omega)]; exact ‹¬ Formed inp k (ss.getD k ost0).stp›)]; decide)).trans (hgo.trans (goS_bad (by rw [List.length_map]; omega) hll (by rw [stp_getD (by omega)]; exact ‹¬ Formed inp k (ss.getD k ost0).stp›)))).symm)
            ·
              have phb28 := of_decide_eq_true hb28
              refine lS hs [(38, .bool false, [])] ?_
              refine lN ?_
              refine cIF ?_
              refine CG.skipN ?_
              refine cSL ?_
              refine lS hs [(39, .pointer (some ⟨b1, 1, none⟩), []), (40, .slice A ts.length c, [(0, 1, 1)]), (41, .int .i64 (k : Nat), [])] ?_
              refine lX 42 A ts.length c 7 (k : Nat) k ((hs.f.2.2.1).ok (by omega)) ?_
              obtain ⟨Aqx, cqx, Dqx, dqx, eqx, hcqx, hdqx, hAqx, hDqx⟩ := ((hs.f.2.1).at_ k (by omega)).opn
              replace hs := ((hs.a_SlO hAqx).a_SlO hDqx)
              refine lHe 43 (.agg #[.int .i64 ((ts.getD k rst0).op), .int .i64 ((ts.getD k rst0).a), .int .i64 ((ts.getD k rst0).b), .int .i64 ((ts.getD k rst0).n), .bool ((ts.getD k rst0).t.1), (ts.getD k rst0).t.2.1, (ts.getD k rst0).t.2.2]) hs ((hs.f.2.2.2.2.1).el k (by omega)) eqx ?_
              refine lA 5 47 ([.int .i64 0, .int .i64 0, .int .i64 0, .int .i64 0, .bool false, .slice none 0 0, .slice none 0 0]) hs (fun b29 w30 h31 hs => ?_)
              refine lP 0 0 ([.int .i64 ((ss.getD k ost0).op), .int .i64 ((ss.getD k ost0).a), .int .i64 ((ss.getD k ost0).b), .int .i64 ((ss.getD k ost0).n), .bool (ineg (ss.getD k ost0).q.num), .slice Aqx ((lim (iabs (ss.getD k ost0).q.num)).length) cqx, .slice Dqx ((lim (odn (ss.getD k ost0))).length) dqx]) hs (fun w32 hs => ?_)
              refine lN ?_
              refine cTo [(1, .pointer (some ⟨b1, 0, none⟩)), (4, .int .i64 (k : Nat)), (3, .slice waA ((L).length) wac), (5, .pointer (some ⟨b29, 0, none⟩))] ?_
              refine cSL ?_
              refine lS hs [(6, .int .i64 1, [])] ?_
              refine lN ?_
              refine CG.seq ?_
              refine cSL ?_
              refine lS hs [(44, .pointer (some ⟨b29, 0, none⟩), []), (45, .int .i64 ((ss.getD k ost0).op), [(0, 0, 1)])] ?_
              refine lC 46 hs (rKids (ss.getD k ost0).op _ _ hs.g) ?_
              rintro _ w33 h34 hs rfl
              have hac := ari_cases (ss.getD k ost0).op
              obtain ⟨f0, f1, f2, f3, f4, f5, f6⟩ := ‹Formed inp k (ss.getD k ost0).stp›
              dsimp only [Refers, OSt.stp] at f0 f1 f2 f3 f4 f5 f6
              have hwa := fun h0 => hWt (ss.getD k ost0).a.toNat h0
              have hwb := fun h0 => hWt (ss.getD k ost0).b.toNat h0
              have hws := hWt.weight ‹Formed inp k (ss.getD k ost0).stp›
              refine lN ?_
              refine CG.block ?_
              refine cSL ?_
              cases hb35 : ((ari (ss.getD k ost0).op : Int) == (1 : Int))
              ·
                have phb35 := neOfBeq hb35
                refine lB 48 hb35 ?_
                refine lS hs [(47, .bool false, [])] ?_
                refine lN ?_
                refine cIF ?_
                refine cSL ?_
                cases hb36 : ((ari (ss.getD k ost0).op : Int) == (2 : Int))
                ·
                  have phb36 := neOfBeq hb36
                  refine lB 60 hb36 ?_
                  refine lS hs [(59, .bool false, [])] ?_
                  refine lN ?_
                  refine cIF ?_
                  refine CG.skipN ?_
                  refine CG.seq ?_
                  refine cSL ?_
                  have hX37 : (1 : Int) = weightS (ss.getD k ost0).stp L := by rw [weigh_o hWt ‹Formed inp k (ss.getD k ost0).stp›]; (try unfold weighS); first | (rw [if_pos (show ari (ss.getD k ost0).op = 0 by omega)]) | (rw [if_neg (show ¬ ari (ss.getD k ost0).op = 0 by omega), if_neg (show ¬ ari (ss.getD k ost0).op = 2 by omega)]) | (rw [if_neg (show ¬ ari (ss.getD k ost0).op = 0 by omega), if_pos (show ari (ss.getD k ost0).op = 2 by omega), if_neg (show ¬ (ss.getD k ost0).op = 11 by omega), if_neg (show ¬ ((ss.getD k ost0).op = 8 ∧ (ss.getD k ost0).n ≠ 0) by omega)]; omega)
                  refine lV 78 (.int .i64 (weightS (ss.getD k ost0).stp L)) ?_ (hr := rint (n := (1 : Int)) (by kernel_rfl) hX37)
                  cases hb38 : (decide ((65536 : Int) < (weightS (ss.getD k ost0).stp L : Int)))
                  ·
                    have phb38 := of_decide_eq_false hb38
                    refine lB 79 hb38 ?_
                    refine lN ?_
                    refine cIF ?_
                    refine CG.skipN ?_
                    refine CG.listed ?_
                    refine lS hs [(80, .slice waA ((L).length) wac, [])] ?_
                    have hX39 : (1 : Int) = weightS (ss.getD k ost0).stp L := by rw [weigh_o hWt ‹Formed inp k (ss.getD k ost0).stp›]; (try unfold weighS); first | (rw [if_pos (show ari (ss.getD k ost0).op = 0 by omega)]) | (rw [if_neg (show ¬ ari (ss.getD k ost0).op = 0 by omega), if_neg (show ¬ ari (ss.getD k ost0).op = 2 by omega)]) | (rw [if_neg (show ¬ ari (ss.getD k ost0).op = 0 by omega), if_pos (show ari (ss.getD k ost0).op = 2 by omega), if_neg (show ¬ (ss.getD k ost0).op = 11 by omega), if_neg (show ¬ ((ss.getD k ost0).op = 8 ∧ (ss.getD k ost0).n ≠ 0) by omega)]; omega)
                    refine lV 81 (.int .i64 (weightS (ss.getD k ost0).stp L)) ?_ (hr := rint (n := (1 : Int)) (by kernel_rfl) hX39)
                    refine lR 82 3 1 ([.int .i64 (weightS (ss.getD k ost0).stp L)]) hs (fun b40 w41 h42 hs => ?_)
                    refine lY 83 0 3 1 wac waA L i64c (weightS (ss.getD k ost0).stp L) 8 b40 (.int .i64 0) hs (hs.f.1) (fun A44 c45 w46 h47 hs => ?_)
                    refine lS hs [(3, .slice A44 ((L ++ [weightS (ss.getD k ost0).stp L]).length) c45, [])] ?_
                    refine lN ?_
                    refine cTo [(1, .pointer (some ⟨b1, 0, none⟩)), (4, .int .i64 (k : Nat)), (3, .slice A44 ((L ++ [weightS (ss.getD k ost0).stp L]).length) c45)] ?_
                    refine CG.listed ?_
                    refine lS hs [(33, .int .i64 (k : Nat), [])] ?_
                    refine lIn 34 ((k : Nat) + 1) (k + 1) ?_
                    refine lS hs [(4, .int .i64 (k + 1 : Nat), [])] ?_
                    refine lD ?_
                    intro a_ ka
                    have q49 : (k + 1) ≤ ss.length := by omega
                    have q50 : (L ++ [weightS (ss.getD k ost0).stp L]).length = (k + 1) := by simp; omega
                    have q51 : Wts (L ++ [weightS (ss.getD k ost0).stp L]) (k + 1) := Wts.app hWt hll hws.1 (by omega)
                    have q52 : goS inp (ss.map OSt.stp) [] = goS inp ((ss.map OSt.stp).drop (k + 1)) (L ++ [weightS (ss.getD k ost0).stp L]) := hgo.trans ((goS_step (by rw [List.length_map]; omega) hll (by rw [stp_getD (by omega)]; exact ‹Formed inp k (ss.getD k ost0).stp›) (by rw [stp_getD (by omega)]; omega)).trans (by rw [stp_getD (by omega)]))
                    replace hs := hs.tl.tl.tl
                    replace hs := hs.drop 1 0
                    refine ⟨_, _, ?_, ⟨k + 1, A44, c45, L ++ [weightS (ss.getD k ost0).stp L], h47, rfl, rfl, hs.to _ _, q49, q50, q51, q52⟩, ka.to [(1, .pointer (some ⟨b1, 0, none⟩)), (4, .int .i64 ((k + 1) : Nat)), (3, .slice A44 (((L ++ [weightS (ss.getD k ost0).stp L])).length) c45)] (by kernel_rfl)⟩
                    omega
                  ·
                    have phb38 := of_decide_eq_true hb38
                    refine lB 79 hb38 ?_
                    refine lN ?_
                    refine cIT ?_
                    refine cSL ?_
                    refine lS hs [(2, .int .i64 18, [])] ?_
                    refine lN ?_
                    refine CG.ret ?_
                    exact hs.ret [] (.int .i64 18) (congrArg (Value.int .i64) ((chkTp_go hsh (by rw [hgo, goS_over (by rw [List.length_map]; omega) hll (by rw [stp_getD (by omega)]; exact ‹Formed inp k (ss.getD k ost0).stp›) (by rw [stp_getD (by omega)]; omega)]; decide)).trans (hgo.trans (goS_over (by rw [List.length_map]; omega) hll (by rw [stp_getD (by omega)]; exact ‹Formed inp k (ss.getD k ost0).stp›) (by rw [stp_getD (by omega)]; omega)))).symm)
                ·
                  have phb36 := eq_of_beq hb36
                  refine lB 60 hb36 ?_
                  refine lS hs [(59, .bool true, [])] ?_
                  refine lN ?_
                  refine cIT ?_
                  refine cR 17 [] mixed hs al_nil ?_
                  refine eV 0 61 (.pointer (some ⟨b29, 0, none⟩)) ?_
                  refine eO 1 62 [(0, 0, 1)] (.int .i64 ((ss.getD k ost0).op)) hs ?_
                  refine eV 2 63 (.pointer (some ⟨b29, 3, none⟩)) ?_
                  refine eO 3 64 [(0, 3, 1)] (.int .i64 ((ss.getD k ost0).n)) hs ?_
                  refine eV 4 65 (.slice waA ((L).length) wac) ?_
                  refine eV 5 66 (.pointer (some ⟨b29, 1, none⟩)) ?_
                  refine eO 6 67 [(0, 1, 1)] (.int .i64 ((ss.getD k ost0).a)) hs ?_
                  obtain ⟨bR53, hbR54⟩ := hs.rowA 0 (A := waA) (c := wac) (m := (L).length) (ty := 3) (sz := 1) (cs := (L).flatMap i64c) (by omega)
                  subst hbR54
                  refine eX 7 68 (some ⟨bR53, 0, none⟩) ((L).length) wac 1 ((ss.getD k ost0).a) ((ss.getD k ost0).a.toNat) rfl ?_
                  refine eRq (ty := 3) (sz := 1) (c := wac) (m := (L).length) (b := bR53) (cs := (L).flatMap i64c) 8 69 0 (.int .i64 (L.getD ((ss.getD k ost0).a.toNat) 0)) (i64c (L.getD ((ss.getD k ost0).a.toNat) 0)) hs (row_el (f := i64c) (sz := 1) (fun _ => rfl) 0 L ((ss.getD k ost0).a.toNat) (by omega)) ?_
                  refine eV 9 70 (.slice (some ⟨bR53, 0, none⟩) ((L).length) wac) ?_
                  refine eV 10 71 (.pointer (some ⟨b29, 2, none⟩)) ?_
                  refine eO 11 72 [(0, 2, 1)] (.int .i64 ((ss.getD k ost0).b)) hs ?_
                  refine eX 12 73 (some ⟨bR53, 0, none⟩) ((L).length) wac 1 ((ss.getD k ost0).b) ((ss.getD k ost0).b.toNat) rfl ?_
                  refine eRq (ty := 3) (sz := 1) (c := wac) (m := (L).length) (b := bR53) (cs := (L).flatMap i64c) 13 74 0 (.int .i64 (L.getD ((ss.getD k ost0).b.toNat) 0)) (i64c (L.getD ((ss.getD k ost0).b.toNat) 0)) hs (row_el (f := i64c) (sz := 1) (fun _ => rfl) 0 L ((ss.getD k ost0).b.toNat) (by omega)) ?_
                  refine eI 14 75 ((L.getD ((ss.getD k ost0).a.toNat) 0) + (L.getD ((ss.getD k ost0).b.toNat) 0)) ?_
                  refine eV 15 76 (.int .i64 (min ((L.getD ((ss.getD k ost0).a.toNat) 0) + (L.getD ((ss.getD k ost0).b.toNat) 0) : Int) (1073741824 : Int))) ?_ (hv := fun _ => rint (n := (if (1073741824 : Int) < ((L.getD ((ss.getD k ost0).a.toNat) 0) + (L.getD ((ss.getD k ost0).b.toNat) 0) : Int) then (1073741824 : Int) else ((L.getD ((ss.getD k ost0).a.toNat) 0) + (L.getD ((ss.getD k ost0).b.toNat) 0) : Int))) (by kernel_rfl) (by simp only [imin2]))
                  refine eC 16 77 hs (fun _ _ hs => rWeigh (ss.getD k ost0).op (ss.getD k ost0).n (min ((L.getD ((ss.getD k ost0).a.toNat) 0) + (L.getD ((ss.getD k ost0).b.toNat) 0) : Int) (1073741824 : Int)) (by omega) (by omega) _ _ hs.g) ?_
                  rintro _ _ _ w55 h56 hs rfl
                  refine eD0 hs (fun w57 h58 hs => ?_)
                  refine tV 17 6 (.int .i64 (weighS (ss.getD k ost0).op (ss.getD k ost0).n (min ((L.getD ((ss.getD k ost0).a.toNat) 0) + (L.getD ((ss.getD k ost0).b.toNat) 0) : Int) (1073741824 : Int)))) ?_
                  refine tN ?_
                  refine cTo [(1, .pointer (some ⟨b1, 0, none⟩)), (4, .int .i64 (k : Nat)), (3, .slice (some ⟨bR53, 0, none⟩) ((L).length) wac), (6, .int .i64 (weighS (ss.getD k ost0).op (ss.getD k ost0).n (min ((L.getD ((ss.getD k ost0).a.toNat) 0) + (L.getD ((ss.getD k ost0).b.toNat) 0) : Int) (1073741824 : Int))))] ?_
                  refine CG.seq ?_
                  refine cSL ?_
                  have hX59 : (weighS (ss.getD k ost0).op (ss.getD k ost0).n (min ((L.getD ((ss.getD k ost0).a.toNat) 0) + (L.getD ((ss.getD k ost0).b.toNat) 0) : Int) (1073741824 : Int)) : Int) = weightS (ss.getD k ost0).stp L := by rw [weigh_o hWt ‹Formed inp k (ss.getD k ost0).stp›]; (try unfold weighS); first | (rw [if_pos (show ari (ss.getD k ost0).op = 0 by omega)]) | (rw [if_neg (show ¬ ari (ss.getD k ost0).op = 0 by omega), if_neg (show ¬ ari (ss.getD k ost0).op = 2 by omega)]) | (rw [if_neg (show ¬ ari (ss.getD k ost0).op = 0 by omega), if_pos (show ari (ss.getD k ost0).op = 2 by omega), if_neg (show ¬ (ss.getD k ost0).op = 11 by omega), if_neg (show ¬ ((ss.getD k ost0).op = 8 ∧ (ss.getD k ost0).n ≠ 0) by omega)]; omega)
                  refine lV 78 (.int .i64 (weightS (ss.getD k ost0).stp L)) ?_ (hr := rint (n := (weighS (ss.getD k ost0).op (ss.getD k ost0).n (min ((L.getD ((ss.getD k ost0).a.toNat) 0) + (L.getD ((ss.getD k ost0).b.toNat) 0) : Int) (1073741824 : Int)) : Int)) (by kernel_rfl) hX59)
                  cases hb60 : (decide ((65536 : Int) < (weightS (ss.getD k ost0).stp L : Int)))
                  ·
                    have phb60 := of_decide_eq_false hb60
                    refine lB 79 hb60 ?_
                    refine lN ?_
                    refine cIF ?_
                    refine CG.skipN ?_
                    refine CG.listed ?_
                    refine lS hs [(80, .slice (some ⟨bR53, 0, none⟩) ((L).length) wac, [])] ?_
                    have hX61 : (weighS (ss.getD k ost0).op (ss.getD k ost0).n (min ((L.getD ((ss.getD k ost0).a.toNat) 0) + (L.getD ((ss.getD k ost0).b.toNat) 0) : Int) (1073741824 : Int)) : Int) = weightS (ss.getD k ost0).stp L := by rw [weigh_o hWt ‹Formed inp k (ss.getD k ost0).stp›]; (try unfold weighS); first | (rw [if_pos (show ari (ss.getD k ost0).op = 0 by omega)]) | (rw [if_neg (show ¬ ari (ss.getD k ost0).op = 0 by omega), if_neg (show ¬ ari (ss.getD k ost0).op = 2 by omega)]) | (rw [if_neg (show ¬ ari (ss.getD k ost0).op = 0 by omega), if_pos (show ari (ss.getD k ost0).op = 2 by omega), if_neg (show ¬ (ss.getD k ost0).op = 11 by omega), if_neg (show ¬ ((ss.getD k ost0).op = 8 ∧ (ss.getD k ost0).n ≠ 0) by omega)]; omega)
                    refine lV 81 (.int .i64 (weightS (ss.getD k ost0).stp L)) ?_ (hr := rint (n := (weighS (ss.getD k ost0).op (ss.getD k ost0).n (min ((L.getD ((ss.getD k ost0).a.toNat) 0) + (L.getD ((ss.getD k ost0).b.toNat) 0) : Int) (1073741824 : Int)) : Int)) (by kernel_rfl) hX61)
                    refine lR 82 3 1 ([.int .i64 (weightS (ss.getD k ost0).stp L)]) hs (fun b62 w63 h64 hs => ?_)
                    refine lY 83 0 3 1 wac (some ⟨bR53, 0, none⟩) L i64c (weightS (ss.getD k ost0).stp L) 8 b62 (.int .i64 0) hs (hs.f.1) (fun A66 c67 w68 h69 hs => ?_)
                    refine lS hs [(3, .slice A66 ((L ++ [weightS (ss.getD k ost0).stp L]).length) c67, [])] ?_
                    refine lN ?_
                    refine CG.listed ?_
                    refine lS hs [(33, .int .i64 (k : Nat), [])] ?_
                    refine lIn 34 ((k : Nat) + 1) (k + 1) ?_
                    refine lS hs [(4, .int .i64 (k + 1 : Nat), [])] ?_
                    refine lD ?_
                    intro a_ ka
                    have q71 : (k + 1) ≤ ss.length := by omega
                    have q72 : (L ++ [weightS (ss.getD k ost0).stp L]).length = (k + 1) := by simp; omega
                    have q73 : Wts (L ++ [weightS (ss.getD k ost0).stp L]) (k + 1) := Wts.app hWt hll hws.1 (by omega)
                    have q74 : goS inp (ss.map OSt.stp) [] = goS inp ((ss.map OSt.stp).drop (k + 1)) (L ++ [weightS (ss.getD k ost0).stp L]) := hgo.trans ((goS_step (by rw [List.length_map]; omega) hll (by rw [stp_getD (by omega)]; exact ‹Formed inp k (ss.getD k ost0).stp›) (by rw [stp_getD (by omega)]; omega)).trans (by rw [stp_getD (by omega)]))
                    replace hs := hs.tl.tl.tl
                    replace hs := hs.drop 1 0
                    refine ⟨_, _, ?_, ⟨k + 1, A66, c67, L ++ [weightS (ss.getD k ost0).stp L], h69, rfl, rfl, hs.to _ _, q71, q72, q73, q74⟩, ka.to [(1, .pointer (some ⟨b1, 0, none⟩)), (4, .int .i64 ((k + 1) : Nat)), (3, .slice A66 (((L ++ [weightS (ss.getD k ost0).stp L])).length) c67)] (by kernel_rfl)⟩
                    omega
                  ·
                    have phb60 := of_decide_eq_true hb60
                    refine lB 79 hb60 ?_
                    refine lN ?_
                    refine cIT ?_
                    refine cSL ?_
                    refine lS hs [(2, .int .i64 18, [])] ?_
                    refine lN ?_
                    refine CG.ret ?_
                    exact hs.ret [] (.int .i64 18) (congrArg (Value.int .i64) ((chkTp_go hsh (by rw [hgo, goS_over (by rw [List.length_map]; omega) hll (by rw [stp_getD (by omega)]; exact ‹Formed inp k (ss.getD k ost0).stp›) (by rw [stp_getD (by omega)]; omega)]; decide)).trans (hgo.trans (goS_over (by rw [List.length_map]; omega) hll (by rw [stp_getD (by omega)]; exact ‹Formed inp k (ss.getD k ost0).stp›) (by rw [stp_getD (by omega)]; omega)))).symm)
              ·
                have phb35 := eq_of_beq hb35
                refine lB 48 hb35 ?_
                refine lS hs [(47, .bool true, [])] ?_
                refine lN ?_
                refine cIT ?_
                refine cR 10 [] mixed hs al_nil ?_
                refine eV 0 49 (.pointer (some ⟨b29, 0, none⟩)) ?_
                refine eO 1 50 [(0, 0, 1)] (.int .i64 ((ss.getD k ost0).op)) hs ?_
                refine eV 2 51 (.pointer (some ⟨b29, 3, none⟩)) ?_
                refine eO 3 52 [(0, 3, 1)] (.int .i64 ((ss.getD k ost0).n)) hs ?_
                refine eV 4 53 (.slice waA ((L).length) wac) ?_
                refine eV 5 54 (.pointer (some ⟨b29, 1, none⟩)) ?_
                refine eO 6 55 [(0, 1, 1)] (.int .i64 ((ss.getD k ost0).a)) hs ?_
                obtain ⟨bR75, hbR76⟩ := hs.rowA 0 (A := waA) (c := wac) (m := (L).length) (ty := 3) (sz := 1) (cs := (L).flatMap i64c) (by omega)
                subst hbR76
                refine eX 7 56 (some ⟨bR75, 0, none⟩) ((L).length) wac 1 ((ss.getD k ost0).a) ((ss.getD k ost0).a.toNat) rfl ?_
                refine eRq (ty := 3) (sz := 1) (c := wac) (m := (L).length) (b := bR75) (cs := (L).flatMap i64c) 8 57 0 (.int .i64 (L.getD ((ss.getD k ost0).a.toNat) 0)) (i64c (L.getD ((ss.getD k ost0).a.toNat) 0)) hs (row_el (f := i64c) (sz := 1) (fun _ => rfl) 0 L ((ss.getD k ost0).a.toNat) (by omega)) ?_
                refine eC 9 58 hs (fun _ _ hs => rWeigh (ss.getD k ost0).op (ss.getD k ost0).n (L.getD ((ss.getD k ost0).a.toNat) 0) (by omega) (by omega) _ _ hs.g) ?_
                rintro _ _ _ w77 h78 hs rfl
                refine eD0 hs (fun w79 h80 hs => ?_)
                refine tV 10 6 (.int .i64 (weighS (ss.getD k ost0).op (ss.getD k ost0).n (L.getD ((ss.getD k ost0).a.toNat) 0))) ?_
                refine tN ?_
                refine cTo [(1, .pointer (some ⟨b1, 0, none⟩)), (4, .int .i64 (k : Nat)), (3, .slice (some ⟨bR75, 0, none⟩) ((L).length) wac), (6, .int .i64 (weighS (ss.getD k ost0).op (ss.getD k ost0).n (L.getD ((ss.getD k ost0).a.toNat) 0)))] ?_
                refine CG.seq ?_
                refine cSL ?_
                have hX81 : (weighS (ss.getD k ost0).op (ss.getD k ost0).n (L.getD ((ss.getD k ost0).a.toNat) 0) : Int) = weightS (ss.getD k ost0).stp L := by rw [weigh_o hWt ‹Formed inp k (ss.getD k ost0).stp›]; (try unfold weighS); first | (rw [if_pos (show ari (ss.getD k ost0).op = 0 by omega)]) | (rw [if_neg (show ¬ ari (ss.getD k ost0).op = 0 by omega), if_neg (show ¬ ari (ss.getD k ost0).op = 2 by omega)]) | (rw [if_neg (show ¬ ari (ss.getD k ost0).op = 0 by omega), if_pos (show ari (ss.getD k ost0).op = 2 by omega), if_neg (show ¬ (ss.getD k ost0).op = 11 by omega), if_neg (show ¬ ((ss.getD k ost0).op = 8 ∧ (ss.getD k ost0).n ≠ 0) by omega)]; omega)
                refine lV 78 (.int .i64 (weightS (ss.getD k ost0).stp L)) ?_ (hr := rint (n := (weighS (ss.getD k ost0).op (ss.getD k ost0).n (L.getD ((ss.getD k ost0).a.toNat) 0) : Int)) (by kernel_rfl) hX81)
                cases hb82 : (decide ((65536 : Int) < (weightS (ss.getD k ost0).stp L : Int)))
                ·
                  have phb82 := of_decide_eq_false hb82
                  refine lB 79 hb82 ?_
                  refine lN ?_
                  refine cIF ?_
                  refine CG.skipN ?_
                  refine CG.listed ?_
                  refine lS hs [(80, .slice (some ⟨bR75, 0, none⟩) ((L).length) wac, [])] ?_
                  have hX83 : (weighS (ss.getD k ost0).op (ss.getD k ost0).n (L.getD ((ss.getD k ost0).a.toNat) 0) : Int) = weightS (ss.getD k ost0).stp L := by rw [weigh_o hWt ‹Formed inp k (ss.getD k ost0).stp›]; (try unfold weighS); first | (rw [if_pos (show ari (ss.getD k ost0).op = 0 by omega)]) | (rw [if_neg (show ¬ ari (ss.getD k ost0).op = 0 by omega), if_neg (show ¬ ari (ss.getD k ost0).op = 2 by omega)]) | (rw [if_neg (show ¬ ari (ss.getD k ost0).op = 0 by omega), if_pos (show ari (ss.getD k ost0).op = 2 by omega), if_neg (show ¬ (ss.getD k ost0).op = 11 by omega), if_neg (show ¬ ((ss.getD k ost0).op = 8 ∧ (ss.getD k ost0).n ≠ 0) by omega)]; omega)
                  refine lV 81 (.int .i64 (weightS (ss.getD k ost0).stp L)) ?_ (hr := rint (n := (weighS (ss.getD k ost0).op (ss.getD k ost0).n (L.getD ((ss.getD k ost0).a.toNat) 0) : Int)) (by kernel_rfl) hX83)
                  refine lR 82 3 1 ([.int .i64 (weightS (ss.getD k ost0).stp L)]) hs (fun b84 w85 h86 hs => ?_)
                  refine lY 83 0 3 1 wac (some ⟨bR75, 0, none⟩) L i64c (weightS (ss.getD k ost0).stp L) 8 b84 (.int .i64 0) hs (hs.f.1) (fun A88 c89 w90 h91 hs => ?_)
                  refine lS hs [(3, .slice A88 ((L ++ [weightS (ss.getD k ost0).stp L]).length) c89, [])] ?_
                  refine lN ?_
                  refine CG.listed ?_
                  refine lS hs [(33, .int .i64 (k : Nat), [])] ?_
                  refine lIn 34 ((k : Nat) + 1) (k + 1) ?_
                  refine lS hs [(4, .int .i64 (k + 1 : Nat), [])] ?_
                  refine lD ?_
                  intro a_ ka
                  have q93 : (k + 1) ≤ ss.length := by omega
                  have q94 : (L ++ [weightS (ss.getD k ost0).stp L]).length = (k + 1) := by simp; omega
                  have q95 : Wts (L ++ [weightS (ss.getD k ost0).stp L]) (k + 1) := Wts.app hWt hll hws.1 (by omega)
                  have q96 : goS inp (ss.map OSt.stp) [] = goS inp ((ss.map OSt.stp).drop (k + 1)) (L ++ [weightS (ss.getD k ost0).stp L]) := hgo.trans ((goS_step (by rw [List.length_map]; omega) hll (by rw [stp_getD (by omega)]; exact ‹Formed inp k (ss.getD k ost0).stp›) (by rw [stp_getD (by omega)]; omega)).trans (by rw [stp_getD (by omega)]))
                  replace hs := hs.tl.tl.tl
                  replace hs := hs.drop 1 0
                  refine ⟨_, _, ?_, ⟨k + 1, A88, c89, L ++ [weightS (ss.getD k ost0).stp L], h91, rfl, rfl, hs.to _ _, q93, q94, q95, q96⟩, ka.to [(1, .pointer (some ⟨b1, 0, none⟩)), (4, .int .i64 ((k + 1) : Nat)), (3, .slice A88 (((L ++ [weightS (ss.getD k ost0).stp L])).length) c89)] (by kernel_rfl)⟩
                  omega
                ·
                  have phb82 := of_decide_eq_true hb82
                  refine lB 79 hb82 ?_
                  refine lN ?_
                  refine cIT ?_
                  refine cSL ?_
                  refine lS hs [(2, .int .i64 18, [])] ?_
                  refine lN ?_
                  refine CG.ret ?_
                  exact hs.ret [] (.int .i64 18) (congrArg (Value.int .i64) ((chkTp_go hsh (by rw [hgo, goS_over (by rw [List.length_map]; omega) hll (by rw [stp_getD (by omega)]; exact ‹Formed inp k (ss.getD k ost0).stp›) (by rw [stp_getD (by omega)]; omega)]; decide)).trans (hgo.trans (goS_over (by rw [List.length_map]; omega) hll (by rw [stp_getD (by omega)]; exact ‹Formed inp k (ss.getD k ost0).stp›) (by rw [stp_getD (by omega)]; omega)))).symm)
        ·
          have phb7 := of_decide_eq_true hb7
          refine lB 26 hb7 ?_
          refine lS hs [(27, .bool true, [])] ?_
          refine lN ?_
          refine cTo [(1, .pointer (some ⟨b1, 0, none⟩)), (2, .int .i64 0), (27, .bool true)] ?_
          refine cIT ?_
          refine cSL ?_
          refine lS hs [(2, .int .i64 5, [])] ?_
          refine lN ?_
          refine CG.ret ?_
          exact hs.ret [] (.int .i64 5) (congrArg (Value.int .i64) (chkTp_shape (by rw [List.length_map]; omega)).symm)
      ·
        have phb6 := of_decide_eq_true hb6
        refine lB 20 hb6 ?_
        refine lS hs [(21, .bool true, []), (22, .bool true, [])] ?_
        refine lG 23 ?_
        refine lG 24 ?_
        refine lG 25 ?_
        refine lG 26 ?_
        refine lS hs [(27, .bool true, [])] ?_
        refine lN ?_
        refine cTo [(1, .pointer (some ⟨b1, 0, none⟩)), (2, .int .i64 0), (27, .bool true)] ?_
        refine cIT ?_
        refine cSL ?_
        refine lS hs [(2, .int .i64 5, [])] ?_
        refine lN ?_
        refine CG.ret ?_
        exact hs.ret [] (.int .i64 5) (congrArg (Value.int .i64) (chkTp_shape (by rw [List.length_map]; omega)).symm)
    ·
      have phb5 := of_decide_eq_true hb5
      refine lB 14 hb5 ?_
      refine lS hs [(15, .bool true, []), (16, .bool true, [])] ?_
      refine lG 17 ?_
      refine lG 18 ?_
      refine lG 19 ?_
      refine lG 20 ?_
      refine lS hs [(21, .bool true, []), (22, .bool true, [])] ?_
      refine lG 23 ?_
      refine lG 24 ?_
      refine lG 25 ?_
      refine lG 26 ?_
      refine lS hs [(27, .bool true, [])] ?_
      refine lN ?_
      refine cTo [(1, .pointer (some ⟨b1, 0, none⟩)), (2, .int .i64 0), (27, .bool true)] ?_
      refine cIT ?_
      refine cSL ?_
      refine lS hs [(2, .int .i64 5, [])] ?_
      refine lN ?_
      refine CG.ret ?_
      exact hs.ret [] (.int .i64 5) (congrArg (Value.int .i64) (chkTp_shape (by rw [List.length_map]; omega)).symm)
  ·
    have phb4 := of_decide_eq_true hb4
    refine lB 10 hb4 ?_
    refine lS hs [(11, .bool true, [])] ?_
    refine lG 12 ?_
    refine lG 13 ?_
    refine lG 14 ?_
    refine lS hs [(15, .bool true, []), (16, .bool true, [])] ?_
    refine lG 17 ?_
    refine lG 18 ?_
    refine lG 19 ?_
    refine lG 20 ?_
    refine lS hs [(21, .bool true, []), (22, .bool true, [])] ?_
    refine lG 23 ?_
    refine lG 24 ?_
    refine lG 25 ?_
    refine lG 26 ?_
    refine lS hs [(27, .bool true, [])] ?_
    refine lN ?_
    refine cTo [(1, .pointer (some ⟨b1, 0, none⟩)), (2, .int .i64 0), (27, .bool true)] ?_
    refine cIT ?_
    refine cSL ?_
    refine lS hs [(2, .int .i64 5, [])] ?_
    refine lN ?_
    refine CG.ret ?_
    exact hs.ret [] (.int .i64 5) (congrArg (Value.int .i64) (chkTp_shape (by rw [List.length_map]; omega)).symm)

end Go.Proofs.YtmkonbkdjmfjhaaGreatDoor
