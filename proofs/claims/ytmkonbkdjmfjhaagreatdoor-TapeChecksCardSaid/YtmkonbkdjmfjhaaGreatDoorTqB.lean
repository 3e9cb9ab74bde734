/- Contract of make.Tape. -/
import Derived.Test.YtmkonbkdjmfjhaaGreatDoorTqL
import Derived.Test.YtmkonbkdjmfjhaaGreatDoorZow
namespace Go.Proofs.YtmkonbkdjmfjhaaGreatDoor
open Go.RowKit


theorem handRq_small (n : Int) : iabs (handRq n).num < 1000 ∧ (handRq n).den < 1000 := by
  unfold handRq
  have l1 := pick_lt n 41 (by omega)
  have l2 := rDen_le (pick (n.tdiv 41) 6)
  obtain ⟨p1, p2, p3, p4⟩ := mkRat_parts ((pick n 41 : Int) - 20) (rDen (pick (n.tdiv 41) 6)) (rDen_pos _)
  rw [p1, p2]
  have q1 := iabs_div_le _ _ p3
  have q2 := Nat.div_le_self (rDen (pick (n.tdiv 41) 6)) (Nat.gcd (iabs ((pick n 41 : Int) - 20)) (rDen (pick (n.tdiv 41) 6)))
  have q3 : iabs ((pick n 41 : Int) - 20) ≤ 20 := by unfold iabs; omega
  exact ⟨by omega, by omega⟩
theorem outs_snoc {ol : List Int} {n : Int} {x : Int} (h : ∀ i, i < ol.length → 0 ≤ ol.getD i 0 ∧ ol.getD i 0 < n) (hx : 0 ≤ x ∧ x < n) : ∀ i, i < (ol ++ [x]).length → 0 ≤ (ol ++ [x]).getD i 0 ∧ (ol ++ [x]).getD i 0 < n := fun i hi => by
  rw [List.length_append, List.length_singleton] at hi
  rw [getD_snoc]
  by_cases e : i < ol.length
  · rw [if_pos e]; exact h i e
  · rw [if_neg e, if_pos (by omega)]; exact hx

set_option maxRecDepth 100000 in
set_option maxHeartbeats 600000 in
theorem mTape (A0 : Option Addr) (c0 : Nat) (zs : List Int) (hl0 : zs.length ≤ 9223372036854775807) (hz0 : I64s zs) (most : Nat) (hmost : most ≤ 20) (w : World) (h : Hp) (g : G w h) (hA0 : SlO 1 i64c 0 h A0 zs) :
    Calls Tryz.prog 5 #[.slice A0 zs.length c0, .int .i64 (most : Nat)] w (Ret w h fun v h1 => ∃ A c O d, ∃ ts : List RSt, ∃ ss : List OSt, ∃ os : List Int, v = .agg #[.int .i64 3, .slice A ts.length c, .slice O os.length d] ∧ ts.length ≤ c ∧ os.length ≤ d ∧ SlO 7 rsc rst0 h1 A ts ∧ RSs h1 ts ss ∧ SlO 1 i64c 0 h1 O os ∧ OSms ss ∧ ss.length ≤ most ∧ os.length ≤ 2 ∧ (∀ i, i < os.length → 0 ≤ os.getD i 0 ∧ os.getD i 0 < ss.length) ∧ (ss = [] → A = none ∧ c = 0 ∧ O = none ∧ d = 0 ∧ os = []) ∧ (ss ≠ [] → os ≠ [])) := by
  have hs := SS.start g
  replace hs := (hs.a_SlO hA0)
  refine go Tryz.func5 [(0, .slice A0 zs.length c0), (1, .int .i64 (most : Nat))] rfl ?_
  refine cSL ?_
  refine lA 4 25 ([.int .i64 0, .slice none 0 0, .slice none 0 0]) hs (fun b1 w2 h3 hs => ?_)
  refine lN ?_
  refine cSL ?_
  refine lS hs [(11, .slice A0 zs.length c0, []), (12, .agg #[.slice A0 zs.length c0, .int .i64 0], [])] ?_
  refine lA 13 51 ([.slice A0 zs.length c0, .int .i64 0]) hs (fun b4 w5 h6 hs => ?_)
  refine lS hs [(5, .pointer (some ⟨b4, 0, none⟩), [])] ?_
  refine lN ?_
  refine cSL ?_
  refine lS hs [(14, .agg #[.int .i64 3, .slice none 0 0, .slice none 0 0], [])] ?_
  refine lA 6 25 ([.int .i64 0, .slice none 0 0, .slice none 0 0]) hs (fun b7 w8 h9 hs => ?_)
  refine lP 0 0 ([.int .i64 3, .slice none 0 0, .slice none 0 0]) hs (fun w10 hs => ?_)
  refine lN ?_
  refine cSL ?_
  refine lS hs [(15, .pointer (some ⟨b4, 0, none⟩), [])] ?_
  refine lCm 16 (rNext A0 c0 zs hl0 hz0 b4 0 (by omega) _ _ hs.g (hs.own 1) (hs.jk 1) (hs.f.1)) ?_
  rintro _ w12 h13 u14 ⟨z11, at_z11, rfl, haz11, hzz11, hOz11⟩
  replace hs := (hs.stepM 1 u14 hOz11).to [⟨b7, 25, [.int .i64 3, .slice none 0 0, .slice none 0 0]⟩, ⟨b4, 51, [.slice A0 zs.length c0, .int .i64 (at_z11 : Nat)]⟩, ⟨b1, 25, [.int .i64 0, .slice none 0 0, .slice none 0 0]⟩] []
  refine lS hs [(17, .int .i64 (most : Nat), [])] ?_
  refine lIn 18 ((most : Nat) + 1) (most + 1) ?_
  refine lC 19 hs (hPick (z11) (most + 1) (by omega) (by omega) _ _ hs.g) ?_
  rintro _ w15 h16 hs rfl
  have lp1 := pick_lt (z11) (most + 1) (by omega)
  refine lS hs [(7, .int .i64 (pick (z11) (most + 1) : Nat), [])] ?_
  refine lN ?_
  refine CG.seq ?_
  refine cSL ?_
  refine lS hs [(8, .int .i64 0, [])] ?_
  refine lN ?_
  refine CG.block ?_
  replace hs := hs.nil 47 7
  refine cTo [(4, .pointer (some ⟨b1, 0, none⟩)), (5, .pointer (some ⟨b4, 0, none⟩)), (6, .pointer (some ⟨b7, 0, none⟩)), (7, .int .i64 (pick (z11) (most + 1) : Nat)), (8, .int .i64 0)] ?_
  replace hs := hs.add (K := fun h_ => RSs h_ ([]) ([])) (RSs.nil)
  refine CG.loop (fun μ_ Γ w_ => ∃ (k : Nat) (saA : Option Addr) (sac : Nat) (al : List RSt) (ss : List OSt) (at1 : Nat) (h_ : Hp), μ_ = (pick (z11) (most + 1)) - k ∧ Γ = [(4, .pointer (some ⟨b1, 0, none⟩)), (5, .pointer (some ⟨b4, 0, none⟩)), (6, .pointer (some ⟨b7, 0, none⟩)), (7, .int .i64 (pick (z11) (most + 1) : Nat)), (8, .int .i64 (k : Nat))] ∧ SS w h w_ h_ [⟨b7, 25, [.int .i64 3, .slice saA ((al).length) sac, .slice none 0 0]⟩, ⟨b4, 51, [.slice A0 zs.length c0, .int .i64 (at1 : Nat)]⟩, ⟨b1, 25, [.int .i64 0, .slice none 0 0, .slice none 0 0]⟩] [⟨47, 7, saA, sac, (al).length, (al).flatMap rsc⟩] [fun h_ => RSs h_ al ss, fun h_ => SlO 1 i64c 0 h_ A0 zs] ∧ (k ≤ (pick (z11) (most + 1))) ∧ (at1 ≤ zs.length) ∧ (ss.length = k) ∧ (k = 0 → saA = none ∧ sac = 0) ∧ (OSms ss)) _ ⟨0, none, 0, [], [], at_z11, h16, rfl, rfl, hs.to _ _, Nat.zero_le _, haz11, rfl, fun _ => ⟨rfl, rfl⟩, fun i hi => by simp at hi⟩ ?_
  rintro _ _ w17 ⟨k, saA, sac, al, ss, at1, h18, hm19, rfl, hs, hk, hat1, hsl, hA1, hSm⟩
  have hlT := (hs.f.1).len
  refine CG.seq ?_
  refine cSL ?_
  refine lS hs [(20, .int .i64 (k : Nat), []), (21, .int .i64 (pick (z11) (most + 1) : Nat), [])] ?_
  cases hb20 : (decide (((k : Nat) : Int) < ((pick (z11) (most + 1) : Nat) : Int)))
  ·
    have phb20 := of_decide_eq_false hb20
    refine lB 22 hb20 ?_
    refine lN ?_
    refine cIF ?_
    refine CG.exit ?_
    show CG _ _ _ _ _ _ _ _
    refine CG.seq ?_
    refine cSL ?_
    refine lS hs [(10, .int .i64 0, [])] ?_
    refine lN ?_
    refine CG.block ?_
    replace hs := hs.nil 3 1
    refine cTo [(4, .pointer (some ⟨b1, 0, none⟩)), (5, .pointer (some ⟨b4, 0, none⟩)), (6, .pointer (some ⟨b7, 0, none⟩)), (7, .int .i64 (pick (z11) (most + 1) : Nat)), (10, .int .i64 0)] ?_
    refine CG.loop (fun μ_ Γ w_ => ∃ (m : Nat) (soA : Option Addr) (soc : Nat) (ol : List Int) (at2 : Nat) (h_ : Hp), μ_ = 2 - m ∧ Γ = [(4, .pointer (some ⟨b1, 0, none⟩)), (5, .pointer (some ⟨b4, 0, none⟩)), (6, .pointer (some ⟨b7, 0, none⟩)), (7, .int .i64 (pick (z11) (most + 1) : Nat)), (10, .int .i64 (m : Nat))] ∧ SS w h w_ h_ [⟨b7, 25, [.int .i64 3, .slice saA ((al).length) sac, .slice soA ((ol).length) soc]⟩, ⟨b4, 51, [.slice A0 zs.length c0, .int .i64 (at2 : Nat)]⟩, ⟨b1, 25, [.int .i64 0, .slice none 0 0, .slice none 0 0]⟩] [⟨3, 1, soA, soc, (ol).length, (ol).flatMap i64c⟩, ⟨47, 7, saA, sac, (al).length, (al).flatMap rsc⟩] [fun h_ => RSs h_ al ss, fun h_ => SlO 1 i64c 0 h_ A0 zs] ∧ (m ≤ 2) ∧ (at2 ≤ zs.length) ∧ (ol.length = m) ∧ (m = 0 → soA = none ∧ soc = 0) ∧ (∀ i, i < ol.length → 0 ≤ ol.getD i 0 ∧ ol.getD i 0 < (pick (z11) (most + 1))) ∧ (0 < m → 0 < (pick (z11) (most + 1)))) _ ⟨0, none, 0, [], at1, h18, rfl, rfl, hs.to _ _, Nat.zero_le _, hat1, rfl, fun _ => ⟨rfl, rfl⟩, fun i hi => by simp at hi, fun h_ => absurd h_ (Nat.lt_irrefl 0)⟩ ?_
    rintro _ _ w21 ⟨m, soA, soc, ol, at2, h22, hm23, rfl, hs, hm, hat2, hol, hO1, hob, hm0⟩
    refine CG.seq ?_
    refine cSL ?_
    refine lS hs [(93, .int .i64 (m : Nat), [])] ?_
    cases hb24 : (decide (((m : Nat) : Int) < (2 : Int)))
    ·
      have phb24 := of_decide_eq_false hb24
      refine lB 94 hb24 ?_
      refine lS hs [(95, .bool false, [])] ?_
      refine lG 96 ?_
      refine lG 97 ?_
      refine lS hs [(98, .bool false, [])] ?_
      refine lN ?_
      refine cIF ?_
      refine CG.exit ?_
      show CG _ _ _ _ _ _ _ _
      refine cSL ?_
      obtain ⟨h25, hs, hc26⟩ := hs.pubr 1 (A := saA) (c := sac) (l := al) (f := rsc) (ty := 47) (sz := 7) rst0 (fun _ => rfl)
      obtain ⟨h28, hs, hc29⟩ := hs.pubr 0 (A := soA) (c := soc) (l := ol) (f := i64c) (ty := 3) (sz := 1) 0 (fun _ => rfl)
      refine lS hs [(113, .agg #[.int .i64 3, .slice saA ((al).length) sac, .slice soA ((ol).length) soc], [(0, 0, 3)])] ?_
      refine lP 2 0 ([.int .i64 3, .slice saA ((al).length) sac, .slice soA ((ol).length) soc]) hs (fun w31 hs => ?_)
      refine lN ?_
      refine CG.ret ?_
      exact hs.ret [(2, 0, 3)] (.agg #[.int .i64 3, .slice saA ((al).length) sac, .slice soA ((ol).length) soc]) (⟨_, _, _, _, al, ss, ol, rfl, hc26, hc29, (hs.f.2.1), (hs.f.2.2.1), (hs.f.1), hSm, by omega, by omega, fun i hi => by have := hob i hi; omega, fun h_ => by subst h_; have hk0 : k = 0 := hsl.symm; exact ⟨(hA1 hk0).1, (hA1 hk0).2, (hO1 (by omega)).1, (hO1 (by omega)).2, List.eq_nil_of_length_eq_zero (by omega)⟩, fun h_ h2_ => by subst h2_; apply h_; apply List.eq_nil_of_length_eq_zero; have hm00 : m = 0 := hol.symm; omega⟩)
    ·
      have phb24 := of_decide_eq_true hb24
      refine lB 94 hb24 ?_
      refine lS hs [(95, .bool true, []), (96, .int .i64 (pick (z11) (most + 1) : Nat), [])] ?_
      cases hb32 : (decide ((0 : Int) < ((pick (z11) (most + 1) : Nat) : Int)))
      ·
        have phb32 := of_decide_eq_false hb32
        refine lB 97 hb32 ?_
        refine lS hs [(98, .bool false, [])] ?_
        refine lN ?_
        refine cIF ?_
        refine CG.exit ?_
        show CG _ _ _ _ _ _ _ _
        refine cSL ?_
        obtain ⟨h33, hs, hc34⟩ := hs.pubr 1 (A := saA) (c := sac) (l := al) (f := rsc) (ty := 47) (sz := 7) rst0 (fun _ => rfl)
        obtain ⟨h36, hs, hc37⟩ := hs.pubr 0 (A := soA) (c := soc) (l := ol) (f := i64c) (ty := 3) (sz := 1) 0 (fun _ => rfl)
        refine lS hs [(113, .agg #[.int .i64 3, .slice saA ((al).length) sac, .slice soA ((ol).length) soc], [(0, 0, 3)])] ?_
        refine lP 2 0 ([.int .i64 3, .slice saA ((al).length) sac, .slice soA ((ol).length) soc]) hs (fun w39 hs => ?_)
        refine lN ?_
        refine CG.ret ?_
        exact hs.ret [(2, 0, 3)] (.agg #[.int .i64 3, .slice saA ((al).length) sac, .slice soA ((ol).length) soc]) (⟨_, _, _, _, al, ss, ol, rfl, hc34, hc37, (hs.f.2.1), (hs.f.2.2.1), (hs.f.1), hSm, by omega, by omega, fun i hi => by have := hob i hi; omega, fun h_ => by subst h_; have hk0 : k = 0 := hsl.symm; exact ⟨(hA1 hk0).1, (hA1 hk0).2, (hO1 (by omega)).1, (hO1 (by omega)).2, List.eq_nil_of_length_eq_zero (by omega)⟩, fun h_ h2_ => by subst h2_; apply h_; apply List.eq_nil_of_length_eq_zero; have hm00 : m = 0 := hol.symm; omega⟩)
      ·
        have phb32 := of_decide_eq_true hb32
        refine lB 97 hb32 ?_
        refine lS hs [(98, .bool true, [])] ?_
        refine lN ?_
        refine cIT ?_
        refine CG.skipN ?_
        refine CG.seq ?_
        refine CG.block ?_
        refine CG.region ⟨(b4 :: (Value.slice soA ((ol).length) soc).ownBlock.toList), none⟩ 11 [] mixed (by kernel_rfl) hs.g al_nil (hs.rb_lt 1 0 (rb := b4) (ty := 3) (sz := 1) (A := soA) (c := soc) (m := (ol).length) (cs := (ol).flatMap i64c)) ?_
        refine eV 0 101 (.pointer (some ⟨b7, 2, none⟩)) ?_
        refine eO 1 102 [(0, 2, 1)] (.slice soA ((ol).length) soc) hs ?_ (hM := fun p hp => by obtain rfl := List.mem_singleton.1 hp; exact hs.rb_ne 0 1 0 (rb := b4) (ty := 3) (sz := 1) (A := soA) (c := soc) (m := (ol).length) (cs := (ol).flatMap i64c))
        refine eV 2 103 (.int .i64 (pick (z11) (most + 1) : Nat)) ?_
        refine eI 3 104 ((pick (z11) (most + 1) : Nat) - 1) ?_
        refine eV 4 105 (.pointer (some ⟨b4, 0, none⟩)) ?_
        refine eV 6 107 (.int .i64 (pick (z11) (most + 1) : Nat)) ?_
        refine eCm 5 106 hs (List.mem_cons_self) (fun _ _ hs => rNext A0 c0 zs hl0 hz0 b4 at2 (by omega) _ _ hs.g (hs.own 1) (hs.jk 1) (hs.f.2.1)) ?_
        rintro _ _ _ w41 h42 hs u43 ⟨z40, at_z40, rfl, haz40, hzz40, hOz40⟩
        replace hs := (hs.stepM 1 u43 hOz40).to [⟨b7, 25, [.int .i64 3, .slice saA ((al).length) sac, .slice soA ((ol).length) soc]⟩, ⟨b4, 51, [.slice A0 zs.length c0, .int .i64 (at_z40 : Nat)]⟩, ⟨b1, 25, [.int .i64 0, .slice none 0 0, .slice none 0 0]⟩] [⟨3, 1, soA, soc, (ol).length, (ol).flatMap i64c⟩, ⟨47, 7, saA, sac, (al).length, (al).flatMap rsc⟩]
        refine eC 7 108 hs (fun _ _ hs => hPick (z40) (pick (z11) (most + 1)) (by omega) (by omega) _ _ hs.g) ?_
        rintro _ _ _ w44 h45 hs rfl
        have lp3 := pick_lt (z40) (pick (z11) (most + 1)) (by omega)
        refine eI 8 109 (((pick (z11) (most + 1) : Nat) - 1) - (pick (z40) (pick (z11) (most + 1)) : Nat)) ?_
        refine eR 9 110 3 1 ([.int .i64 (((pick (z11) (most + 1) : Nat) - 1) - (pick (z40) (pick (z11) (most + 1)) : Nat))]) hs (fun b46 w47 h48 hs => ?_)
        refine eY 10 111 0 3 1 soc soA ol i64c (((pick (z11) (most + 1) : Nat) - 1) - (pick (z40) (pick (z11) (most + 1)) : Nat) : Int) 8 b46 (.int .i64 0) hs (fun _ f_ => f_.1) (fun b hb => List.mem_cons_of_mem _ (Option.mem_toList.2 hb)) (fun A50 c51 w52 h53 hs => ?_)
        refine eD0 hs (fun w55 h56 hs => ?_)
        refine tV 11 112 (.pointer (some ⟨b7, 2, none⟩)) ?_
        refine tP 12 0 2 ([.slice A50 ((ol ++ [(((pick (z11) (most + 1) : Nat) - 1) - (pick (z40) (pick (z11) (most + 1)) : Nat) : Int)]).length) c51]) hs (fun w57 hs => ?_)
        refine tN ?_
        refine cTo [(4, .pointer (some ⟨b1, 0, none⟩)), (5, .pointer (some ⟨b4, 0, none⟩)), (6, .pointer (some ⟨b7, 0, none⟩)), (7, .int .i64 (pick (z11) (most + 1) : Nat)), (10, .int .i64 (m : Nat))] ?_
        refine CG.listed ?_
        refine lS hs [(99, .int .i64 (m : Nat), [])] ?_
        refine lIn 100 ((m : Nat) + 1) (m + 1) ?_
        refine lS hs [(10, .int .i64 (m + 1 : Nat), [])] ?_
        refine lD ?_
        intro a_ ka
        have q58 : (m + 1) ≤ 2 := by omega
        have q59 : at_z40 ≤ zs.length := haz40
        have q60 : (ol ++ [(((pick (z11) (most + 1) : Nat) - 1) - (pick (z40) (pick (z11) (most + 1)) : Nat) : Int)]).length = (m + 1) := by simp; omega
        have q61 : (m + 1) = 0 → A50 = none ∧ c51 = 0 := fun h_ => absurd h_ (by omega)
        have q62 : ∀ i, i < (ol ++ [(((pick (z11) (most + 1) : Nat) - 1) - (pick (z40) (pick (z11) (most + 1)) : Nat) : Int)]).length → 0 ≤ (ol ++ [(((pick (z11) (most + 1) : Nat) - 1) - (pick (z40) (pick (z11) (most + 1)) : Nat) : Int)]).getD i 0 ∧ (ol ++ [(((pick (z11) (most + 1) : Nat) - 1) - (pick (z40) (pick (z11) (most + 1)) : Nat) : Int)]).getD i 0 < (pick (z11) (most + 1)) := outs_snoc hob (by omega)
        have q63 : 0 < (m + 1) → 0 < (pick (z11) (most + 1)) := fun _ => by omega
        replace hs := hs.tl
        refine ⟨_, _, ?_, ⟨m + 1, A50, c51, ol ++ [(((pick (z11) (most + 1) : Nat) - 1) - (pick (z40) (pick (z11) (most + 1)) : Nat) : Int)], at_z40, h56, rfl, rfl, hs.to _ _, q58, q59, q60, q61, q62, q63⟩, ka.to [(4, .pointer (some ⟨b1, 0, none⟩)), (5, .pointer (some ⟨b4, 0, none⟩)), (6, .pointer (some ⟨b7, 0, none⟩)), (7, .int .i64 (pick (z11) (most + 1) : Nat)), (10, .int .i64 ((m + 1) : Nat))] (by kernel_rfl)⟩
        omega
  ·
    have phb20 := of_decide_eq_true hb20
    refine lB 22 hb20 ?_
    refine lN ?_
    refine cIT ?_
    refine CG.skipN ?_
    refine CG.seq ?_
    refine CG.block ?_
    refine cSL ?_
    refine lS hs [(25, .pointer (some ⟨b4, 0, none⟩), [])] ?_
    refine lCm 26 (rNext A0 c0 zs hl0 hz0 b4 at1 (by omega) _ _ hs.g (hs.own 1) (hs.jk 1) (hs.f.2.1)) ?_
    rintro _ w65 h66 u67 ⟨z64, at_z64, rfl, haz64, hzz64, hOz64⟩
    replace hs := (hs.stepM 1 u67 hOz64).to [⟨b7, 25, [.int .i64 3, .slice saA ((al).length) sac, .slice none 0 0]⟩, ⟨b4, 51, [.slice A0 zs.length c0, .int .i64 (at_z64 : Nat)]⟩, ⟨b1, 25, [.int .i64 0, .slice none 0 0, .slice none 0 0]⟩] [⟨47, 7, saA, sac, (al).length, (al).flatMap rsc⟩]
    refine lC 27 hs (hPick (z64) 15 (by omega) (by omega) _ _ hs.g) ?_
    rintro _ w68 h69 hs rfl
    have lp5 := pick_lt (z64) 15 (by omega)
    refine lS hs [(28, .agg #[.int .i64 (pick (z64) 15 : Nat), .int .i64 0, .int .i64 0, .int .i64 0, .bool false, .slice none 0 0, .slice none 0 0], [])] ?_
    refine lA 9 47 ([.int .i64 0, .int .i64 0, .int .i64 0, .int .i64 0, .bool false, .slice none 0 0, .slice none 0 0]) hs (fun b70 w71 h72 hs => ?_)
    refine lP 0 0 ([.int .i64 (pick (z64) 15 : Nat), .int .i64 0, .int .i64 0, .int .i64 0, .bool false, .slice none 0 0, .slice none 0 0]) hs (fun w73 hs => ?_)
    refine lN ?_
    refine CG.seq ?_
    refine cSL ?_
    refine lS hs [(29, .int .i64 (k : Nat), [])] ?_
    cases hb74 : (decide (((k : Nat) : Int) < (2 : Int)))
    ·
      have phb74 := of_decide_eq_false hb74
      refine lB 30 hb74 ?_
      refine lS hs [(31, .bool false, []), (32, .pointer (some ⟨b70, 0, none⟩), []), (33, .int .i64 (pick (z64) 15 : Nat), [(0, 0, 1)])] ?_
      cases hb75 : (decide ((14 : Int) ≤ ((pick (z64) 15 : Nat) : Int)))
      ·
        have phb75 := of_decide_eq_false hb75
        refine lB 34 hb75 ?_
        refine lS hs [(35, .bool false, [])] ?_
        refine lN ?_
        refine cTo [(4, .pointer (some ⟨b1, 0, none⟩)), (5, .pointer (some ⟨b4, 0, none⟩)), (6, .pointer (some ⟨b7, 0, none⟩)), (7, .int .i64 (pick (z11) (most + 1) : Nat)), (8, .int .i64 (k : Nat)), (9, .pointer (some ⟨b70, 0, none⟩)), (35, .bool false)] ?_
        refine cIF ?_
        refine CG.skipN ?_
        refine CG.seq ?_
        refine cSL ?_
        refine lS hs [(37, .pointer (some ⟨b70, 0, none⟩), []), (38, .int .i64 (pick (z64) 15 : Nat), [(0, 0, 1)])] ?_
        cases hb76 : (((pick (z64) 15 : Nat) : Int) == (0 : Int))
        ·
          have phb76 := neOfBeq hb76
          refine lB 39 hb76 ?_
          refine lN ?_
          refine cIF ?_
          refine CG.skipN ?_
          refine CG.seq ?_
          refine cSL ?_
          refine lS hs [(41, .pointer (some ⟨b70, 0, none⟩), []), (42, .int .i64 (pick (z64) 15 : Nat), [(0, 0, 1)])] ?_
          refine lN ?_
          refine CG.block ?_
          refine cSL ?_
          cases hb77 : (((pick (z64) 15 : Nat) : Int) == (1 : Int))
          ·
            have phb77 := neOfBeq hb77
            refine lB 54 hb77 ?_
            refine lS hs [(53, .bool false, [])] ?_
            refine lN ?_
            refine cIF ?_
            refine cSL ?_
            cases hb78 : (((pick (z64) 15 : Nat) : Int) == (2 : Int))
            ·
              have phb78 := neOfBeq hb78
              refine lB 60 hb78 ?_
              refine lS hs [(59, .bool false, [])] ?_
              refine lN ?_
              refine cIF ?_
              refine cSL ?_
              cases hb79 : (((pick (z64) 15 : Nat) : Int) == (8 : Int))
              ·
                have phb79 := neOfBeq hb79
                refine lB 66 hb79 ?_
                refine lS hs [(65, .bool false, [])] ?_
                refine lN ?_
                refine cIF ?_
                refine CG.seq ?_
                refine cSL ?_
                cases hb80 : (((pick (z64) 15 : Nat) : Int) == (7 : Int))
                ·
                  have phb80 := neOfBeq hb80
                  refine lB 78 hb80 ?_
                  refine lS hs [(77, .bool false, [])] ?_
                  refine lN ?_
                  refine cIF ?_
                  refine cSL ?_
                  cases hb81 : (((pick (z64) 15 : Nat) : Int) == (9 : Int))
                  ·
                    have phb81 := neOfBeq hb81
                    refine lB 79 hb81 ?_
                    refine lS hs [(77, .bool false, [])] ?_
                    refine lN ?_
                    refine cTo [(4, .pointer (some ⟨b1, 0, none⟩)), (5, .pointer (some ⟨b4, 0, none⟩)), (6, .pointer (some ⟨b7, 0, none⟩)), (7, .int .i64 (pick (z11) (most + 1) : Nat)), (8, .int .i64 (k : Nat)), (9, .pointer (some ⟨b70, 0, none⟩)), (42, .int .i64 (pick (z64) 15 : Nat)), (77, .bool false)] ?_
                    refine cIF ?_
                    refine cSL ?_
                    cases hb82 : (((pick (z64) 15 : Nat) : Int) == (10 : Int))
                    ·
                      have phb82 := neOfBeq hb82
                      refine lB 80 hb82 ?_
                      refine lS hs [(77, .bool false, [])] ?_
                      refine lN ?_
                      refine cIF ?_
                      refine CG.listed ?_
                      cases hb83 : (((pick (z64) 15 : Nat) : Int) == (11 : Int))
                      ·
                        have phb83 := neOfBeq hb83
                        refine lB 81 hb83 ?_
                        refine lS hs [(77, .bool false, [])] ?_
                        refine lN ?_
                        refine cIF ?_
                        refine cSL ?_
                        refine lS hs [(43, .pointer (some ⟨b4, 0, none⟩), [])] ?_
                        refine lCm 44 (rNext A0 c0 zs hl0 hz0 b4 at_z64 (by omega) _ _ hs.g (hs.own 2) (hs.jk 2) (hs.f.2.1)) ?_
                        rintro _ w85 h86 u87 ⟨z84, at_z84, rfl, haz84, hzz84, hOz84⟩
                        replace hs := (hs.stepM 2 u87 hOz84).to [⟨b70, 47, [.int .i64 (pick (z64) 15 : Nat), .int .i64 0, .int .i64 0, .int .i64 0, .bool false, .slice none 0 0, .slice none 0 0]⟩, ⟨b7, 25, [.int .i64 3, .slice saA ((al).length) sac, .slice none 0 0]⟩, ⟨b4, 51, [.slice A0 zs.length c0, .int .i64 (at_z84 : Nat)]⟩, ⟨b1, 25, [.int .i64 0, .slice none 0 0, .slice none 0 0]⟩] [⟨47, 7, saA, sac, (al).length, (al).flatMap rsc⟩]
                        refine lS hs [(45, .int .i64 (k : Nat), [])] ?_
                        refine lC 46 hs (hPick (z84) k (by omega) (by omega) _ _ hs.g) ?_
                        rintro _ w88 h89 hs rfl
                        have lp7 := pick_lt (z84) k (by omega)
                        refine lS hs [(47, .pointer (some ⟨b70, 1, none⟩), [])] ?_
                        refine lP 0 1 ([.int .i64 (pick (z84) k : Nat)]) hs (fun w90 hs => ?_)
                        refine lN ?_
                        refine CG.listed ?_
                        refine lS hs [(48, .pointer (some ⟨b4, 0, none⟩), [])] ?_
                        refine lCm 49 (rNext A0 c0 zs hl0 hz0 b4 at_z84 (by omega) _ _ hs.g (hs.own 2) (hs.jk 2) (hs.f.2.1)) ?_
                        rintro _ w92 h93 u94 ⟨z91, at_z91, rfl, haz91, hzz91, hOz91⟩
                        replace hs := (hs.stepM 2 u94 hOz91).to [⟨b70, 47, [.int .i64 (pick (z64) 15 : Nat), .int .i64 (pick (z84) k : Nat), .int .i64 0, .int .i64 0, .bool false, .slice none 0 0, .slice none 0 0]⟩, ⟨b7, 25, [.int .i64 3, .slice saA ((al).length) sac, .slice none 0 0]⟩, ⟨b4, 51, [.slice A0 zs.length c0, .int .i64 (at_z91 : Nat)]⟩, ⟨b1, 25, [.int .i64 0, .slice none 0 0, .slice none 0 0]⟩] [⟨47, 7, saA, sac, (al).length, (al).flatMap rsc⟩]
                        refine lS hs [(50, .int .i64 (k : Nat), [])] ?_
                        refine lC 51 hs (hPick (z91) k (by omega) (by omega) _ _ hs.g) ?_
                        rintro _ w95 h96 hs rfl
                        have lp9 := pick_lt (z91) k (by omega)
                        refine lS hs [(52, .pointer (some ⟨b70, 2, none⟩), [])] ?_
                        refine lP 0 2 ([.int .i64 (pick (z91) k : Nat)]) hs (fun w97 hs => ?_)
                        refine lN ?_
                        refine cTo [(4, .pointer (some ⟨b1, 0, none⟩)), (5, .pointer (some ⟨b4, 0, none⟩)), (6, .pointer (some ⟨b7, 0, none⟩)), (7, .int .i64 (pick (z11) (most + 1) : Nat)), (8, .int .i64 (k : Nat)), (9, .pointer (some ⟨b70, 0, none⟩))] ?_
                        refine CG.listed ?_
                        replace hs := hs.add (K := fun h_ => RS1 h_ (⟨(pick (z64) 15 : Nat), (pick (z84) k : Nat), (pick (z91) k : Nat), 0, (false, .slice none 0 0, .slice none 0 0)⟩ : RSt) (⟨(pick (z64) 15 : Nat), (pick (z84) k : Nat), (pick (z91) k : Nat), 0, 0, false⟩ : OSt)) (⟨rfl, rfl, rfl, rfl, ⟨none, 0, none, 0, rfl, Nat.le_refl _, Nat.le_refl _, SlO.nil, SlO.nil⟩, fun _ => rfl⟩)
                        have hmo1 : OSm (⟨(pick (z64) 15 : Nat), (pick (z84) k : Nat), (pick (z91) k : Nat), 0, 0, false⟩ : OSt) := ⟨by dsimp only; omega, by dsimp only; omega, by dsimp only; omega, by dsimp only; omega, by dsimp only; decide +kernel⟩
                        refine lS hs [(87, .pointer (some ⟨b7, 1, none⟩), []), (88, .slice saA ((al).length) sac, [(1, 1, 1)]), (89, .agg #[.int .i64 (pick (z64) 15 : Nat), .int .i64 (pick (z84) k : Nat), .int .i64 (pick (z91) k : Nat), .int .i64 0, .bool false, .slice none 0 0, .slice none 0 0], [(0, 0, 7)])] ?_
                        refine lR 90 47 1 ([.int .i64 (pick (z64) 15 : Nat), .int .i64 (pick (z84) k : Nat), .int .i64 (pick (z91) k : Nat), .int .i64 0, .bool false, .slice none 0 0, .slice none 0 0]) hs (fun b98 w99 h100 hs => ?_)
                        refine lY 91 0 47 7 sac saA al rsc (⟨(pick (z64) 15 : Nat), (pick (z84) k : Nat), (pick (z91) k : Nat), 0, (false, .slice none 0 0, .slice none 0 0)⟩ : RSt) 88 b98 (.agg #[.int .i64 0, .int .i64 0, .int .i64 0, .int .i64 0, .bool false, .slice none 0 0, .slice none 0 0]) hs (hs.f.1) (fun A102 c103 w104 h105 hs => ?_)
                        refine lS hs [(92, .pointer (some ⟨b7, 1, none⟩), [])] ?_
                        refine lP 1 1 ([.slice A102 ((al ++ [(⟨(pick (z64) 15 : Nat), (pick (z84) k : Nat), (pick (z91) k : Nat), 0, (false, .slice none 0 0, .slice none 0 0)⟩ : RSt)]).length) c103]) hs (fun w107 hs => ?_)
                        refine lN ?_
                        refine CG.listed ?_
                        refine lS hs [(23, .int .i64 (k : Nat), [])] ?_
                        refine lIn 24 ((k : Nat) + 1) (k + 1) ?_
                        refine lS hs [(8, .int .i64 (k + 1 : Nat), [])] ?_
                        refine lD ?_
                        intro a_ ka
                        have q108 : RSs h105 (al ++ [(⟨(pick (z64) 15 : Nat), (pick (z84) k : Nat), (pick (z91) k : Nat), 0, (false, .slice none 0 0, .slice none 0 0)⟩ : RSt)]) (ss ++ [(⟨(pick (z64) 15 : Nat), (pick (z84) k : Nat), (pick (z91) k : Nat), 0, 0, false⟩ : OSt)]) := (hs.f.2.2.1).snoc (hs.f.2.1)
                        have q109 : (k + 1) ≤ (pick (z11) (most + 1)) := by omega
                        have q110 : at_z91 ≤ zs.length := haz91
                        have q111 : (ss ++ [(⟨(pick (z64) 15 : Nat), (pick (z84) k : Nat), (pick (z91) k : Nat), 0, 0, false⟩ : OSt)]).length = (k + 1) := by simp; omega
                        have q112 : (k + 1) = 0 → A102 = none ∧ c103 = 0 := fun h_ => absurd h_ (by omega)
                        have q113 : OSms (ss ++ [(⟨(pick (z64) 15 : Nat), (pick (z84) k : Nat), (pick (z91) k : Nat), 0, 0, false⟩ : OSt)]) := hSm.snoc hmo1
                        replace hs := (hs.tl.tl.tl.add (K := fun h_ => RSs h_ (al ++ [(⟨(pick (z64) 15 : Nat), (pick (z84) k : Nat), (pick (z91) k : Nat), 0, (false, .slice none 0 0, .slice none 0 0)⟩ : RSt)]) (ss ++ [(⟨(pick (z64) 15 : Nat), (pick (z84) k : Nat), (pick (z91) k : Nat), 0, 0, false⟩ : OSt)])) q108)
                        replace hs := hs.drop 1 0
                        refine ⟨_, _, ?_, ⟨k + 1, A102, c103, al ++ [(⟨(pick (z64) 15 : Nat), (pick (z84) k : Nat), (pick (z91) k : Nat), 0, (false, .slice none 0 0, .slice none 0 0)⟩ : RSt)], ss ++ [(⟨(pick (z64) 15 : Nat), (pick (z84) k : Nat), (pick (z91) k : Nat), 0, 0, false⟩ : OSt)], at_z91, h105, rfl, rfl, hs.to _ _, q109, q110, q111, q112, q113⟩, ka.to [(4, .pointer (some ⟨b1, 0, none⟩)), (5, .pointer (some ⟨b4, 0, none⟩)), (6, .pointer (some ⟨b7, 0, none⟩)), (7, .int .i64 (pick (z11) (most + 1) : Nat)), (8, .int .i64 ((k + 1) : Nat))] (by kernel_rfl)⟩
                        omega
                      ·
                        have phb83 := eq_of_beq hb83
                        refine lB 81 hb83 ?_
                        refine lS hs [(77, .bool true, [])] ?_
                        refine lN ?_
                        refine cIT ?_
                        refine CG.listed ?_
                        refine lS hs [(82, .pointer (some ⟨b4, 0, none⟩), [])] ?_
                        refine lCm 83 (rNext A0 c0 zs hl0 hz0 b4 at_z64 (by omega) _ _ hs.g (hs.own 2) (hs.jk 2) (hs.f.2.1)) ?_
                        rintro _ w115 h116 u117 ⟨z114, at_z114, rfl, haz114, hzz114, hOz114⟩
                        replace hs := (hs.stepM 2 u117 hOz114).to [⟨b70, 47, [.int .i64 (pick (z64) 15 : Nat), .int .i64 0, .int .i64 0, .int .i64 0, .bool false, .slice none 0 0, .slice none 0 0]⟩, ⟨b7, 25, [.int .i64 3, .slice saA ((al).length) sac, .slice none 0 0]⟩, ⟨b4, 51, [.slice A0 zs.length c0, .int .i64 (at_z114 : Nat)]⟩, ⟨b1, 25, [.int .i64 0, .slice none 0 0, .slice none 0 0]⟩] [⟨47, 7, saA, sac, (al).length, (al).flatMap rsc⟩]
                        refine lS hs [(84, .int .i64 (k : Nat), [])] ?_
                        refine lC 85 hs (hPick (z114) k (by omega) (by omega) _ _ hs.g) ?_
                        rintro _ w118 h119 hs rfl
                        have lp11 := pick_lt (z114) k (by omega)
                        refine lS hs [(86, .pointer (some ⟨b70, 1, none⟩), [])] ?_
                        refine lP 0 1 ([.int .i64 (pick (z114) k : Nat)]) hs (fun w120 hs => ?_)
                        refine lN ?_
                        refine CG.listed ?_
                        replace hs := hs.add (K := fun h_ => RS1 h_ (⟨(pick (z64) 15 : Nat), (pick (z114) k : Nat), 0, 0, (false, .slice none 0 0, .slice none 0 0)⟩ : RSt) (⟨(pick (z64) 15 : Nat), (pick (z114) k : Nat), 0, 0, 0, false⟩ : OSt)) (⟨rfl, rfl, rfl, rfl, ⟨none, 0, none, 0, rfl, Nat.le_refl _, Nat.le_refl _, SlO.nil, SlO.nil⟩, fun _ => rfl⟩)
                        have hmo1 : OSm (⟨(pick (z64) 15 : Nat), (pick (z114) k : Nat), 0, 0, 0, false⟩ : OSt) := ⟨by dsimp only; omega, by dsimp only; omega, by dsimp only; omega, by dsimp only; omega, by dsimp only; decide +kernel⟩
                        refine lS hs [(87, .pointer (some ⟨b7, 1, none⟩), []), (88, .slice saA ((al).length) sac, [(1, 1, 1)]), (89, .agg #[.int .i64 (pick (z64) 15 : Nat), .int .i64 (pick (z114) k : Nat), .int .i64 0, .int .i64 0, .bool false, .slice none 0 0, .slice none 0 0], [(0, 0, 7)])] ?_
                        refine lR 90 47 1 ([.int .i64 (pick (z64) 15 : Nat), .int .i64 (pick (z114) k : Nat), .int .i64 0, .int .i64 0, .bool false, .slice none 0 0, .slice none 0 0]) hs (fun b121 w122 h123 hs => ?_)
                        refine lY 91 0 47 7 sac saA al rsc (⟨(pick (z64) 15 : Nat), (pick (z114) k : Nat), 0, 0, (false, .slice none 0 0, .slice none 0 0)⟩ : RSt) 88 b121 (.agg #[.int .i64 0, .int .i64 0, .int .i64 0, .int .i64 0, .bool false, .slice none 0 0, .slice none 0 0]) hs (hs.f.1) (fun A125 c126 w127 h128 hs => ?_)
                        refine lS hs [(92, .pointer (some ⟨b7, 1, none⟩), [])] ?_
                        refine lP 1 1 ([.slice A125 ((al ++ [(⟨(pick (z64) 15 : Nat), (pick (z114) k : Nat), 0, 0, (false, .slice none 0 0, .slice none 0 0)⟩ : RSt)]).length) c126]) hs (fun w130 hs => ?_)
                        refine lN ?_
                        refine cTo [(4, .pointer (some ⟨b1, 0, none⟩)), (5, .pointer (some ⟨b4, 0, none⟩)), (6, .pointer (some ⟨b7, 0, none⟩)), (7, .int .i64 (pick (z11) (most + 1) : Nat)), (8, .int .i64 (k : Nat))] ?_
                        refine CG.listed ?_
                        refine lS hs [(23, .int .i64 (k : Nat), [])] ?_
                        refine lIn 24 ((k : Nat) + 1) (k + 1) ?_
                        refine lS hs [(8, .int .i64 (k + 1 : Nat), [])] ?_
                        refine lD ?_
                        intro a_ ka
                        have q131 : RSs h128 (al ++ [(⟨(pick (z64) 15 : Nat), (pick (z114) k : Nat), 0, 0, (false, .slice none 0 0, .slice none 0 0)⟩ : RSt)]) (ss ++ [(⟨(pick (z64) 15 : Nat), (pick (z114) k : Nat), 0, 0, 0, false⟩ : OSt)]) := (hs.f.2.2.1).snoc (hs.f.2.1)
                        have q132 : (k + 1) ≤ (pick (z11) (most + 1)) := by omega
                        have q133 : at_z114 ≤ zs.length := haz114
                        have q134 : (ss ++ [(⟨(pick (z64) 15 : Nat), (pick (z114) k : Nat), 0, 0, 0, false⟩ : OSt)]).length = (k + 1) := by simp; omega
                        have q135 : (k + 1) = 0 → A125 = none ∧ c126 = 0 := fun h_ => absurd h_ (by omega)
                        have q136 : OSms (ss ++ [(⟨(pick (z64) 15 : Nat), (pick (z114) k : Nat), 0, 0, 0, false⟩ : OSt)]) := hSm.snoc hmo1
                        replace hs := (hs.tl.tl.tl.add (K := fun h_ => RSs h_ (al ++ [(⟨(pick (z64) 15 : Nat), (pick (z114) k : Nat), 0, 0, (false, .slice none 0 0, .slice none 0 0)⟩ : RSt)]) (ss ++ [(⟨(pick (z64) 15 : Nat), (pick (z114) k : Nat), 0, 0, 0, false⟩ : OSt)])) q131)
                        replace hs := hs.drop 1 0
                        refine ⟨_, _, ?_, ⟨k + 1, A125, c126, al ++ [(⟨(pick (z64) 15 : Nat), (pick (z114) k : Nat), 0, 0, (false, .slice none 0 0, .slice none 0 0)⟩ : RSt)], ss ++ [(⟨(pick (z64) 15 : Nat), (pick (z114) k : Nat), 0, 0, 0, false⟩ : OSt)], at_z114, h128, rfl, rfl, hs.to _ _, q132, q133, q134, q135, q136⟩, ka.to [(4, .pointer (some ⟨b1, 0, none⟩)), (5, .pointer (some ⟨b4, 0, none⟩)), (6, .pointer (some ⟨b7, 0, none⟩)), (7, .int .i64 (pick (z11) (most + 1) : Nat)), (8, .int .i64 ((k + 1) : Nat))] (by kernel_rfl)⟩
                        omega
                    ·
                      have phb82 := eq_of_beq hb82
                      refine lB 80 hb82 ?_
                      refine lS hs [(77, .bool true, [])] ?_
                      refine lN ?_
                      refine cIT ?_
                      refine CG.skipN ?_
                      refine cIT ?_
                      refine CG.listed ?_
                      refine lS hs [(82, .pointer (some ⟨b4, 0, none⟩), [])] ?_
                      refine lCm 83 (rNext A0 c0 zs hl0 hz0 b4 at_z64 (by omega) _ _ hs.g (hs.own 2) (hs.jk 2) (hs.f.2.1)) ?_
                      rintro _ w138 h139 u140 ⟨z137, at_z137, rfl, haz137, hzz137, hOz137⟩
                      replace hs := (hs.stepM 2 u140 hOz137).to [⟨b70, 47, [.int .i64 (pick (z64) 15 : Nat), .int .i64 0, .int .i64 0, .int .i64 0, .bool false, .slice none 0 0, .slice none 0 0]⟩, ⟨b7, 25, [.int .i64 3, .slice saA ((al).length) sac, .slice none 0 0]⟩, ⟨b4, 51, [.slice A0 zs.length c0, .int .i64 (at_z137 : Nat)]⟩, ⟨b1, 25, [.int .i64 0, .slice none 0 0, .slice none 0 0]⟩] [⟨47, 7, saA, sac, (al).length, (al).flatMap rsc⟩]
                      refine lS hs [(84, .int .i64 (k : Nat), [])] ?_
                      refine lC 85 hs (hPick (z137) k (by omega) (by omega) _ _ hs.g) ?_
                      rintro _ w141 h142 hs rfl
                      have lp13 := pick_lt (z137) k (by omega)
                      refine lS hs [(86, .pointer (some ⟨b70, 1, none⟩), [])] ?_
                      refine lP 0 1 ([.int .i64 (pick (z137) k : Nat)]) hs (fun w143 hs => ?_)
                      refine lN ?_
                      refine CG.listed ?_
                      replace hs := hs.add (K := fun h_ => RS1 h_ (⟨(pick (z64) 15 : Nat), (pick (z137) k : Nat), 0, 0, (false, .slice none 0 0, .slice none 0 0)⟩ : RSt) (⟨(pick (z64) 15 : Nat), (pick (z137) k : Nat), 0, 0, 0, false⟩ : OSt)) (⟨rfl, rfl, rfl, rfl, ⟨none, 0, none, 0, rfl, Nat.le_refl _, Nat.le_refl _, SlO.nil, SlO.nil⟩, fun _ => rfl⟩)
                      have hmo1 : OSm (⟨(pick (z64) 15 : Nat), (pick (z137) k : Nat), 0, 0, 0, false⟩ : OSt) := ⟨by dsimp only; omega, by dsimp only; omega, by dsimp only; omega, by dsimp only; omega, by dsimp only; decide +kernel⟩
                      refine lS hs [(87, .pointer (some ⟨b7, 1, none⟩), []), (88, .slice saA ((al).length) sac, [(1, 1, 1)]), (89, .agg #[.int .i64 (pick (z64) 15 : Nat), .int .i64 (pick (z137) k : Nat), .int .i64 0, .int .i64 0, .bool false, .slice none 0 0, .slice none 0 0], [(0, 0, 7)])] ?_
                      refine lR 90 47 1 ([.int .i64 (pick (z64) 15 : Nat), .int .i64 (pick (z137) k : Nat), .int .i64 0, .int .i64 0, .bool false, .slice none 0 0, .slice none 0 0]) hs (fun b144 w145 h146 hs => ?_)
                      refine lY 91 0 47 7 sac saA al rsc (⟨(pick (z64) 15 : Nat), (pick (z137) k : Nat), 0, 0, (false, .slice none 0 0, .slice none 0 0)⟩ : RSt) 88 b144 (.agg #[.int .i64 0, .int .i64 0, .int .i64 0, .int .i64 0, .bool false, .slice none 0 0, .slice none 0 0]) hs (hs.f.1) (fun A148 c149 w150 h151 hs => ?_)
                      refine lS hs [(92, .pointer (some ⟨b7, 1, none⟩), [])] ?_
                      refine lP 1 1 ([.slice A148 ((al ++ [(⟨(pick (z64) 15 : Nat), (pick (z137) k : Nat), 0, 0, (false, .slice none 0 0, .slice none 0 0)⟩ : RSt)]).length) c149]) hs (fun w153 hs => ?_)
                      refine lN ?_
                      refine cTo [(4, .pointer (some ⟨b1, 0, none⟩)), (5, .pointer (some ⟨b4, 0, none⟩)), (6, .pointer (some ⟨b7, 0, none⟩)), (7, .int .i64 (pick (z11) (most + 1) : Nat)), (8, .int .i64 (k : Nat))] ?_
                      refine CG.listed ?_
                      refine lS hs [(23, .int .i64 (k : Nat), [])] ?_
                      refine lIn 24 ((k : Nat) + 1) (k + 1) ?_
                      refine lS hs [(8, .int .i64 (k + 1 : Nat), [])] ?_
                      refine lD ?_
                      intro a_ ka
                      have q154 : RSs h151 (al ++ [(⟨(pick (z64) 15 : Nat), (pick (z137) k : Nat), 0, 0, (false, .slice none 0 0, .slice none 0 0)⟩ : RSt)]) (ss ++ [(⟨(pick (z64) 15 : Nat), (pick (z137) k : Nat), 0, 0, 0, false⟩ : OSt)]) := (hs.f.2.2.1).snoc (hs.f.2.1)
                      have q155 : (k + 1) ≤ (pick (z11) (most + 1)) := by omega
                      have q156 : at_z137 ≤ zs.length := haz137
                      have q157 : (ss ++ [(⟨(pick (z64) 15 : Nat), (pick (z137) k : Nat), 0, 0, 0, false⟩ : OSt)]).length = (k + 1) := by simp; omega
                      have q158 : (k + 1) = 0 → A148 = none ∧ c149 = 0 := fun h_ => absurd h_ (by omega)
                      have q159 : OSms (ss ++ [(⟨(pick (z64) 15 : Nat), (pick (z137) k : Nat), 0, 0, 0, false⟩ : OSt)]) := hSm.snoc hmo1
                      replace hs := (hs.tl.tl.tl.add (K := fun h_ => RSs h_ (al ++ [(⟨(pick (z64) 15 : Nat), (pick (z137) k : Nat), 0, 0, (false, .slice none 0 0, .slice none 0 0)⟩ : RSt)]) (ss ++ [(⟨(pick (z64) 15 : Nat), (pick (z137) k : Nat), 0, 0, 0, false⟩ : OSt)])) q154)
                      replace hs := hs.drop 1 0
                      refine ⟨_, _, ?_, ⟨k + 1, A148, c149, al ++ [(⟨(pick (z64) 15 : Nat), (pick (z137) k : Nat), 0, 0, (false, .slice none 0 0, .slice none 0 0)⟩ : RSt)], ss ++ [(⟨(pick (z64) 15 : Nat), (pick (z137) k : Nat), 0, 0, 0, false⟩ : OSt)], at_z137, h151, rfl, rfl, hs.to _ _, q155, q156, q157, q158, q159⟩, ka.to [(4, .pointer (some ⟨b1, 0, none⟩)), (5, .pointer (some ⟨b4, 0, none⟩)), (6, .pointer (some ⟨b7, 0, none⟩)), (7, .int .i64 (pick (z11) (most + 1) : Nat)), (8, .int .i64 ((k + 1) : Nat))] (by kernel_rfl)⟩
                      omega
                  ·
                    have phb81 := eq_of_beq hb81
                    refine lB 79 hb81 ?_
                    refine lS hs [(77, .bool true, [])] ?_
                    refine lN ?_
                    refine cTo [(4, .pointer (some ⟨b1, 0, none⟩)), (5, .pointer (some ⟨b4, 0, none⟩)), (6, .pointer (some ⟨b7, 0, none⟩)), (7, .int .i64 (pick (z11) (most + 1) : Nat)), (8, .int .i64 (k : Nat)), (9, .pointer (some ⟨b70, 0, none⟩)), (42, .int .i64 (pick (z64) 15 : Nat)), (77, .bool true)] ?_
                    refine cIT ?_
                    refine CG.skipN ?_
                    refine cIT ?_
                    refine CG.listed ?_
                    refine lS hs [(82, .pointer (some ⟨b4, 0, none⟩), [])] ?_
                    refine lCm 83 (rNext A0 c0 zs hl0 hz0 b4 at_z64 (by omega) _ _ hs.g (hs.own 2) (hs.jk 2) (hs.f.2.1)) ?_
                    rintro _ w161 h162 u163 ⟨z160, at_z160, rfl, haz160, hzz160, hOz160⟩
                    replace hs := (hs.stepM 2 u163 hOz160).to [⟨b70, 47, [.int .i64 (pick (z64) 15 : Nat), .int .i64 0, .int .i64 0, .int .i64 0, .bool false, .slice none 0 0, .slice none 0 0]⟩, ⟨b7, 25, [.int .i64 3, .slice saA ((al).length) sac, .slice none 0 0]⟩, ⟨b4, 51, [.slice A0 zs.length c0, .int .i64 (at_z160 : Nat)]⟩, ⟨b1, 25, [.int .i64 0, .slice none 0 0, .slice none 0 0]⟩] [⟨47, 7, saA, sac, (al).length, (al).flatMap rsc⟩]
                    refine lS hs [(84, .int .i64 (k : Nat), [])] ?_
                    refine lC 85 hs (hPick (z160) k (by omega) (by omega) _ _ hs.g) ?_
                    rintro _ w164 h165 hs rfl
                    have lp15 := pick_lt (z160) k (by omega)
                    refine lS hs [(86, .pointer (some ⟨b70, 1, none⟩), [])] ?_
                    refine lP 0 1 ([.int .i64 (pick (z160) k : Nat)]) hs (fun w166 hs => ?_)
                    refine lN ?_
                    refine CG.listed ?_
                    replace hs := hs.add (K := fun h_ => RS1 h_ (⟨(pick (z64) 15 : Nat), (pick (z160) k : Nat), 0, 0, (false, .slice none 0 0, .slice none 0 0)⟩ : RSt) (⟨(pick (z64) 15 : Nat), (pick (z160) k : Nat), 0, 0, 0, false⟩ : OSt)) (⟨rfl, rfl, rfl, rfl, ⟨none, 0, none, 0, rfl, Nat.le_refl _, Nat.le_refl _, SlO.nil, SlO.nil⟩, fun _ => rfl⟩)
                    have hmo1 : OSm (⟨(pick (z64) 15 : Nat), (pick (z160) k : Nat), 0, 0, 0, false⟩ : OSt) := ⟨by dsimp only; omega, by dsimp only; omega, by dsimp only; omega, by dsimp only; omega, by dsimp only; decide +kernel⟩
                    refine lS hs [(87, .pointer (some ⟨b7, 1, none⟩), []), (88, .slice saA ((al).length) sac, [(1, 1, 1)]), (89, .agg #[.int .i64 (pick (z64) 15 : Nat), .int .i64 (pick (z160) k : Nat), .int .i64 0, .int .i64 0, .bool false, .slice none 0 0, .slice none 0 0], [(0, 0, 7)])] ?_
                    refine lR 90 47 1 ([.int .i64 (pick (z64) 15 : Nat), .int .i64 (pick (z160) k : Nat), .int .i64 0, .int .i64 0, .bool false, .slice none 0 0, .slice none 0 0]) hs (fun b167 w168 h169 hs => ?_)
                    refine lY 91 0 47 7 sac saA al rsc (⟨(pick (z64) 15 : Nat), (pick (z160) k : Nat), 0, 0, (false, .slice none 0 0, .slice none 0 0)⟩ : RSt) 88 b167 (.agg #[.int .i64 0, .int .i64 0, .int .i64 0, .int .i64 0, .bool false, .slice none 0 0, .slice none 0 0]) hs (hs.f.1) (fun A171 c172 w173 h174 hs => ?_)
                    refine lS hs [(92, .pointer (some ⟨b7, 1, none⟩), [])] ?_
                    refine lP 1 1 ([.slice A171 ((al ++ [(⟨(pick (z64) 15 : Nat), (pick (z160) k : Nat), 0, 0, (false, .slice none 0 0, .slice none 0 0)⟩ : RSt)]).length) c172]) hs (fun w176 hs => ?_)
                    refine lN ?_
                    refine cTo [(4, .pointer (some ⟨b1, 0, none⟩)), (5, .pointer (some ⟨b4, 0, none⟩)), (6, .pointer (some ⟨b7, 0, none⟩)), (7, .int .i64 (pick (z11) (most + 1) : Nat)), (8, .int .i64 (k : Nat))] ?_
                    refine CG.listed ?_
                    refine lS hs [(23, .int .i64 (k : Nat), [])] ?_
                    refine lIn 24 ((k : Nat) + 1) (k + 1) ?_
                    refine lS hs [(8, .int .i64 (k + 1 : Nat), [])] ?_
                    refine lD ?_
                    intro a_ ka
                    have q177 : RSs h174 (al ++ [(⟨(pick (z64) 15 : Nat), (pick (z160) k : Nat), 0, 0, (false, .slice none 0 0, .slice none 0 0)⟩ : RSt)]) (ss ++ [(⟨(pick (z64) 15 : Nat), (pick (z160) k : Nat), 0, 0, 0, false⟩ : OSt)]) := (hs.f.2.2.1).snoc (hs.f.2.1)
                    have q178 : (k + 1) ≤ (pick (z11) (most + 1)) := by omega
                    have q179 : at_z160 ≤ zs.length := haz160
                    have q180 : (ss ++ [(⟨(pick (z64) 15 : Nat), (pick (z160) k : Nat), 0, 0, 0, false⟩ : OSt)]).length = (k + 1) := by simp; omega
                    have q181 : (k + 1) = 0 → A171 = none ∧ c172 = 0 := fun h_ => absurd h_ (by omega)
                    have q182 : OSms (ss ++ [(⟨(pick (z64) 15 : Nat), (pick (z160) k : Nat), 0, 0, 0, false⟩ : OSt)]) := hSm.snoc hmo1
                    replace hs := (hs.tl.tl.tl.add (K := fun h_ => RSs h_ (al ++ [(⟨(pick (z64) 15 : Nat), (pick (z160) k : Nat), 0, 0, (false, .slice none 0 0, .slice none 0 0)⟩ : RSt)]) (ss ++ [(⟨(pick (z64) 15 : Nat), (pick (z160) k : Nat), 0, 0, 0, false⟩ : OSt)])) q177)
                    replace hs := hs.drop 1 0
                    refine ⟨_, _, ?_, ⟨k + 1, A171, c172, al ++ [(⟨(pick (z64) 15 : Nat), (pick (z160) k : Nat), 0, 0, (false, .slice none 0 0, .slice none 0 0)⟩ : RSt)], ss ++ [(⟨(pick (z64) 15 : Nat), (pick (z160) k : Nat), 0, 0, 0, false⟩ : OSt)], at_z160, h174, rfl, rfl, hs.to _ _, q178, q179, q180, q181, q182⟩, ka.to [(4, .pointer (some ⟨b1, 0, none⟩)), (5, .pointer (some ⟨b4, 0, none⟩)), (6, .pointer (some ⟨b7, 0, none⟩)), (7, .int .i64 (pick (z11) (most + 1) : Nat)), (8, .int .i64 ((k + 1) : Nat))] (by kernel_rfl)⟩
                    omega
                ·
                  have phb80 := eq_of_beq hb80
                  refine lB 78 hb80 ?_
                  refine lS hs [(77, .bool true, [])] ?_
                  refine lN ?_
                  refine cIT ?_
                  refine CG.skipN ?_
                  refine cTo [(4, .pointer (some ⟨b1, 0, none⟩)), (5, .pointer (some ⟨b4, 0, none⟩)), (6, .pointer (some ⟨b7, 0, none⟩)), (7, .int .i64 (pick (z11) (most + 1) : Nat)), (8, .int .i64 (k : Nat)), (9, .pointer (some ⟨b70, 0, none⟩)), (77, .bool true)] ?_
                  refine cIT ?_
                  refine CG.listed ?_
                  refine lS hs [(82, .pointer (some ⟨b4, 0, none⟩), [])] ?_
                  refine lCm 83 (rNext A0 c0 zs hl0 hz0 b4 at_z64 (by omega) _ _ hs.g (hs.own 2) (hs.jk 2) (hs.f.2.1)) ?_
                  rintro _ w184 h185 u186 ⟨z183, at_z183, rfl, haz183, hzz183, hOz183⟩
                  replace hs := (hs.stepM 2 u186 hOz183).to [⟨b70, 47, [.int .i64 (pick (z64) 15 : Nat), .int .i64 0, .int .i64 0, .int .i64 0, .bool false, .slice none 0 0, .slice none 0 0]⟩, ⟨b7, 25, [.int .i64 3, .slice saA ((al).length) sac, .slice none 0 0]⟩, ⟨b4, 51, [.slice A0 zs.length c0, .int .i64 (at_z183 : Nat)]⟩, ⟨b1, 25, [.int .i64 0, .slice none 0 0, .slice none 0 0]⟩] [⟨47, 7, saA, sac, (al).length, (al).flatMap rsc⟩]
                  refine lS hs [(84, .int .i64 (k : Nat), [])] ?_
                  refine lC 85 hs (hPick (z183) k (by omega) (by omega) _ _ hs.g) ?_
                  rintro _ w187 h188 hs rfl
                  have lp17 := pick_lt (z183) k (by omega)
                  refine lS hs [(86, .pointer (some ⟨b70, 1, none⟩), [])] ?_
                  refine lP 0 1 ([.int .i64 (pick (z183) k : Nat)]) hs (fun w189 hs => ?_)
                  refine lN ?_
                  refine CG.listed ?_
                  replace hs := hs.add (K := fun h_ => RS1 h_ (⟨(pick (z64) 15 : Nat), (pick (z183) k : Nat), 0, 0, (false, .slice none 0 0, .slice none 0 0)⟩ : RSt) (⟨(pick (z64) 15 : Nat), (pick (z183) k : Nat), 0, 0, 0, false⟩ : OSt)) (⟨rfl, rfl, rfl, rfl, ⟨none, 0, none, 0, rfl, Nat.le_refl _, Nat.le_refl _, SlO.nil, SlO.nil⟩, fun _ => rfl⟩)
                  have hmo1 : OSm (⟨(pick (z64) 15 : Nat), (pick (z183) k : Nat), 0, 0, 0, false⟩ : OSt) := ⟨by dsimp only; omega, by dsimp only; omega, by dsimp only; omega, by dsimp only; omega, by dsimp only; decide +kernel⟩
                  refine lS hs [(87, .pointer (some ⟨b7, 1, none⟩), []), (88, .slice saA ((al).length) sac, [(1, 1, 1)]), (89, .agg #[.int .i64 (pick (z64) 15 : Nat), .int .i64 (pick (z183) k : Nat), .int .i64 0, .int .i64 0, .bool false, .slice none 0 0, .slice none 0 0], [(0, 0, 7)])] ?_
                  refine lR 90 47 1 ([.int .i64 (pick (z64) 15 : Nat), .int .i64 (pick (z183) k : Nat), .int .i64 0, .int .i64 0, .bool false, .slice none 0 0, .slice none 0 0]) hs (fun b190 w191 h192 hs => ?_)
                  refine lY 91 0 47 7 sac saA al rsc (⟨(pick (z64) 15 : Nat), (pick (z183) k : Nat), 0, 0, (false, .slice none 0 0, .slice none 0 0)⟩ : RSt) 88 b190 (.agg #[.int .i64 0, .int .i64 0, .int .i64 0, .int .i64 0, .bool false, .slice none 0 0, .slice none 0 0]) hs (hs.f.1) (fun A194 c195 w196 h197 hs => ?_)
                  refine lS hs [(92, .pointer (some ⟨b7, 1, none⟩), [])] ?_
                  refine lP 1 1 ([.slice A194 ((al ++ [(⟨(pick (z64) 15 : Nat), (pick (z183) k : Nat), 0, 0, (false, .slice none 0 0, .slice none 0 0)⟩ : RSt)]).length) c195]) hs (fun w199 hs => ?_)
                  refine lN ?_
                  refine cTo [(4, .pointer (some ⟨b1, 0, none⟩)), (5, .pointer (some ⟨b4, 0, none⟩)), (6, .pointer (some ⟨b7, 0, none⟩)), (7, .int .i64 (pick (z11) (most + 1) : Nat)), (8, .int .i64 (k : Nat))] ?_
                  refine CG.listed ?_
                  refine lS hs [(23, .int .i64 (k : Nat), [])] ?_
                  refine lIn 24 ((k : Nat) + 1) (k + 1) ?_
                  refine lS hs [(8, .int .i64 (k + 1 : Nat), [])] ?_
                  refine lD ?_
                  intro a_ ka
                  have q200 : RSs h197 (al ++ [(⟨(pick (z64) 15 : Nat), (pick (z183) k : Nat), 0, 0, (false, .slice none 0 0, .slice none 0 0)⟩ : RSt)]) (ss ++ [(⟨(pick (z64) 15 : Nat), (pick (z183) k : Nat), 0, 0, 0, false⟩ : OSt)]) := (hs.f.2.2.1).snoc (hs.f.2.1)
                  have q201 : (k + 1) ≤ (pick (z11) (most + 1)) := by omega
                  have q202 : at_z183 ≤ zs.length := haz183
                  have q203 : (ss ++ [(⟨(pick (z64) 15 : Nat), (pick (z183) k : Nat), 0, 0, 0, false⟩ : OSt)]).length = (k + 1) := by simp; omega
                  have q204 : (k + 1) = 0 → A194 = none ∧ c195 = 0 := fun h_ => absurd h_ (by omega)
                  have q205 : OSms (ss ++ [(⟨(pick (z64) 15 : Nat), (pick (z183) k : Nat), 0, 0, 0, false⟩ : OSt)]) := hSm.snoc hmo1
                  replace hs := (hs.tl.tl.tl.add (K := fun h_ => RSs h_ (al ++ [(⟨(pick (z64) 15 : Nat), (pick (z183) k : Nat), 0, 0, (false, .slice none 0 0, .slice none 0 0)⟩ : RSt)]) (ss ++ [(⟨(pick (z64) 15 : Nat), (pick (z183) k : Nat), 0, 0, 0, false⟩ : OSt)])) q200)
                  replace hs := hs.drop 1 0
                  refine ⟨_, _, ?_, ⟨k + 1, A194, c195, al ++ [(⟨(pick (z64) 15 : Nat), (pick (z183) k : Nat), 0, 0, (false, .slice none 0 0, .slice none 0 0)⟩ : RSt)], ss ++ [(⟨(pick (z64) 15 : Nat), (pick (z183) k : Nat), 0, 0, 0, false⟩ : OSt)], at_z183, h197, rfl, rfl, hs.to _ _, q201, q202, q203, q204, q205⟩, ka.to [(4, .pointer (some ⟨b1, 0, none⟩)), (5, .pointer (some ⟨b4, 0, none⟩)), (6, .pointer (some ⟨b7, 0, none⟩)), (7, .int .i64 (pick (z11) (most + 1) : Nat)), (8, .int .i64 ((k + 1) : Nat))] (by kernel_rfl)⟩
                  omega
              ·
                have phb79 := eq_of_beq hb79
                refine lB 66 hb79 ?_
                refine lS hs [(65, .bool true, [])] ?_
                refine lN ?_
                refine cIT ?_
                refine cSL ?_
                refine lS hs [(67, .pointer (some ⟨b4, 0, none⟩), [])] ?_
                refine lCm 68 (rNext A0 c0 zs hl0 hz0 b4 at_z64 (by omega) _ _ hs.g (hs.own 2) (hs.jk 2) (hs.f.2.1)) ?_
                rintro _ w207 h208 u209 ⟨z206, at_z206, rfl, haz206, hzz206, hOz206⟩
                replace hs := (hs.stepM 2 u209 hOz206).to [⟨b70, 47, [.int .i64 (pick (z64) 15 : Nat), .int .i64 0, .int .i64 0, .int .i64 0, .bool false, .slice none 0 0, .slice none 0 0]⟩, ⟨b7, 25, [.int .i64 3, .slice saA ((al).length) sac, .slice none 0 0]⟩, ⟨b4, 51, [.slice A0 zs.length c0, .int .i64 (at_z206 : Nat)]⟩, ⟨b1, 25, [.int .i64 0, .slice none 0 0, .slice none 0 0]⟩] [⟨47, 7, saA, sac, (al).length, (al).flatMap rsc⟩]
                refine lS hs [(69, .int .i64 (k : Nat), [])] ?_
                refine lC 70 hs (hPick (z206) k (by omega) (by omega) _ _ hs.g) ?_
                rintro _ w210 h211 hs rfl
                have lp19 := pick_lt (z206) k (by omega)
                refine lS hs [(71, .pointer (some ⟨b70, 1, none⟩), [])] ?_
                refine lP 0 1 ([.int .i64 (pick (z206) k : Nat)]) hs (fun w212 hs => ?_)
                refine lN ?_
                refine cTo [(4, .pointer (some ⟨b1, 0, none⟩)), (5, .pointer (some ⟨b4, 0, none⟩)), (6, .pointer (some ⟨b7, 0, none⟩)), (7, .int .i64 (pick (z11) (most + 1) : Nat)), (8, .int .i64 (k : Nat)), (9, .pointer (some ⟨b70, 0, none⟩))] ?_
                refine CG.listed ?_
                refine lS hs [(72, .pointer (some ⟨b4, 0, none⟩), [])] ?_
                refine lCm 73 (rNext A0 c0 zs hl0 hz0 b4 at_z206 (by omega) _ _ hs.g (hs.own 2) (hs.jk 2) (hs.f.2.1)) ?_
                rintro _ w214 h215 u216 ⟨z213, at_z213, rfl, haz213, hzz213, hOz213⟩
                replace hs := (hs.stepM 2 u216 hOz213).to [⟨b70, 47, [.int .i64 (pick (z64) 15 : Nat), .int .i64 (pick (z206) k : Nat), .int .i64 0, .int .i64 0, .bool false, .slice none 0 0, .slice none 0 0]⟩, ⟨b7, 25, [.int .i64 3, .slice saA ((al).length) sac, .slice none 0 0]⟩, ⟨b4, 51, [.slice A0 zs.length c0, .int .i64 (at_z213 : Nat)]⟩, ⟨b1, 25, [.int .i64 0, .slice none 0 0, .slice none 0 0]⟩] [⟨47, 7, saA, sac, (al).length, (al).flatMap rsc⟩]
                refine lC 74 hs (hPick (z213) 4 (by omega) (by omega) _ _ hs.g) ?_
                rintro _ w217 h218 hs rfl
                have lp21 := pick_lt (z213) 4 (by omega)
                refine lI 75 ((pick (z213) 4 : Nat) - 1) ?_
                refine lS hs [(76, .pointer (some ⟨b70, 3, none⟩), [])] ?_
                refine lP 0 3 ([.int .i64 ((pick (z213) 4 : Nat) - 1)]) hs (fun w219 hs => ?_)
                refine lN ?_
                refine CG.listed ?_
                replace hs := hs.add (K := fun h_ => RS1 h_ (⟨(pick (z64) 15 : Nat), (pick (z206) k : Nat), 0, (pick (z213) 4 : Nat) - 1, (false, .slice none 0 0, .slice none 0 0)⟩ : RSt) (⟨(pick (z64) 15 : Nat), (pick (z206) k : Nat), 0, (pick (z213) 4 : Nat) - 1, 0, false⟩ : OSt)) (⟨rfl, rfl, rfl, rfl, ⟨none, 0, none, 0, rfl, Nat.le_refl _, Nat.le_refl _, SlO.nil, SlO.nil⟩, fun _ => rfl⟩)
                have hmo1 : OSm (⟨(pick (z64) 15 : Nat), (pick (z206) k : Nat), 0, (pick (z213) 4 : Nat) - 1, 0, false⟩ : OSt) := ⟨by dsimp only; omega, by dsimp only; omega, by dsimp only; omega, by dsimp only; omega, by dsimp only; decide +kernel⟩
                refine lS hs [(87, .pointer (some ⟨b7, 1, none⟩), []), (88, .slice saA ((al).length) sac, [(1, 1, 1)]), (89, .agg #[.int .i64 (pick (z64) 15 : Nat), .int .i64 (pick (z206) k : Nat), .int .i64 0, .int .i64 ((pick (z213) 4 : Nat) - 1), .bool false, .slice none 0 0, .slice none 0 0], [(0, 0, 7)])] ?_
                refine lR 90 47 1 ([.int .i64 (pick (z64) 15 : Nat), .int .i64 (pick (z206) k : Nat), .int .i64 0, .int .i64 ((pick (z213) 4 : Nat) - 1), .bool false, .slice none 0 0, .slice none 0 0]) hs (fun b220 w221 h222 hs => ?_)
                refine lY 91 0 47 7 sac saA al rsc (⟨(pick (z64) 15 : Nat), (pick (z206) k : Nat), 0, (pick (z213) 4 : Nat) - 1, (false, .slice none 0 0, .slice none 0 0)⟩ : RSt) 88 b220 (.agg #[.int .i64 0, .int .i64 0, .int .i64 0, .int .i64 0, .bool false, .slice none 0 0, .slice none 0 0]) hs (hs.f.1) (fun A224 c225 w226 h227 hs => ?_)
                refine lS hs [(92, .pointer (some ⟨b7, 1, none⟩), [])] ?_
                refine lP 1 1 ([.slice A224 ((al ++ [(⟨(pick (z64) 15 : Nat), (pick (z206) k : Nat), 0, (pick (z213) 4 : Nat) - 1, (false, .slice none 0 0, .slice none 0 0)⟩ : RSt)]).length) c225]) hs (fun w229 hs => ?_)
                refine lN ?_
                refine CG.listed ?_
                refine lS hs [(23, .int .i64 (k : Nat), [])] ?_
                refine lIn 24 ((k : Nat) + 1) (k + 1) ?_
                refine lS hs [(8, .int .i64 (k + 1 : Nat), [])] ?_
                refine lD ?_
                intro a_ ka
                have q230 : RSs h227 (al ++ [(⟨(pick (z64) 15 : Nat), (pick (z206) k : Nat), 0, (pick (z213) 4 : Nat) - 1, (false, .slice none 0 0, .slice none 0 0)⟩ : RSt)]) (ss ++ [(⟨(pick (z64) 15 : Nat), (pick (z206) k : Nat), 0, (pick (z213) 4 : Nat) - 1, 0, false⟩ : OSt)]) := (hs.f.2.2.1).snoc (hs.f.2.1)
                have q231 : (k + 1) ≤ (pick (z11) (most + 1)) := by omega
                have q232 : at_z213 ≤ zs.length := haz213
                have q233 : (ss ++ [(⟨(pick (z64) 15 : Nat), (pick (z206) k : Nat), 0, (pick (z213) 4 : Nat) - 1, 0, false⟩ : OSt)]).length = (k + 1) := by simp; omega
                have q234 : (k + 1) = 0 → A224 = none ∧ c225 = 0 := fun h_ => absurd h_ (by omega)
                have q235 : OSms (ss ++ [(⟨(pick (z64) 15 : Nat), (pick (z206) k : Nat), 0, (pick (z213) 4 : Nat) - 1, 0, false⟩ : OSt)]) := hSm.snoc hmo1
                replace hs := (hs.tl.tl.tl.add (K := fun h_ => RSs h_ (al ++ [(⟨(pick (z64) 15 : Nat), (pick (z206) k : Nat), 0, (pick (z213) 4 : Nat) - 1, (false, .slice none 0 0, .slice none 0 0)⟩ : RSt)]) (ss ++ [(⟨(pick (z64) 15 : Nat), (pick (z206) k : Nat), 0, (pick (z213) 4 : Nat) - 1, 0, false⟩ : OSt)])) q230)
                replace hs := hs.drop 1 0
                refine ⟨_, _, ?_, ⟨k + 1, A224, c225, al ++ [(⟨(pick (z64) 15 : Nat), (pick (z206) k : Nat), 0, (pick (z213) 4 : Nat) - 1, (false, .slice none 0 0, .slice none 0 0)⟩ : RSt)], ss ++ [(⟨(pick (z64) 15 : Nat), (pick (z206) k : Nat), 0, (pick (z213) 4 : Nat) - 1, 0, false⟩ : OSt)], at_z213, h227, rfl, rfl, hs.to _ _, q231, q232, q233, q234, q235⟩, ka.to [(4, .pointer (some ⟨b1, 0, none⟩)), (5, .pointer (some ⟨b4, 0, none⟩)), (6, .pointer (some ⟨b7, 0, none⟩)), (7, .int .i64 (pick (z11) (most + 1) : Nat)), (8, .int .i64 ((k + 1) : Nat))] (by kernel_rfl)⟩
                omega
            ·
              have phb78 := eq_of_beq hb78
              refine lB 60 hb78 ?_
              refine lS hs [(59, .bool true, [])] ?_
              refine lN ?_
              refine cIT ?_
              refine CG.listed ?_
              refine lS hs [(61, .pointer (some ⟨b4, 0, none⟩), [])] ?_
              refine lCm 62 (rNext A0 c0 zs hl0 hz0 b4 at_z64 (by omega) _ _ hs.g (hs.own 2) (hs.jk 2) (hs.f.2.1)) ?_
              rintro _ w237 h238 u239 ⟨z236, at_z236, rfl, haz236, hzz236, hOz236⟩
              replace hs := (hs.stepM 2 u239 hOz236).to [⟨b70, 47, [.int .i64 (pick (z64) 15 : Nat), .int .i64 0, .int .i64 0, .int .i64 0, .bool false, .slice none 0 0, .slice none 0 0]⟩, ⟨b7, 25, [.int .i64 3, .slice saA ((al).length) sac, .slice none 0 0]⟩, ⟨b4, 51, [.slice A0 zs.length c0, .int .i64 (at_z236 : Nat)]⟩, ⟨b1, 25, [.int .i64 0, .slice none 0 0, .slice none 0 0]⟩] [⟨47, 7, saA, sac, (al).length, (al).flatMap rsc⟩]
              refine lC 63 hs (hPick (z236) 3 (by omega) (by omega) _ _ hs.g) ?_
              rintro _ w240 h241 hs rfl
              have lp23 := pick_lt (z236) 3 (by omega)
              refine lS hs [(64, .pointer (some ⟨b70, 3, none⟩), [])] ?_
              refine lP 0 3 ([.int .i64 (pick (z236) 3 : Nat)]) hs (fun w242 hs => ?_)
              refine lN ?_
              refine cTo [(4, .pointer (some ⟨b1, 0, none⟩)), (5, .pointer (some ⟨b4, 0, none⟩)), (6, .pointer (some ⟨b7, 0, none⟩)), (7, .int .i64 (pick (z11) (most + 1) : Nat)), (8, .int .i64 (k : Nat)), (9, .pointer (some ⟨b70, 0, none⟩))] ?_
              refine CG.listed ?_
              replace hs := hs.add (K := fun h_ => RS1 h_ (⟨(pick (z64) 15 : Nat), 0, 0, (pick (z236) 3 : Nat), (false, .slice none 0 0, .slice none 0 0)⟩ : RSt) (⟨(pick (z64) 15 : Nat), 0, 0, (pick (z236) 3 : Nat), 0, false⟩ : OSt)) (⟨rfl, rfl, rfl, rfl, ⟨none, 0, none, 0, rfl, Nat.le_refl _, Nat.le_refl _, SlO.nil, SlO.nil⟩, fun _ => rfl⟩)
              have hmo1 : OSm (⟨(pick (z64) 15 : Nat), 0, 0, (pick (z236) 3 : Nat), 0, false⟩ : OSt) := ⟨by dsimp only; omega, by dsimp only; omega, by dsimp only; omega, by dsimp only; omega, by dsimp only; decide +kernel⟩
              refine lS hs [(87, .pointer (some ⟨b7, 1, none⟩), []), (88, .slice saA ((al).length) sac, [(1, 1, 1)]), (89, .agg #[.int .i64 (pick (z64) 15 : Nat), .int .i64 0, .int .i64 0, .int .i64 (pick (z236) 3 : Nat), .bool false, .slice none 0 0, .slice none 0 0], [(0, 0, 7)])] ?_
              refine lR 90 47 1 ([.int .i64 (pick (z64) 15 : Nat), .int .i64 0, .int .i64 0, .int .i64 (pick (z236) 3 : Nat), .bool false, .slice none 0 0, .slice none 0 0]) hs (fun b243 w244 h245 hs => ?_)
              refine lY 91 0 47 7 sac saA al rsc (⟨(pick (z64) 15 : Nat), 0, 0, (pick (z236) 3 : Nat), (false, .slice none 0 0, .slice none 0 0)⟩ : RSt) 88 b243 (.agg #[.int .i64 0, .int .i64 0, .int .i64 0, .int .i64 0, .bool false, .slice none 0 0, .slice none 0 0]) hs (hs.f.1) (fun A247 c248 w249 h250 hs => ?_)
              refine lS hs [(92, .pointer (some ⟨b7, 1, none⟩), [])] ?_
              refine lP 1 1 ([.slice A247 ((al ++ [(⟨(pick (z64) 15 : Nat), 0, 0, (pick (z236) 3 : Nat), (false, .slice none 0 0, .slice none 0 0)⟩ : RSt)]).length) c248]) hs (fun w252 hs => ?_)
              refine lN ?_
              refine CG.listed ?_
              refine lS hs [(23, .int .i64 (k : Nat), [])] ?_
              refine lIn 24 ((k : Nat) + 1) (k + 1) ?_
              refine lS hs [(8, .int .i64 (k + 1 : Nat), [])] ?_
              refine lD ?_
              intro a_ ka
              have q253 : RSs h250 (al ++ [(⟨(pick (z64) 15 : Nat), 0, 0, (pick (z236) 3 : Nat), (false, .slice none 0 0, .slice none 0 0)⟩ : RSt)]) (ss ++ [(⟨(pick (z64) 15 : Nat), 0, 0, (pick (z236) 3 : Nat), 0, false⟩ : OSt)]) := (hs.f.2.2.1).snoc (hs.f.2.1)
              have q254 : (k + 1) ≤ (pick (z11) (most + 1)) := by omega
              have q255 : at_z236 ≤ zs.length := haz236
              have q256 : (ss ++ [(⟨(pick (z64) 15 : Nat), 0, 0, (pick (z236) 3 : Nat), 0, false⟩ : OSt)]).length = (k + 1) := by simp; omega
              have q257 : (k + 1) = 0 → A247 = none ∧ c248 = 0 := fun h_ => absurd h_ (by omega)
              have q258 : OSms (ss ++ [(⟨(pick (z64) 15 : Nat), 0, 0, (pick (z236) 3 : Nat), 0, false⟩ : OSt)]) := hSm.snoc hmo1
              replace hs := (hs.tl.tl.tl.add (K := fun h_ => RSs h_ (al ++ [(⟨(pick (z64) 15 : Nat), 0, 0, (pick (z236) 3 : Nat), (false, .slice none 0 0, .slice none 0 0)⟩ : RSt)]) (ss ++ [(⟨(pick (z64) 15 : Nat), 0, 0, (pick (z236) 3 : Nat), 0, false⟩ : OSt)])) q253)
              replace hs := hs.drop 1 0
              refine ⟨_, _, ?_, ⟨k + 1, A247, c248, al ++ [(⟨(pick (z64) 15 : Nat), 0, 0, (pick (z236) 3 : Nat), (false, .slice none 0 0, .slice none 0 0)⟩ : RSt)], ss ++ [(⟨(pick (z64) 15 : Nat), 0, 0, (pick (z236) 3 : Nat), 0, false⟩ : OSt)], at_z236, h250, rfl, rfl, hs.to _ _, q254, q255, q256, q257, q258⟩, ka.to [(4, .pointer (some ⟨b1, 0, none⟩)), (5, .pointer (some ⟨b4, 0, none⟩)), (6, .pointer (some ⟨b7, 0, none⟩)), (7, .int .i64 (pick (z11) (most + 1) : Nat)), (8, .int .i64 ((k + 1) : Nat))] (by kernel_rfl)⟩
              omega
          ·
            have phb77 := eq_of_beq hb77
            refine lB 54 hb77 ?_
            refine lS hs [(53, .bool true, [])] ?_
            refine lN ?_
            refine cIT ?_
            refine CG.listed ?_
            refine lS hs [(55, .pointer (some ⟨b4, 0, none⟩), [])] ?_
            refine lCm 56 (rNext A0 c0 zs hl0 hz0 b4 at_z64 (by omega) _ _ hs.g (hs.own 2) (hs.jk 2) (hs.f.2.1)) ?_
            rintro _ w260 h261 u262 ⟨z259, at_z259, rfl, haz259, hzz259, hOz259⟩
            replace hs := (hs.stepM 2 u262 hOz259).to [⟨b70, 47, [.int .i64 (pick (z64) 15 : Nat), .int .i64 0, .int .i64 0, .int .i64 0, .bool false, .slice none 0 0, .slice none 0 0]⟩, ⟨b7, 25, [.int .i64 3, .slice saA ((al).length) sac, .slice none 0 0]⟩, ⟨b4, 51, [.slice A0 zs.length c0, .int .i64 (at_z259 : Nat)]⟩, ⟨b1, 25, [.int .i64 0, .slice none 0 0, .slice none 0 0]⟩] [⟨47, 7, saA, sac, (al).length, (al).flatMap rsc⟩]
            refine lC 57 hs (hR z259 hzz259.1 hzz259.2 _ _ hs.g) ?_
            rintro _ w271 h272 hs ⟨A263, c264, A267, c268, rfl, hc265, hc269, hA266, hA270⟩
            replace hs := ((hs.a_SlO hA266).a_SlO hA270)
            refine lS hs [(58, .pointer (some ⟨b70, 4, none⟩), [])] ?_
            refine lP 0 4 ([.bool (ineg (handRq z259).num), .slice A263 ((lim (iabs (handRq z259).num)).length) c264, .slice A267 ((lim (handRq z259).den).length) c268]) hs (fun w273 hs => ?_)
            refine lN ?_
            refine CG.listed ?_
            replace hs := hs.add (K := fun h_ => RS1 h_ (⟨(pick (z64) 15 : Nat), 0, 0, 0, (ineg (handRq z259).num, .slice A263 ((lim (iabs (handRq z259).num)).length) c264, .slice A267 ((lim (handRq z259).den).length) c268)⟩ : RSt) (⟨(pick (z64) 15 : Nat), 0, 0, 0, handRq z259, true⟩ : OSt)) (⟨rfl, rfl, rfl, rfl, ⟨_, _, _, _, rfl, hc265, hc269, (hs.f.2.1), (hs.f.1)⟩, fun h_ => (by cases h_)⟩)
            have hmo1 : OSm (⟨(pick (z64) 15 : Nat), 0, 0, 0, handRq z259, true⟩ : OSt) := ⟨by dsimp only; omega, by dsimp only; omega, by dsimp only; omega, by dsimp only; omega, handRq_small _⟩
            refine lS hs [(87, .pointer (some ⟨b7, 1, none⟩), []), (88, .slice saA ((al).length) sac, [(1, 1, 1)]), (89, .agg #[.int .i64 (pick (z64) 15 : Nat), .int .i64 0, .int .i64 0, .int .i64 0, .bool (ineg (handRq z259).num), .slice A263 ((lim (iabs (handRq z259).num)).length) c264, .slice A267 ((lim (handRq z259).den).length) c268], [(0, 0, 7)])] ?_
            refine lR 90 47 1 ([.int .i64 (pick (z64) 15 : Nat), .int .i64 0, .int .i64 0, .int .i64 0, .bool (ineg (handRq z259).num), .slice A263 ((lim (iabs (handRq z259).num)).length) c264, .slice A267 ((lim (handRq z259).den).length) c268]) hs (fun b274 w275 h276 hs => ?_)
            refine lY 91 0 47 7 sac saA al rsc (⟨(pick (z64) 15 : Nat), 0, 0, 0, (ineg (handRq z259).num, .slice A263 ((lim (iabs (handRq z259).num)).length) c264, .slice A267 ((lim (handRq z259).den).length) c268)⟩ : RSt) 88 b274 (.agg #[.int .i64 0, .int .i64 0, .int .i64 0, .int .i64 0, .bool false, .slice none 0 0, .slice none 0 0]) hs (hs.f.1) (fun A278 c279 w280 h281 hs => ?_)
            refine lS hs [(92, .pointer (some ⟨b7, 1, none⟩), [])] ?_
            refine lP 1 1 ([.slice A278 ((al ++ [(⟨(pick (z64) 15 : Nat), 0, 0, 0, (ineg (handRq z259).num, .slice A263 ((lim (iabs (handRq z259).num)).length) c264, .slice A267 ((lim (handRq z259).den).length) c268)⟩ : RSt)]).length) c279]) hs (fun w283 hs => ?_)
            refine lN ?_
            refine cTo [(4, .pointer (some ⟨b1, 0, none⟩)), (5, .pointer (some ⟨b4, 0, none⟩)), (6, .pointer (some ⟨b7, 0, none⟩)), (7, .int .i64 (pick (z11) (most + 1) : Nat)), (8, .int .i64 (k : Nat))] ?_
            refine CG.listed ?_
            refine lS hs [(23, .int .i64 (k : Nat), [])] ?_
            refine lIn 24 ((k : Nat) + 1) (k + 1) ?_
            refine lS hs [(8, .int .i64 (k + 1 : Nat), [])] ?_
            refine lD ?_
            intro a_ ka
            have q284 : RSs h281 (al ++ [(⟨(pick (z64) 15 : Nat), 0, 0, 0, (ineg (handRq z259).num, .slice A263 ((lim (iabs (handRq z259).num)).length) c264, .slice A267 ((lim (handRq z259).den).length) c268)⟩ : RSt)]) (ss ++ [(⟨(pick (z64) 15 : Nat), 0, 0, 0, handRq z259, true⟩ : OSt)]) := (hs.f.2.2.2.2.1).snoc (hs.f.2.1)
            have q285 : (k + 1) ≤ (pick (z11) (most + 1)) := by omega
            have q286 : at_z259 ≤ zs.length := haz259
            have q287 : (ss ++ [(⟨(pick (z64) 15 : Nat), 0, 0, 0, handRq z259, true⟩ : OSt)]).length = (k + 1) := by simp; omega
            have q288 : (k + 1) = 0 → A278 = none ∧ c279 = 0 := fun h_ => absurd h_ (by omega)
            have q289 : OSms (ss ++ [(⟨(pick (z64) 15 : Nat), 0, 0, 0, handRq z259, true⟩ : OSt)]) := hSm.snoc hmo1
            replace hs := (hs.tl.tl.tl.tl.tl.add (K := fun h_ => RSs h_ (al ++ [(⟨(pick (z64) 15 : Nat), 0, 0, 0, (ineg (handRq z259).num, .slice A263 ((lim (iabs (handRq z259).num)).length) c264, .slice A267 ((lim (handRq z259).den).length) c268)⟩ : RSt)]) (ss ++ [(⟨(pick (z64) 15 : Nat), 0, 0, 0, handRq z259, true⟩ : OSt)])) q284)
            replace hs := hs.drop 1 0
            refine ⟨_, _, ?_, ⟨k + 1, A278, c279, al ++ [(⟨(pick (z64) 15 : Nat), 0, 0, 0, (ineg (handRq z259).num, .slice A263 ((lim (iabs (handRq z259).num)).length) c264, .slice A267 ((lim (handRq z259).den).length) c268)⟩ : RSt)], ss ++ [(⟨(pick (z64) 15 : Nat), 0, 0, 0, handRq z259, true⟩ : OSt)], at_z259, h281, rfl, rfl, hs.to _ _, q285, q286, q287, q288, q289⟩, ka.to [(4, .pointer (some ⟨b1, 0, none⟩)), (5, .pointer (some ⟨b4, 0, none⟩)), (6, .pointer (some ⟨b7, 0, none⟩)), (7, .int .i64 (pick (z11) (most + 1) : Nat)), (8, .int .i64 ((k + 1) : Nat))] (by kernel_rfl)⟩
            omega
        ·
          have phb76 := eq_of_beq hb76
          refine lB 39 hb76 ?_
          refine lN ?_
          refine cIT ?_
          refine CG.listed ?_
          refine lS hs [(40, .pointer (some ⟨b70, 0, none⟩), [])] ?_
          refine lP 0 0 ([.int .i64 5]) hs (fun w290 hs => ?_)
          refine lN ?_
          refine CG.seq ?_
          refine cSL ?_
          refine lS hs [(41, .pointer (some ⟨b70, 0, none⟩), []), (42, .int .i64 5, [(0, 0, 1)])] ?_
          refine lN ?_
          refine CG.block ?_
          refine cSL ?_
          refine lS hs [(54, .bool false, []), (53, .bool false, [])] ?_
          refine lN ?_
          refine cIF ?_
          refine cSL ?_
          refine lS hs [(60, .bool false, []), (59, .bool false, [])] ?_
          refine lN ?_
          refine cIF ?_
          refine cSL ?_
          refine lS hs [(66, .bool false, []), (65, .bool false, [])] ?_
          refine lN ?_
          refine cIF ?_
          refine CG.seq ?_
          refine cSL ?_
          refine lS hs [(78, .bool false, []), (77, .bool false, [])] ?_
          refine lN ?_
          refine cTo [(4, .pointer (some ⟨b1, 0, none⟩)), (5, .pointer (some ⟨b4, 0, none⟩)), (6, .pointer (some ⟨b7, 0, none⟩)), (7, .int .i64 (pick (z11) (most + 1) : Nat)), (8, .int .i64 (k : Nat)), (9, .pointer (some ⟨b70, 0, none⟩)), (42, .int .i64 5), (77, .bool false)] ?_
          refine cIF ?_
          refine cSL ?_
          refine lS hs [(79, .bool false, []), (77, .bool false, [])] ?_
          refine lN ?_
          refine cIF ?_
          refine cSL ?_
          refine lS hs [(80, .bool false, []), (77, .bool false, [])] ?_
          refine lN ?_
          refine cIF ?_
          refine CG.listed ?_
          refine lS hs [(81, .bool false, []), (77, .bool false, [])] ?_
          refine lN ?_
          refine cIF ?_
          refine cSL ?_
          refine lS hs [(43, .pointer (some ⟨b4, 0, none⟩), [])] ?_
          refine lCm 44 (rNext A0 c0 zs hl0 hz0 b4 at_z64 (by omega) _ _ hs.g (hs.own 2) (hs.jk 2) (hs.f.2.1)) ?_
          rintro _ w292 h293 u294 ⟨z291, at_z291, rfl, haz291, hzz291, hOz291⟩
          replace hs := (hs.stepM 2 u294 hOz291).to [⟨b70, 47, [.int .i64 5, .int .i64 0, .int .i64 0, .int .i64 0, .bool false, .slice none 0 0, .slice none 0 0]⟩, ⟨b7, 25, [.int .i64 3, .slice saA ((al).length) sac, .slice none 0 0]⟩, ⟨b4, 51, [.slice A0 zs.length c0, .int .i64 (at_z291 : Nat)]⟩, ⟨b1, 25, [.int .i64 0, .slice none 0 0, .slice none 0 0]⟩] [⟨47, 7, saA, sac, (al).length, (al).flatMap rsc⟩]
          refine lS hs [(45, .int .i64 (k : Nat), [])] ?_
          refine lC 46 hs (hPick (z291) k (by omega) (by omega) _ _ hs.g) ?_
          rintro _ w295 h296 hs rfl
          have lp27 := pick_lt (z291) k (by omega)
          refine lS hs [(47, .pointer (some ⟨b70, 1, none⟩), [])] ?_
          refine lP 0 1 ([.int .i64 (pick (z291) k : Nat)]) hs (fun w297 hs => ?_)
          refine lN ?_
          refine CG.listed ?_
          refine lS hs [(48, .pointer (some ⟨b4, 0, none⟩), [])] ?_
          refine lCm 49 (rNext A0 c0 zs hl0 hz0 b4 at_z291 (by omega) _ _ hs.g (hs.own 2) (hs.jk 2) (hs.f.2.1)) ?_
          rintro _ w299 h300 u301 ⟨z298, at_z298, rfl, haz298, hzz298, hOz298⟩
          replace hs := (hs.stepM 2 u301 hOz298).to [⟨b70, 47, [.int .i64 5, .int .i64 (pick (z291) k : Nat), .int .i64 0, .int .i64 0, .bool false, .slice none 0 0, .slice none 0 0]⟩, ⟨b7, 25, [.int .i64 3, .slice saA ((al).length) sac, .slice none 0 0]⟩, ⟨b4, 51, [.slice A0 zs.length c0, .int .i64 (at_z298 : Nat)]⟩, ⟨b1, 25, [.int .i64 0, .slice none 0 0, .slice none 0 0]⟩] [⟨47, 7, saA, sac, (al).length, (al).flatMap rsc⟩]
          refine lS hs [(50, .int .i64 (k : Nat), [])] ?_
          refine lC 51 hs (hPick (z298) k (by omega) (by omega) _ _ hs.g) ?_
          rintro _ w302 h303 hs rfl
          have lp29 := pick_lt (z298) k (by omega)
          refine lS hs [(52, .pointer (some ⟨b70, 2, none⟩), [])] ?_
          refine lP 0 2 ([.int .i64 (pick (z298) k : Nat)]) hs (fun w304 hs => ?_)
          refine lN ?_
          refine cTo [(4, .pointer (some ⟨b1, 0, none⟩)), (5, .pointer (some ⟨b4, 0, none⟩)), (6, .pointer (some ⟨b7, 0, none⟩)), (7, .int .i64 (pick (z11) (most + 1) : Nat)), (8, .int .i64 (k : Nat)), (9, .pointer (some ⟨b70, 0, none⟩))] ?_
          refine CG.listed ?_
          replace hs := hs.add (K := fun h_ => RS1 h_ (⟨5, (pick (z291) k : Nat), (pick (z298) k : Nat), 0, (false, .slice none 0 0, .slice none 0 0)⟩ : RSt) (⟨5, (pick (z291) k : Nat), (pick (z298) k : Nat), 0, 0, false⟩ : OSt)) (⟨rfl, rfl, rfl, rfl, ⟨none, 0, none, 0, rfl, Nat.le_refl _, Nat.le_refl _, SlO.nil, SlO.nil⟩, fun _ => rfl⟩)
          have hmo1 : OSm (⟨5, (pick (z291) k : Nat), (pick (z298) k : Nat), 0, 0, false⟩ : OSt) := ⟨by dsimp only; omega, by dsimp only; omega, by dsimp only; omega, by dsimp only; omega, by dsimp only; decide +kernel⟩
          refine lS hs [(87, .pointer (some ⟨b7, 1, none⟩), []), (88, .slice saA ((al).length) sac, [(1, 1, 1)]), (89, .agg #[.int .i64 5, .int .i64 (pick (z291) k : Nat), .int .i64 (pick (z298) k : Nat), .int .i64 0, .bool false, .slice none 0 0, .slice none 0 0], [(0, 0, 7)])] ?_
          refine lR 90 47 1 ([.int .i64 5, .int .i64 (pick (z291) k : Nat), .int .i64 (pick (z298) k : Nat), .int .i64 0, .bool false, .slice none 0 0, .slice none 0 0]) hs (fun b305 w306 h307 hs => ?_)
          refine lY 91 0 47 7 sac saA al rsc (⟨5, (pick (z291) k : Nat), (pick (z298) k : Nat), 0, (false, .slice none 0 0, .slice none 0 0)⟩ : RSt) 88 b305 (.agg #[.int .i64 0, .int .i64 0, .int .i64 0, .int .i64 0, .bool false, .slice none 0 0, .slice none 0 0]) hs (hs.f.1) (fun A309 c310 w311 h312 hs => ?_)
          refine lS hs [(92, .pointer (some ⟨b7, 1, none⟩), [])] ?_
          refine lP 1 1 ([.slice A309 ((al ++ [(⟨5, (pick (z291) k : Nat), (pick (z298) k : Nat), 0, (false, .slice none 0 0, .slice none 0 0)⟩ : RSt)]).length) c310]) hs (fun w314 hs => ?_)
          refine lN ?_
          refine CG.listed ?_
          refine lS hs [(23, .int .i64 (k : Nat), [])] ?_
          refine lIn 24 ((k : Nat) + 1) (k + 1) ?_
          refine lS hs [(8, .int .i64 (k + 1 : Nat), [])] ?_
          refine lD ?_
          intro a_ ka
          have q315 : RSs h312 (al ++ [(⟨5, (pick (z291) k : Nat), (pick (z298) k : Nat), 0, (false, .slice none 0 0, .slice none 0 0)⟩ : RSt)]) (ss ++ [(⟨5, (pick (z291) k : Nat), (pick (z298) k : Nat), 0, 0, false⟩ : OSt)]) := (hs.f.2.2.1).snoc (hs.f.2.1)
          have q316 : (k + 1) ≤ (pick (z11) (most + 1)) := by omega
          have q317 : at_z298 ≤ zs.length := haz298
          have q318 : (ss ++ [(⟨5, (pick (z291) k : Nat), (pick (z298) k : Nat), 0, 0, false⟩ : OSt)]).length = (k + 1) := by simp; omega
          have q319 : (k + 1) = 0 → A309 = none ∧ c310 = 0 := fun h_ => absurd h_ (by omega)
          have q320 : OSms (ss ++ [(⟨5, (pick (z291) k : Nat), (pick (z298) k : Nat), 0, 0, false⟩ : OSt)]) := hSm.snoc hmo1
          replace hs := (hs.tl.tl.tl.add (K := fun h_ => RSs h_ (al ++ [(⟨5, (pick (z291) k : Nat), (pick (z298) k : Nat), 0, (false, .slice none 0 0, .slice none 0 0)⟩ : RSt)]) (ss ++ [(⟨5, (pick (z291) k : Nat), (pick (z298) k : Nat), 0, 0, false⟩ : OSt)])) q315)
          replace hs := hs.drop 1 0
          refine ⟨_, _, ?_, ⟨k + 1, A309, c310, al ++ [(⟨5, (pick (z291) k : Nat), (pick (z298) k : Nat), 0, (false, .slice none 0 0, .slice none 0 0)⟩ : RSt)], ss ++ [(⟨5, (pick (z291) k : Nat), (pick (z298) k : Nat), 0, 0, false⟩ : OSt)], at_z298, h312, rfl, rfl, hs.to _ _, q316, q317, q318, q319, q320⟩, ka.to [(4, .pointer (some ⟨b1, 0, none⟩)), (5, .pointer (some ⟨b4, 0, none⟩)), (6, .pointer (some ⟨b7, 0, none⟩)), (7, .int .i64 (pick (z11) (most + 1) : Nat)), (8, .int .i64 ((k + 1) : Nat))] (by kernel_rfl)⟩
          omega
      ·
        have phb75 := of_decide_eq_true hb75
        refine lB 34 hb75 ?_
        refine lS hs [(35, .bool true, [])] ?_
        refine lN ?_
        refine cTo [(4, .pointer (some ⟨b1, 0, none⟩)), (5, .pointer (some ⟨b4, 0, none⟩)), (6, .pointer (some ⟨b7, 0, none⟩)), (7, .int .i64 (pick (z11) (most + 1) : Nat)), (8, .int .i64 (k : Nat)), (9, .pointer (some ⟨b70, 0, none⟩)), (35, .bool true)] ?_
        refine cIT ?_
        refine CG.listed ?_
        refine lS hs [(36, .pointer (some ⟨b70, 0, none⟩), [])] ?_
        refine lP 0 0 ([.int .i64 2]) hs (fun w321 hs => ?_)
        refine lN ?_
        refine CG.seq ?_
        refine cSL ?_
        refine lS hs [(37, .pointer (some ⟨b70, 0, none⟩), []), (38, .int .i64 2, [(0, 0, 1)]), (39, .bool false, [])] ?_
        refine lN ?_
        refine cIF ?_
        refine CG.skipN ?_
        refine CG.seq ?_
        refine cSL ?_
        refine lS hs [(41, .pointer (some ⟨b70, 0, none⟩), []), (42, .int .i64 2, [(0, 0, 1)])] ?_
        refine lN ?_
        refine CG.block ?_
        refine cSL ?_
        refine lS hs [(54, .bool false, []), (53, .bool false, [])] ?_
        refine lN ?_
        refine cIF ?_
        refine cSL ?_
        refine lS hs [(60, .bool true, []), (59, .bool true, [])] ?_
        refine lN ?_
        refine cIT ?_
        refine CG.listed ?_
        refine lS hs [(61, .pointer (some ⟨b4, 0, none⟩), [])] ?_
        refine lCm 62 (rNext A0 c0 zs hl0 hz0 b4 at_z64 (by omega) _ _ hs.g (hs.own 2) (hs.jk 2) (hs.f.2.1)) ?_
        rintro _ w323 h324 u325 ⟨z322, at_z322, rfl, haz322, hzz322, hOz322⟩
        replace hs := (hs.stepM 2 u325 hOz322).to [⟨b70, 47, [.int .i64 2, .int .i64 0, .int .i64 0, .int .i64 0, .bool false, .slice none 0 0, .slice none 0 0]⟩, ⟨b7, 25, [.int .i64 3, .slice saA ((al).length) sac, .slice none 0 0]⟩, ⟨b4, 51, [.slice A0 zs.length c0, .int .i64 (at_z322 : Nat)]⟩, ⟨b1, 25, [.int .i64 0, .slice none 0 0, .slice none 0 0]⟩] [⟨47, 7, saA, sac, (al).length, (al).flatMap rsc⟩]
        refine lC 63 hs (hPick (z322) 3 (by omega) (by omega) _ _ hs.g) ?_
        rintro _ w326 h327 hs rfl
        have lp31 := pick_lt (z322) 3 (by omega)
        refine lS hs [(64, .pointer (some ⟨b70, 3, none⟩), [])] ?_
        refine lP 0 3 ([.int .i64 (pick (z322) 3 : Nat)]) hs (fun w328 hs => ?_)
        refine lN ?_
        refine cTo [(4, .pointer (some ⟨b1, 0, none⟩)), (5, .pointer (some ⟨b4, 0, none⟩)), (6, .pointer (some ⟨b7, 0, none⟩)), (7, .int .i64 (pick (z11) (most + 1) : Nat)), (8, .int .i64 (k : Nat)), (9, .pointer (some ⟨b70, 0, none⟩))] ?_
        refine CG.listed ?_
        replace hs := hs.add (K := fun h_ => RS1 h_ (⟨2, 0, 0, (pick (z322) 3 : Nat), (false, .slice none 0 0, .slice none 0 0)⟩ : RSt) (⟨2, 0, 0, (pick (z322) 3 : Nat), 0, false⟩ : OSt)) (⟨rfl, rfl, rfl, rfl, ⟨none, 0, none, 0, rfl, Nat.le_refl _, Nat.le_refl _, SlO.nil, SlO.nil⟩, fun _ => rfl⟩)
        have hmo1 : OSm (⟨2, 0, 0, (pick (z322) 3 : Nat), 0, false⟩ : OSt) := ⟨by dsimp only; omega, by dsimp only; omega, by dsimp only; omega, by dsimp only; omega, by dsimp only; decide +kernel⟩
        refine lS hs [(87, .pointer (some ⟨b7, 1, none⟩), []), (88, .slice saA ((al).length) sac, [(1, 1, 1)]), (89, .agg #[.int .i64 2, .int .i64 0, .int .i64 0, .int .i64 (pick (z322) 3 : Nat), .bool false, .slice none 0 0, .slice none 0 0], [(0, 0, 7)])] ?_
        refine lR 90 47 1 ([.int .i64 2, .int .i64 0, .int .i64 0, .int .i64 (pick (z322) 3 : Nat), .bool false, .slice none 0 0, .slice none 0 0]) hs (fun b329 w330 h331 hs => ?_)
        refine lY 91 0 47 7 sac saA al rsc (⟨2, 0, 0, (pick (z322) 3 : Nat), (false, .slice none 0 0, .slice none 0 0)⟩ : RSt) 88 b329 (.agg #[.int .i64 0, .int .i64 0, .int .i64 0, .int .i64 0, .bool false, .slice none 0 0, .slice none 0 0]) hs (hs.f.1) (fun A333 c334 w335 h336 hs => ?_)
        refine lS hs [(92, .pointer (some ⟨b7, 1, none⟩), [])] ?_
        refine lP 1 1 ([.slice A333 ((al ++ [(⟨2, 0, 0, (pick (z322) 3 : Nat), (false, .slice none 0 0, .slice none 0 0)⟩ : RSt)]).length) c334]) hs (fun w338 hs => ?_)
        refine lN ?_
        refine CG.listed ?_
        refine lS hs [(23, .int .i64 (k : Nat), [])] ?_
        refine lIn 24 ((k : Nat) + 1) (k + 1) ?_
        refine lS hs [(8, .int .i64 (k + 1 : Nat), [])] ?_
        refine lD ?_
        intro a_ ka
        have q339 : RSs h336 (al ++ [(⟨2, 0, 0, (pick (z322) 3 : Nat), (false, .slice none 0 0, .slice none 0 0)⟩ : RSt)]) (ss ++ [(⟨2, 0, 0, (pick (z322) 3 : Nat), 0, false⟩ : OSt)]) := (hs.f.2.2.1).snoc (hs.f.2.1)
        have q340 : (k + 1) ≤ (pick (z11) (most + 1)) := by omega
        have q341 : at_z322 ≤ zs.length := haz322
        have q342 : (ss ++ [(⟨2, 0, 0, (pick (z322) 3 : Nat), 0, false⟩ : OSt)]).length = (k + 1) := by simp; omega
        have q343 : (k + 1) = 0 → A333 = none ∧ c334 = 0 := fun h_ => absurd h_ (by omega)
        have q344 : OSms (ss ++ [(⟨2, 0, 0, (pick (z322) 3 : Nat), 0, false⟩ : OSt)]) := hSm.snoc hmo1
        replace hs := (hs.tl.tl.tl.add (K := fun h_ => RSs h_ (al ++ [(⟨2, 0, 0, (pick (z322) 3 : Nat), (false, .slice none 0 0, .slice none 0 0)⟩ : RSt)]) (ss ++ [(⟨2, 0, 0, (pick (z322) 3 : Nat), 0, false⟩ : OSt)])) q339)
        replace hs := hs.drop 1 0
        refine ⟨_, _, ?_, ⟨k + 1, A333, c334, al ++ [(⟨2, 0, 0, (pick (z322) 3 : Nat), (false, .slice none 0 0, .slice none 0 0)⟩ : RSt)], ss ++ [(⟨2, 0, 0, (pick (z322) 3 : Nat), 0, false⟩ : OSt)], at_z322, h336, rfl, rfl, hs.to _ _, q340, q341, q342, q343, q344⟩, ka.to [(4, .pointer (some ⟨b1, 0, none⟩)), (5, .pointer (some ⟨b4, 0, none⟩)), (6, .pointer (some ⟨b7, 0, none⟩)), (7, .int .i64 (pick (z11) (most + 1) : Nat)), (8, .int .i64 ((k + 1) : Nat))] (by kernel_rfl)⟩
        omega
    ·
      have phb74 := of_decide_eq_true hb74
      refine lB 30 hb74 ?_
      refine lS hs [(31, .bool true, [])] ?_
      refine lG 32 ?_
      refine lG 33 ?_
      refine lG 34 ?_
      refine lS hs [(35, .bool true, [])] ?_
      refine lN ?_
      refine cTo [(4, .pointer (some ⟨b1, 0, none⟩)), (5, .pointer (some ⟨b4, 0, none⟩)), (6, .pointer (some ⟨b7, 0, none⟩)), (7, .int .i64 (pick (z11) (most + 1) : Nat)), (8, .int .i64 (k : Nat)), (9, .pointer (some ⟨b70, 0, none⟩)), (35, .bool true)] ?_
      refine cIT ?_
      refine CG.listed ?_
      refine lS hs [(36, .pointer (some ⟨b70, 0, none⟩), [])] ?_
      refine lP 0 0 ([.int .i64 2]) hs (fun w345 hs => ?_)
      refine lN ?_
      refine CG.seq ?_
      refine cSL ?_
      refine lS hs [(37, .pointer (some ⟨b70, 0, none⟩), []), (38, .int .i64 2, [(0, 0, 1)]), (39, .bool false, [])] ?_
      refine lN ?_
      refine cIF ?_
      refine CG.skipN ?_
      refine CG.seq ?_
      refine cSL ?_
      refine lS hs [(41, .pointer (some ⟨b70, 0, none⟩), []), (42, .int .i64 2, [(0, 0, 1)])] ?_
      refine lN ?_
      refine CG.block ?_
      refine cSL ?_
      refine lS hs [(54, .bool false, []), (53, .bool false, [])] ?_
      refine lN ?_
      refine cIF ?_
      refine cSL ?_
      refine lS hs [(60, .bool true, []), (59, .bool true, [])] ?_
      refine lN ?_
      refine cIT ?_
      refine CG.listed ?_
      refine lS hs [(61, .pointer (some ⟨b4, 0, none⟩), [])] ?_
      refine lCm 62 (rNext A0 c0 zs hl0 hz0 b4 at_z64 (by omega) _ _ hs.g (hs.own 2) (hs.jk 2) (hs.f.2.1)) ?_
      rintro _ w347 h348 u349 ⟨z346, at_z346, rfl, haz346, hzz346, hOz346⟩
      replace hs := (hs.stepM 2 u349 hOz346).to [⟨b70, 47, [.int .i64 2, .int .i64 0, .int .i64 0, .int .i64 0, .bool false, .slice none 0 0, .slice none 0 0]⟩, ⟨b7, 25, [.int .i64 3, .slice saA ((al).length) sac, .slice none 0 0]⟩, ⟨b4, 51, [.slice A0 zs.length c0, .int .i64 (at_z346 : Nat)]⟩, ⟨b1, 25, [.int .i64 0, .slice none 0 0, .slice none 0 0]⟩] [⟨47, 7, saA, sac, (al).length, (al).flatMap rsc⟩]
      refine lC 63 hs (hPick (z346) 3 (by omega) (by omega) _ _ hs.g) ?_
      rintro _ w350 h351 hs rfl
      have lp33 := pick_lt (z346) 3 (by omega)
      refine lS hs [(64, .pointer (some ⟨b70, 3, none⟩), [])] ?_
      refine lP 0 3 ([.int .i64 (pick (z346) 3 : Nat)]) hs (fun w352 hs => ?_)
      refine lN ?_
      refine cTo [(4, .pointer (some ⟨b1, 0, none⟩)), (5, .pointer (some ⟨b4, 0, none⟩)), (6, .pointer (some ⟨b7, 0, none⟩)), (7, .int .i64 (pick (z11) (most + 1) : Nat)), (8, .int .i64 (k : Nat)), (9, .pointer (some ⟨b70, 0, none⟩))] ?_
      refine CG.listed ?_
      replace hs := hs.add (K := fun h_ => RS1 h_ (⟨2, 0, 0, (pick (z346) 3 : Nat), (false, .slice none 0 0, .slice none 0 0)⟩ : RSt) (⟨2, 0, 0, (pick (z346) 3 : Nat), 0, false⟩ : OSt)) (⟨rfl, rfl, rfl, rfl, ⟨none, 0, none, 0, rfl, Nat.le_refl _, Nat.le_refl _, SlO.nil, SlO.nil⟩, fun _ => rfl⟩)
      have hmo1 : OSm (⟨2, 0, 0, (pick (z346) 3 : Nat), 0, false⟩ : OSt) := ⟨by dsimp only; omega, by dsimp only; omega, by dsimp only; omega, by dsimp only; omega, by dsimp only; decide +kernel⟩
      refine lS hs [(87, .pointer (some ⟨b7, 1, none⟩), []), (88, .slice saA ((al).length) sac, [(1, 1, 1)]), (89, .agg #[.int .i64 2, .int .i64 0, .int .i64 0, .int .i64 (pick (z346) 3 : Nat), .bool false, .slice none 0 0, .slice none 0 0], [(0, 0, 7)])] ?_
      refine lR 90 47 1 ([.int .i64 2, .int .i64 0, .int .i64 0, .int .i64 (pick (z346) 3 : Nat), .bool false, .slice none 0 0, .slice none 0 0]) hs (fun b353 w354 h355 hs => ?_)
      refine lY 91 0 47 7 sac saA al rsc (⟨2, 0, 0, (pick (z346) 3 : Nat), (false, .slice none 0 0, .slice none 0 0)⟩ : RSt) 88 b353 (.agg #[.int .i64 0, .int .i64 0, .int .i64 0, .int .i64 0, .bool false, .slice none 0 0, .slice none 0 0]) hs (hs.f.1) (fun A357 c358 w359 h360 hs => ?_)
      refine lS hs [(92, .pointer (some ⟨b7, 1, none⟩), [])] ?_
      refine lP 1 1 ([.slice A357 ((al ++ [(⟨2, 0, 0, (pick (z346) 3 : Nat), (false, .slice none 0 0, .slice none 0 0)⟩ : RSt)]).length) c358]) hs (fun w362 hs => ?_)
      refine lN ?_
      refine CG.listed ?_
      refine lS hs [(23, .int .i64 (k : Nat), [])] ?_
      refine lIn 24 ((k : Nat) + 1) (k + 1) ?_
      refine lS hs [(8, .int .i64 (k + 1 : Nat), [])] ?_
      refine lD ?_
      intro a_ ka
      have q363 : RSs h360 (al ++ [(⟨2, 0, 0, (pick (z346) 3 : Nat), (false, .slice none 0 0, .slice none 0 0)⟩ : RSt)]) (ss ++ [(⟨2, 0, 0, (pick (z346) 3 : Nat), 0, false⟩ : OSt)]) := (hs.f.2.2.1).snoc (hs.f.2.1)
      have q364 : (k + 1) ≤ (pick (z11) (most + 1)) := by omega
      have q365 : at_z346 ≤ zs.length := haz346
      have q366 : (ss ++ [(⟨2, 0, 0, (pick (z346) 3 : Nat), 0, false⟩ : OSt)]).length = (k + 1) := by simp; omega
      have q367 : (k + 1) = 0 → A357 = none ∧ c358 = 0 := fun h_ => absurd h_ (by omega)
      have q368 : OSms (ss ++ [(⟨2, 0, 0, (pick (z346) 3 : Nat), 0, false⟩ : OSt)]) := hSm.snoc hmo1
      replace hs := (hs.tl.tl.tl.add (K := fun h_ => RSs h_ (al ++ [(⟨2, 0, 0, (pick (z346) 3 : Nat), (false, .slice none 0 0, .slice none 0 0)⟩ : RSt)]) (ss ++ [(⟨2, 0, 0, (pick (z346) 3 : Nat), 0, false⟩ : OSt)])) q363)
      replace hs := hs.drop 1 0
      refine ⟨_, _, ?_, ⟨k + 1, A357, c358, al ++ [(⟨2, 0, 0, (pick (z346) 3 : Nat), (false, .slice none 0 0, .slice none 0 0)⟩ : RSt)], ss ++ [(⟨2, 0, 0, (pick (z346) 3 : Nat), 0, false⟩ : OSt)], at_z346, h360, rfl, rfl, hs.to _ _, q364, q365, q366, q367, q368⟩, ka.to [(4, .pointer (some ⟨b1, 0, none⟩)), (5, .pointer (some ⟨b4, 0, none⟩)), (6, .pointer (some ⟨b7, 0, none⟩)), (7, .int .i64 (pick (z11) (most + 1) : Nat)), (8, .int .i64 ((k + 1) : Nat))] (by kernel_rfl)⟩
      omega

end Go.Proofs.YtmkonbkdjmfjhaaGreatDoor
