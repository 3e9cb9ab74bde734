/- law28.TapeHeavy answers true. -/
import Derived.Test.YtokbipmfhfmnfaaGreatDoorTpB
import Derived.Test.YtokbipmfhfmnfaaGreatDoorRwA
namespace Go.Proofs.YtokbipmfhfmnfaaGreatDoor
open Go.RowKit


theorem hPickE (n : Int) (m K : Nat) (hm : 0 < m) (hm2 : m < 1000000) (e : pick n m = K) (w : World) (h : Hp) (g : G w h) : Calls Tryz.prog 18 #[.int .i64 n, .int .i64 (m : Nat)] w (Ret w h fun v _ => v = .int .i64 (K : Nat)) := e ▸ hPick n m hm hm2 w h g
theorem heavy_q (op : Int) : ∀ k i, i < (heavyT op k).length → ((heavyT op k).getD i stp0).q = 0
  | 0, i, hi => by
    have : i = 0 := by (have : i < 1 := hi); omega
    subst this; rfl
  | k + 1, i, hi => by
    rw [heavyT_len] at hi
    show ((heavyT op k ++ [_]).getD i stp0).q = 0
    by_cases e : i < (heavyT op k).length
    · rw [List.getD_eq_getElem?_getD, List.getElem?_append_left e, ← List.getD_eq_getElem?_getD]; exact heavy_q op k i e
    · rw [List.getD_eq_getElem?_getD, List.getElem?_append_right (by omega)]
      rw [heavyT_len] at e ⊢
      have : i - (k + 1) = 0 := by omega
      rw [this]; rfl
theorem heavy_sm (op : Int) (k i : Nat) (hi : i < (heavyT op k).length) : Sm ((heavyT op k).getD i stp0).q := by rw [heavy_q op k i hi]; decide +kernel

set_option maxRecDepth 100000 in
set_option maxHeartbeats 600000 in
theorem lHeavy0 (n_ o_ : Int) (hk4 : pick o_ 4 = 0) (w : World) (h : Hp) (g : G w h) :
    Calls Tryz.prog 7 #[.int .i64 n_, .int .i64 o_] w (Ret w h fun v _ => v = .bool true) := by
  have hs := SS.start g
  refine go Tryz.func7 [(0, .int .i64 n_), (1, .int .i64 o_)] rfl ?_
  refine cSL ?_
  refine lS hs [(4, .bool false, [])] ?_
  refine lN ?_
  refine cSL ?_
  refine lS hs [(8, .int .i64 n_, [])] ?_
  refine lC 9 hs (hPick n_ 30 (by omega) (by omega) _ _ hs.g) ?_
  rintro _ w1 h2 hs rfl
  have lp := pick_lt n_ 30 (by omega)
  refine lS hs [(0, .int .i64 (pick n_ 30 : Nat), [])] ?_
  refine lN ?_
  refine cSL ?_
  refine lS hs [(10, .agg #[.int .i64 5, .int .i64 3, .int .i64 12, .int .i64 6], []), (11, .int .i64 o_, [])] ?_
  refine lC 12 hs (hPickE o_ 4 0 (by omega) (by omega) hk4 _ _ hs.g) ?_
  rintro _ w3 h4 hs rfl
  refine lS hs [(13, .int .i64 5, []), (1, .int .i64 5, [])] ?_
  refine lN ?_
  refine cSL ?_
  refine lS hs [(14, .agg #[.int .i64 2, .int .i64 0, .int .i64 0, .int .i64 0, .bool false, .int .u64 0, .string (⟨#[]⟩), .int .u64 0, .string (⟨#[]⟩)], [])] ?_
  refine lRw 15 101 9 stc ([(⟨2, 0, 0, 0, 0⟩ : Stp)] : List Stp) hs (fun b5 w6 h7 hs => ?_)
  refine lS hs [(16, .agg #[.int .i64 1, .slice (some ⟨b5, 0, none⟩) (([(⟨2, 0, 0, 0, 0⟩ : Stp)] : List Stp)).length ((([(⟨2, 0, 0, 0, 0⟩ : Stp)] : List Stp)).length), .slice none 0 0], [])] ?_
  refine lA 5 104 ([.int .i64 0, .slice none 0 0, .slice none 0 0]) hs (fun b10 w11 h12 hs => ?_)
  refine lP 0 0 ([.int .i64 1, .slice (some ⟨b5, 0, none⟩) (([(⟨2, 0, 0, 0, 0⟩ : Stp)] : List Stp)).length ((([(⟨2, 0, 0, 0, 0⟩ : Stp)] : List Stp)).length), .slice none 0 0]) hs (fun w13 hs => ?_)
  refine lN ?_
  refine CG.seq ?_
  refine cSL ?_
  refine lS hs [(6, .int .i64 0, [])] ?_
  refine lN ?_
  refine CG.block ?_
  refine cTo [(0, .int .i64 (pick n_ 30 : Nat)), (1, .int .i64 5), (4, .bool false), (5, .pointer (some ⟨b10, 0, none⟩)), (6, .int .i64 0)] ?_
  refine CG.loop (fun μ_ Γ w_ => ∃ (k : Nat) (saA : Option Addr) (sac : Nat) (al : List Stp) (h_ : Hp), μ_ = pick n_ 30 - k ∧ Γ = [(0, .int .i64 (pick n_ 30 : Nat)), (1, .int .i64 5), (4, .bool false), (5, .pointer (some ⟨b10, 0, none⟩)), (6, .int .i64 (k : Nat))] ∧ SS w h w_ h_ [⟨b10, 104, [.int .i64 1, .slice saA (al).length sac, .slice none 0 0]⟩] [⟨101, 9, saA, sac, (al).length, (al).flatMap stc⟩] [] ∧ (k ≤ pick n_ 30) ∧ (al = heavyT 5 k)) _ ⟨0, some ⟨b5, 0, none⟩, (([(⟨2, 0, 0, 0, 0⟩ : Stp)] : List Stp)).length, ([(⟨2, 0, 0, 0, 0⟩ : Stp)] : List Stp), h12, rfl, rfl, hs.to _ _, Nat.zero_le _, rfl⟩ ?_
  rintro _ _ w14 ⟨k, saA, sac, al, h15, hm16, rfl, hs, hk, hal⟩
  have hll : al.length = k + 1 := by rw [hal, heavyT_len]
  refine CG.seq ?_
  refine cSL ?_
  refine lS hs [(17, .int .i64 (k : Nat), []), (18, .int .i64 (pick n_ 30 : Nat), [])] ?_
  cases hb17 : (decide (((k : Nat) : Int) < ((pick n_ 30 : Nat) : Int)))
  ·
    have phb17 := of_decide_eq_false hb17
    refine lB 19 hb17 ?_
    refine lN ?_
    refine cIF ?_
    refine CG.exit ?_
    show CG _ _ _ _ _ _ _ _
    refine cSL ?_
    refine lS hs [(7, .int .i64 0, [])] ?_
    refine lN ?_
    refine CG.seq ?_
    refine cSL ?_
    refine lS hs [(31, .int .i64 (pick n_ 30 : Nat), [])] ?_
    cases hb18 : (decide ((16 : Int) < ((pick n_ 30 : Nat) : Int)))
    ·
      have phb18 := of_decide_eq_false hb18
      refine lB 32 hb18 ?_
      refine lN ?_
      refine cIF ?_
      refine CG.skipN ?_
      refine cSL ?_
      refine lC 33 hs (lKnown28 _ _ hs.g) ?_
      rintro _ w19 h20 hs rfl
      refine lS hs [(34, .bool true, [])] ?_
      obtain ⟨h21, hs, hc22⟩ := hs.pubr 0 (A := saA) (c := sac) (l := al) (f := stc) (ty := 101) (sz := 9) stp0 (fun _ => rfl)
      refine lS hs [(35, .agg #[.int .i64 1, .slice saA ((al).length) sac, .slice none 0 0], [(0, 0, 3)])] ?_
      refine lC 36 hs (tCheck 1 saA sac al none 0 [] (by rw [hal, heavyT_len]; omega) (by decide) (by rw [hal]; exact fun i hi => heavy_sm 5 _ i hi) _ _ hs.g (hs.f.1) SlO.nil) ?_
      rintro _ w24 h25 hs rfl
      have hck := heavy_chk (pick n_ 30) lp 5 (by decide)
      have hkn : k = pick n_ 30 := by omega
      rw [← hkn, ← hal] at hck
      first | rw [if_pos (by omega)] at hck | rw [if_neg (by omega)] at hck
      refine lS hs [(37, .int .i64 0, [])] ?_
      have hb26 : ((chkTp 1 al [] : Int) == (0 : Int)) = true := beqT (by omega)
      have phb26 := eq_of_beq hb26
      refine lB 38 hb26 ?_
      refine lS hs [(39, .bool true, []), (4, .bool true, [])] ?_
      refine lN ?_
      refine cTo [(4, .bool true)] ?_
      refine CG.ret ?_
      exact hs.ret [] (.bool true) rfl
    ·
      have phb18 := of_decide_eq_true hb18
      refine lB 32 hb18 ?_
      refine lN ?_
      refine cIT ?_
      refine CG.listed ?_
      refine lS hs [(7, .int .i64 18, [])] ?_
      refine lN ?_
      refine cSL ?_
      refine lC 33 hs (lKnown28 _ _ hs.g) ?_
      rintro _ w27 h28 hs rfl
      refine lS hs [(34, .bool true, [])] ?_
      obtain ⟨h29, hs, hc30⟩ := hs.pubr 0 (A := saA) (c := sac) (l := al) (f := stc) (ty := 101) (sz := 9) stp0 (fun _ => rfl)
      refine lS hs [(35, .agg #[.int .i64 1, .slice saA ((al).length) sac, .slice none 0 0], [(0, 0, 3)])] ?_
      refine lC 36 hs (tCheck 1 saA sac al none 0 [] (by rw [hal, heavyT_len]; omega) (by decide) (by rw [hal]; exact fun i hi => heavy_sm 5 _ i hi) _ _ hs.g (hs.f.1) SlO.nil) ?_
      rintro _ w32 h33 hs rfl
      have hck := heavy_chk (pick n_ 30) lp 5 (by decide)
      have hkn : k = pick n_ 30 := by omega
      rw [← hkn, ← hal] at hck
      first | rw [if_pos (by omega)] at hck | rw [if_neg (by omega)] at hck
      refine lS hs [(37, .int .i64 18, [])] ?_
      have hb34 : ((chkTp 1 al [] : Int) == (18 : Int)) = true := beqT (by omega)
      have phb34 := eq_of_beq hb34
      refine lB 38 hb34 ?_
      refine lS hs [(39, .bool true, []), (4, .bool true, [])] ?_
      refine lN ?_
      refine cTo [(4, .bool true)] ?_
      refine CG.ret ?_
      exact hs.ret [] (.bool true) rfl
  ·
    have phb17 := of_decide_eq_true hb17
    refine lB 19 hb17 ?_
    refine lN ?_
    refine cIT ?_
    refine CG.skipN ?_
    refine CG.seq ?_
    refine CG.block ?_
    refine CG.listed ?_
    refine lS hs [(22, .pointer (some ⟨b10, 1, none⟩), []), (23, .slice saA (al).length sac, [(0, 1, 1)]), (24, .int .i64 5, []), (25, .int .i64 (k : Nat), []), (26, .int .i64 (k : Nat), []), (27, .agg #[.int .i64 5, .int .i64 (k : Nat), .int .i64 (k : Nat), .int .i64 0, .bool false, .int .u64 0, .string (⟨#[]⟩), .int .u64 0, .string (⟨#[]⟩)], [])] ?_
    refine lR 28 101 1 ([.int .i64 5, .int .i64 (k : Nat), .int .i64 (k : Nat), .int .i64 0, .bool false, .int .u64 0, .string (⟨#[]⟩), .int .u64 0, .string (⟨#[]⟩)]) hs (fun b35 w36 h37 hs => ?_)
    refine lY 29 0 101 9 sac saA al stc (⟨5, (k : Nat), (k : Nat), 0, 0⟩ : Stp) 88 b35 (.agg #[.int .i64 0, .int .i64 0, .int .i64 0, .int .i64 0, .bool false, .int .u64 0, .string (⟨#[]⟩), .int .u64 0, .string (⟨#[]⟩)]) hs (hs.f.1) (fun A39 c40 w41 h42 hs => ?_)
    refine lS hs [(30, .pointer (some ⟨b10, 1, none⟩), [])] ?_
    refine lP 0 1 ([.slice A39 (al ++ [(⟨5, (k : Nat), (k : Nat), 0, 0⟩ : Stp)]).length c40]) hs (fun w44 hs => ?_)
    refine lN ?_
    refine CG.listed ?_
    refine lS hs [(20, .int .i64 (k : Nat), [])] ?_
    refine lIn 21 ((k : Nat) + 1) (k + 1) ?_
    refine lS hs [(6, .int .i64 (k + 1 : Nat), [])] ?_
    refine lD ?_
    intro a_ ka
    have q45 : (k + 1) ≤ pick n_ 30 := by omega
    have q46 : (al ++ [(⟨5, (k : Nat), (k : Nat), 0, 0⟩ : Stp)]) = heavyT 5 (k + 1) := by rw [hal]; rfl
    replace hs := hs.tl
    refine ⟨_, _, ?_, ⟨k + 1, A39, c40, al ++ [(⟨5, (k : Nat), (k : Nat), 0, 0⟩ : Stp)], h42, rfl, rfl, hs.to _ _, q45, q46⟩, ka.to [(0, .int .i64 (pick n_ 30 : Nat)), (1, .int .i64 5), (4, .bool false), (5, .pointer (some ⟨b10, 0, none⟩)), (6, .int .i64 ((k + 1) : Nat))] (by kernel_rfl)⟩
    omega

set_option maxRecDepth 100000 in
set_option maxHeartbeats 600000 in
theorem lHeavy1 (n_ o_ : Int) (hk4 : pick o_ 4 = 1) (w : World) (h : Hp) (g : G w h) :
    Calls Tryz.prog 7 #[.int .i64 n_, .int .i64 o_] w (Ret w h fun v _ => v = .bool true) := by
  have hs := SS.start g
  refine go Tryz.func7 [(0, .int .i64 n_), (1, .int .i64 o_)] rfl ?_
  refine cSL ?_
  refine lS hs [(4, .bool false, [])] ?_
  refine lN ?_
  refine cSL ?_
  refine lS hs [(8, .int .i64 n_, [])] ?_
  refine lC 9 hs (hPick n_ 30 (by omega) (by omega) _ _ hs.g) ?_
  rintro _ w1 h2 hs rfl
  have lp := pick_lt n_ 30 (by omega)
  refine lS hs [(0, .int .i64 (pick n_ 30 : Nat), [])] ?_
  refine lN ?_
  refine cSL ?_
  refine lS hs [(10, .agg #[.int .i64 5, .int .i64 3, .int .i64 12, .int .i64 6], []), (11, .int .i64 o_, [])] ?_
  refine lC 12 hs (hPickE o_ 4 1 (by omega) (by omega) hk4 _ _ hs.g) ?_
  rintro _ w3 h4 hs rfl
  refine lS hs [(13, .int .i64 3, []), (1, .int .i64 3, [])] ?_
  refine lN ?_
  refine cSL ?_
  refine lS hs [(14, .agg #[.int .i64 2, .int .i64 0, .int .i64 0, .int .i64 0, .bool false, .int .u64 0, .string (⟨#[]⟩), .int .u64 0, .string (⟨#[]⟩)], [])] ?_
  refine lRw 15 101 9 stc ([(⟨2, 0, 0, 0, 0⟩ : Stp)] : List Stp) hs (fun b5 w6 h7 hs => ?_)
  refine lS hs [(16, .agg #[.int .i64 1, .slice (some ⟨b5, 0, none⟩) (([(⟨2, 0, 0, 0, 0⟩ : Stp)] : List Stp)).length ((([(⟨2, 0, 0, 0, 0⟩ : Stp)] : List Stp)).length), .slice none 0 0], [])] ?_
  refine lA 5 104 ([.int .i64 0, .slice none 0 0, .slice none 0 0]) hs (fun b10 w11 h12 hs => ?_)
  refine lP 0 0 ([.int .i64 1, .slice (some ⟨b5, 0, none⟩) (([(⟨2, 0, 0, 0, 0⟩ : Stp)] : List Stp)).length ((([(⟨2, 0, 0, 0, 0⟩ : Stp)] : List Stp)).length), .slice none 0 0]) hs (fun w13 hs => ?_)
  refine lN ?_
  refine CG.seq ?_
  refine cSL ?_
  refine lS hs [(6, .int .i64 0, [])] ?_
  refine lN ?_
  refine CG.block ?_
  refine cTo [(0, .int .i64 (pick n_ 30 : Nat)), (1, .int .i64 3), (4, .bool false), (5, .pointer (some ⟨b10, 0, none⟩)), (6, .int .i64 0)] ?_
  refine CG.loop (fun μ_ Γ w_ => ∃ (k : Nat) (saA : Option Addr) (sac : Nat) (al : List Stp) (h_ : Hp), μ_ = pick n_ 30 - k ∧ Γ = [(0, .int .i64 (pick n_ 30 : Nat)), (1, .int .i64 3), (4, .bool false), (5, .pointer (some ⟨b10, 0, none⟩)), (6, .int .i64 (k : Nat))] ∧ SS w h w_ h_ [⟨b10, 104, [.int .i64 1, .slice saA (al).length sac, .slice none 0 0]⟩] [⟨101, 9, saA, sac, (al).length, (al).flatMap stc⟩] [] ∧ (k ≤ pick n_ 30) ∧ (al = heavyT 3 k)) _ ⟨0, some ⟨b5, 0, none⟩, (([(⟨2, 0, 0, 0, 0⟩ : Stp)] : List Stp)).length, ([(⟨2, 0, 0, 0, 0⟩ : Stp)] : List Stp), h12, rfl, rfl, hs.to _ _, Nat.zero_le _, rfl⟩ ?_
  rintro _ _ w14 ⟨k, saA, sac, al, h15, hm16, rfl, hs, hk, hal⟩
  have hll : al.length = k + 1 := by rw [hal, heavyT_len]
  refine CG.seq ?_
  refine cSL ?_
  refine lS hs [(17, .int .i64 (k : Nat), []), (18, .int .i64 (pick n_ 30 : Nat), [])] ?_
  cases hb17 : (decide (((k : Nat) : Int) < ((pick n_ 30 : Nat) : Int)))
  ·
    have phb17 := of_decide_eq_false hb17
    refine lB 19 hb17 ?_
    refine lN ?_
    refine cIF ?_
    refine CG.exit ?_
    show CG _ _ _ _ _ _ _ _
    refine cSL ?_
    refine lS hs [(7, .int .i64 0, [])] ?_
    refine lN ?_
    refine CG.seq ?_
    refine cSL ?_
    refine lS hs [(31, .int .i64 (pick n_ 30 : Nat), [])] ?_
    cases hb18 : (decide ((16 : Int) < ((pick n_ 30 : Nat) : Int)))
    ·
      have phb18 := of_decide_eq_false hb18
      refine lB 32 hb18 ?_
      refine lN ?_
      refine cIF ?_
      refine CG.skipN ?_
      refine cSL ?_
      refine lC 33 hs (lKnown28 _ _ hs.g) ?_
      rintro _ w19 h20 hs rfl
      refine lS hs [(34, .bool true, [])] ?_
      obtain ⟨h21, hs, hc22⟩ := hs.pubr 0 (A := saA) (c := sac) (l := al) (f := stc) (ty := 101) (sz := 9) stp0 (fun _ => rfl)
      refine lS hs [(35, .agg #[.int .i64 1, .slice saA ((al).length) sac, .slice none 0 0], [(0, 0, 3)])] ?_
      refine lC 36 hs (tCheck 1 saA sac al none 0 [] (by rw [hal, heavyT_len]; omega) (by decide) (by rw [hal]; exact fun i hi => heavy_sm 3 _ i hi) _ _ hs.g (hs.f.1) SlO.nil) ?_
      rintro _ w24 h25 hs rfl
      have hck := heavy_chk (pick n_ 30) lp 3 (by decide)
      have hkn : k = pick n_ 30 := by omega
      rw [← hkn, ← hal] at hck
      first | rw [if_pos (by omega)] at hck | rw [if_neg (by omega)] at hck
      refine lS hs [(37, .int .i64 0, [])] ?_
      have hb26 : ((chkTp 1 al [] : Int) == (0 : Int)) = true := beqT (by omega)
      have phb26 := eq_of_beq hb26
      refine lB 38 hb26 ?_
      refine lS hs [(39, .bool true, []), (4, .bool true, [])] ?_
      refine lN ?_
      refine cTo [(4, .bool true)] ?_
      refine CG.ret ?_
      exact hs.ret [] (.bool true) rfl
    ·
      have phb18 := of_decide_eq_true hb18
      refine lB 32 hb18 ?_
      refine lN ?_
      refine cIT ?_
      refine CG.listed ?_
      refine lS hs [(7, .int .i64 18, [])] ?_
      refine lN ?_
      refine cSL ?_
      refine lC 33 hs (lKnown28 _ _ hs.g) ?_
      rintro _ w27 h28 hs rfl
      refine lS hs [(34, .bool true, [])] ?_
      obtain ⟨h29, hs, hc30⟩ := hs.pubr 0 (A := saA) (c := sac) (l := al) (f := stc) (ty := 101) (sz := 9) stp0 (fun _ => rfl)
      refine lS hs [(35, .agg #[.int .i64 1, .slice saA ((al).length) sac, .slice none 0 0], [(0, 0, 3)])] ?_
      refine lC 36 hs (tCheck 1 saA sac al none 0 [] (by rw [hal, heavyT_len]; omega) (by decide) (by rw [hal]; exact fun i hi => heavy_sm 3 _ i hi) _ _ hs.g (hs.f.1) SlO.nil) ?_
      rintro _ w32 h33 hs rfl
      have hck := heavy_chk (pick n_ 30) lp 3 (by decide)
      have hkn : k = pick n_ 30 := by omega
      rw [← hkn, ← hal] at hck
      first | rw [if_pos (by omega)] at hck | rw [if_neg (by omega)] at hck
      refine lS hs [(37, .int .i64 18, [])] ?_
      have hb34 : ((chkTp 1 al [] : Int) == (18 : Int)) = true := beqT (by omega)
      have phb34 := eq_of_beq hb34
      refine lB 38 hb34 ?_
      refine lS hs [(39, .bool true, []), (4, .bool true, [])] ?_
      refine lN ?_
      refine cTo [(4, .bool true)] ?_
      refine CG.ret ?_
      exact hs.ret [] (.bool true) rfl
  ·
    have phb17 := of_decide_eq_true hb17
    refine lB 19 hb17 ?_
    refine lN ?_
    refine cIT ?_
    refine CG.skipN ?_
    refine CG.seq ?_
    refine CG.block ?_
    refine CG.listed ?_
    refine lS hs [(22, .pointer (some ⟨b10, 1, none⟩), []), (23, .slice saA (al).length sac, [(0, 1, 1)]), (24, .int .i64 3, []), (25, .int .i64 (k : Nat), []), (26, .int .i64 (k : Nat), []), (27, .agg #[.int .i64 3, .int .i64 (k : Nat), .int .i64 (k : Nat), .int .i64 0, .bool false, .int .u64 0, .string (⟨#[]⟩), .int .u64 0, .string (⟨#[]⟩)], [])] ?_
    refine lR 28 101 1 ([.int .i64 3, .int .i64 (k : Nat), .int .i64 (k : Nat), .int .i64 0, .bool false, .int .u64 0, .string (⟨#[]⟩), .int .u64 0, .string (⟨#[]⟩)]) hs (fun b35 w36 h37 hs => ?_)
    refine lY 29 0 101 9 sac saA al stc (⟨3, (k : Nat), (k : Nat), 0, 0⟩ : Stp) 88 b35 (.agg #[.int .i64 0, .int .i64 0, .int .i64 0, .int .i64 0, .bool false, .int .u64 0, .string (⟨#[]⟩), .int .u64 0, .string (⟨#[]⟩)]) hs (hs.f.1) (fun A39 c40 w41 h42 hs => ?_)
    refine lS hs [(30, .pointer (some ⟨b10, 1, none⟩), [])] ?_
    refine lP 0 1 ([.slice A39 (al ++ [(⟨3, (k : Nat), (k : Nat), 0, 0⟩ : Stp)]).length c40]) hs (fun w44 hs => ?_)
    refine lN ?_
    refine CG.listed ?_
    refine lS hs [(20, .int .i64 (k : Nat), [])] ?_
    refine lIn 21 ((k : Nat) + 1) (k + 1) ?_
    refine lS hs [(6, .int .i64 (k + 1 : Nat), [])] ?_
    refine lD ?_
    intro a_ ka
    have q45 : (k + 1) ≤ pick n_ 30 := by omega
    have q46 : (al ++ [(⟨3, (k : Nat), (k : Nat), 0, 0⟩ : Stp)]) = heavyT 3 (k + 1) := by rw [hal]; rfl
    replace hs := hs.tl
    refine ⟨_, _, ?_, ⟨k + 1, A39, c40, al ++ [(⟨3, (k : Nat), (k : Nat), 0, 0⟩ : Stp)], h42, rfl, rfl, hs.to _ _, q45, q46⟩, ka.to [(0, .int .i64 (pick n_ 30 : Nat)), (1, .int .i64 3), (4, .bool false), (5, .pointer (some ⟨b10, 0, none⟩)), (6, .int .i64 ((k + 1) : Nat))] (by kernel_rfl)⟩
    omega

set_option maxRecDepth 100000 in
set_option maxHeartbeats 600000 in
theorem lHeavy2 (n_ o_ : Int) (hk4 : pick o_ 4 = 2) (w : World) (h : Hp) (g : G w h) :
    Calls Tryz.prog 7 #[.int .i64 n_, .int .i64 o_] w (Ret w h fun v _ => v = .bool true) := by
  have hs := SS.start g
  refine go Tryz.func7 [(0, .int .i64 n_), (1, .int .i64 o_)] rfl ?_
  refine cSL ?_
  refine lS hs [(4, .bool false, [])] ?_
  refine lN ?_
  refine cSL ?_
  refine lS hs [(8, .int .i64 n_, [])] ?_
  refine lC 9 hs (hPick n_ 30 (by omega) (by omega) _ _ hs.g) ?_
  rintro _ w1 h2 hs rfl
  have lp := pick_lt n_ 30 (by omega)
  refine lS hs [(0, .int .i64 (pick n_ 30 : Nat), [])] ?_
  refine lN ?_
  refine cSL ?_
  refine lS hs [(10, .agg #[.int .i64 5, .int .i64 3, .int .i64 12, .int .i64 6], []), (11, .int .i64 o_, [])] ?_
  refine lC 12 hs (hPickE o_ 4 2 (by omega) (by omega) hk4 _ _ hs.g) ?_
  rintro _ w3 h4 hs rfl
  refine lS hs [(13, .int .i64 12, []), (1, .int .i64 12, [])] ?_
  refine lN ?_
  refine cSL ?_
  refine lS hs [(14, .agg #[.int .i64 2, .int .i64 0, .int .i64 0, .int .i64 0, .bool false, .int .u64 0, .string (⟨#[]⟩), .int .u64 0, .string (⟨#[]⟩)], [])] ?_
  refine lRw 15 101 9 stc ([(⟨2, 0, 0, 0, 0⟩ : Stp)] : List Stp) hs (fun b5 w6 h7 hs => ?_)
  refine lS hs [(16, .agg #[.int .i64 1, .slice (some ⟨b5, 0, none⟩) (([(⟨2, 0, 0, 0, 0⟩ : Stp)] : List Stp)).length ((([(⟨2, 0, 0, 0, 0⟩ : Stp)] : List Stp)).length), .slice none 0 0], [])] ?_
  refine lA 5 104 ([.int .i64 0, .slice none 0 0, .slice none 0 0]) hs (fun b10 w11 h12 hs => ?_)
  refine lP 0 0 ([.int .i64 1, .slice (some ⟨b5, 0, none⟩) (([(⟨2, 0, 0, 0, 0⟩ : Stp)] : List Stp)).length ((([(⟨2, 0, 0, 0, 0⟩ : Stp)] : List Stp)).length), .slice none 0 0]) hs (fun w13 hs => ?_)
  refine lN ?_
  refine CG.seq ?_
  refine cSL ?_
  refine lS hs [(6, .int .i64 0, [])] ?_
  refine lN ?_
  refine CG.block ?_
  refine cTo [(0, .int .i64 (pick n_ 30 : Nat)), (1, .int .i64 12), (4, .bool false), (5, .pointer (some ⟨b10, 0, none⟩)), (6, .int .i64 0)] ?_
  refine CG.loop (fun μ_ Γ w_ => ∃ (k : Nat) (saA : Option Addr) (sac : Nat) (al : List Stp) (h_ : Hp), μ_ = pick n_ 30 - k ∧ Γ = [(0, .int .i64 (pick n_ 30 : Nat)), (1, .int .i64 12), (4, .bool false), (5, .pointer (some ⟨b10, 0, none⟩)), (6, .int .i64 (k : Nat))] ∧ SS w h w_ h_ [⟨b10, 104, [.int .i64 1, .slice saA (al).length sac, .slice none 0 0]⟩] [⟨101, 9, saA, sac, (al).length, (al).flatMap stc⟩] [] ∧ (k ≤ pick n_ 30) ∧ (al = heavyT 12 k)) _ ⟨0, some ⟨b5, 0, none⟩, (([(⟨2, 0, 0, 0, 0⟩ : Stp)] : List Stp)).length, ([(⟨2, 0, 0, 0, 0⟩ : Stp)] : List Stp), h12, rfl, rfl, hs.to _ _, Nat.zero_le _, rfl⟩ ?_
  rintro _ _ w14 ⟨k, saA, sac, al, h15, hm16, rfl, hs, hk, hal⟩
  have hll : al.length = k + 1 := by rw [hal, heavyT_len]
  refine CG.seq ?_
  refine cSL ?_
  refine lS hs [(17, .int .i64 (k : Nat), []), (18, .int .i64 (pick n_ 30 : Nat), [])] ?_
  cases hb17 : (decide (((k : Nat) : Int) < ((pick n_ 30 : Nat) : Int)))
  ·
    have phb17 := of_decide_eq_false hb17
    refine lB 19 hb17 ?_
    refine lN ?_
    refine cIF ?_
    refine CG.exit ?_
    show CG _ _ _ _ _ _ _ _
    refine cSL ?_
    refine lS hs [(7, .int .i64 0, [])] ?_
    refine lN ?_
    refine CG.seq ?_
    refine cSL ?_
    refine lS hs [(31, .int .i64 (pick n_ 30 : Nat), [])] ?_
    cases hb18 : (decide ((16 : Int) < ((pick n_ 30 : Nat) : Int)))
    ·
      have phb18 := of_decide_eq_false hb18
      refine lB 32 hb18 ?_
      refine lN ?_
      refine cIF ?_
      refine CG.skipN ?_
      refine cSL ?_
      refine lC 33 hs (lKnown28 _ _ hs.g) ?_
      rintro _ w19 h20 hs rfl
      refine lS hs [(34, .bool true, [])] ?_
      obtain ⟨h21, hs, hc22⟩ := hs.pubr 0 (A := saA) (c := sac) (l := al) (f := stc) (ty := 101) (sz := 9) stp0 (fun _ => rfl)
      refine lS hs [(35, .agg #[.int .i64 1, .slice saA ((al).length) sac, .slice none 0 0], [(0, 0, 3)])] ?_
      refine lC 36 hs (tCheck 1 saA sac al none 0 [] (by rw [hal, heavyT_len]; omega) (by decide) (by rw [hal]; exact fun i hi => heavy_sm 12 _ i hi) _ _ hs.g (hs.f.1) SlO.nil) ?_
      rintro _ w24 h25 hs rfl
      have hck := heavy_chk (pick n_ 30) lp 12 (by decide)
      have hkn : k = pick n_ 30 := by omega
      rw [← hkn, ← hal] at hck
      first | rw [if_pos (by omega)] at hck | rw [if_neg (by omega)] at hck
      refine lS hs [(37, .int .i64 0, [])] ?_
      have hb26 : ((chkTp 1 al [] : Int) == (0 : Int)) = true := beqT (by omega)
      have phb26 := eq_of_beq hb26
      refine lB 38 hb26 ?_
      refine lS hs [(39, .bool true, []), (4, .bool true, [])] ?_
      refine lN ?_
      refine cTo [(4, .bool true)] ?_
      refine CG.ret ?_
      exact hs.ret [] (.bool true) rfl
    ·
      have phb18 := of_decide_eq_true hb18
      refine lB 32 hb18 ?_
      refine lN ?_
      refine cIT ?_
      refine CG.listed ?_
      refine lS hs [(7, .int .i64 18, [])] ?_
      refine lN ?_
      refine cSL ?_
      refine lC 33 hs (lKnown28 _ _ hs.g) ?_
      rintro _ w27 h28 hs rfl
      refine lS hs [(34, .bool true, [])] ?_
      obtain ⟨h29, hs, hc30⟩ := hs.pubr 0 (A := saA) (c := sac) (l := al) (f := stc) (ty := 101) (sz := 9) stp0 (fun _ => rfl)
      refine lS hs [(35, .agg #[.int .i64 1, .slice saA ((al).length) sac, .slice none 0 0], [(0, 0, 3)])] ?_
      refine lC 36 hs (tCheck 1 saA sac al none 0 [] (by rw [hal, heavyT_len]; omega) (by decide) (by rw [hal]; exact fun i hi => heavy_sm 12 _ i hi) _ _ hs.g (hs.f.1) SlO.nil) ?_
      rintro _ w32 h33 hs rfl
      have hck := heavy_chk (pick n_ 30) lp 12 (by decide)
      have hkn : k = pick n_ 30 := by omega
      rw [← hkn, ← hal] at hck
      first | rw [if_pos (by omega)] at hck | rw [if_neg (by omega)] at hck
      refine lS hs [(37, .int .i64 18, [])] ?_
      have hb34 : ((chkTp 1 al [] : Int) == (18 : Int)) = true := beqT (by omega)
      have phb34 := eq_of_beq hb34
      refine lB 38 hb34 ?_
      refine lS hs [(39, .bool true, []), (4, .bool true, [])] ?_
      refine lN ?_
      refine cTo [(4, .bool true)] ?_
      refine CG.ret ?_
      exact hs.ret [] (.bool true) rfl
  ·
    have phb17 := of_decide_eq_true hb17
    refine lB 19 hb17 ?_
    refine lN ?_
    refine cIT ?_
    refine CG.skipN ?_
    refine CG.seq ?_
    refine CG.block ?_
    refine CG.listed ?_
    refine lS hs [(22, .pointer (some ⟨b10, 1, none⟩), []), (23, .slice saA (al).length sac, [(0, 1, 1)]), (24, .int .i64 12, []), (25, .int .i64 (k : Nat), []), (26, .int .i64 (k : Nat), []), (27, .agg #[.int .i64 12, .int .i64 (k : Nat), .int .i64 (k : Nat), .int .i64 0, .bool false, .int .u64 0, .string (⟨#[]⟩), .int .u64 0, .string (⟨#[]⟩)], [])] ?_
    refine lR 28 101 1 ([.int .i64 12, .int .i64 (k : Nat), .int .i64 (k : Nat), .int .i64 0, .bool false, .int .u64 0, .string (⟨#[]⟩), .int .u64 0, .string (⟨#[]⟩)]) hs (fun b35 w36 h37 hs => ?_)
    refine lY 29 0 101 9 sac saA al stc (⟨12, (k : Nat), (k : Nat), 0, 0⟩ : Stp) 88 b35 (.agg #[.int .i64 0, .int .i64 0, .int .i64 0, .int .i64 0, .bool false, .int .u64 0, .string (⟨#[]⟩), .int .u64 0, .string (⟨#[]⟩)]) hs (hs.f.1) (fun A39 c40 w41 h42 hs => ?_)
    refine lS hs [(30, .pointer (some ⟨b10, 1, none⟩), [])] ?_
    refine lP 0 1 ([.slice A39 (al ++ [(⟨12, (k : Nat), (k : Nat), 0, 0⟩ : Stp)]).length c40]) hs (fun w44 hs => ?_)
    refine lN ?_
    refine CG.listed ?_
    refine lS hs [(20, .int .i64 (k : Nat), [])] ?_
    refine lIn 21 ((k : Nat) + 1) (k + 1) ?_
    refine lS hs [(6, .int .i64 (k + 1 : Nat), [])] ?_
    refine lD ?_
    intro a_ ka
    have q45 : (k + 1) ≤ pick n_ 30 := by omega
    have q46 : (al ++ [(⟨12, (k : Nat), (k : Nat), 0, 0⟩ : Stp)]) = heavyT 12 (k + 1) := by rw [hal]; rfl
    replace hs := hs.tl
    refine ⟨_, _, ?_, ⟨k + 1, A39, c40, al ++ [(⟨12, (k : Nat), (k : Nat), 0, 0⟩ : Stp)], h42, rfl, rfl, hs.to _ _, q45, q46⟩, ka.to [(0, .int .i64 (pick n_ 30 : Nat)), (1, .int .i64 12), (4, .bool false), (5, .pointer (some ⟨b10, 0, none⟩)), (6, .int .i64 ((k + 1) : Nat))] (by kernel_rfl)⟩
    omega

set_option maxRecDepth 100000 in
set_option maxHeartbeats 600000 in
theorem lHeavy3 (n_ o_ : Int) (hk4 : pick o_ 4 = 3) (w : World) (h : Hp) (g : G w h) :
    Calls Tryz.prog 7 #[.int .i64 n_, .int .i64 o_] w (Ret w h fun v _ => v = .bool true) := by
  have hs := SS.start g
  refine go Tryz.func7 [(0, .int .i64 n_), (1, .int .i64 o_)] rfl ?_
  refine cSL ?_
  refine lS hs [(4, .bool false, [])] ?_
  refine lN ?_
  refine cSL ?_
  refine lS hs [(8, .int .i64 n_, [])] ?_
  refine lC 9 hs (hPick n_ 30 (by omega) (by omega) _ _ hs.g) ?_
  rintro _ w1 h2 hs rfl
  have lp := pick_lt n_ 30 (by omega)
  refine lS hs [(0, .int .i64 (pick n_ 30 : Nat), [])] ?_
  refine lN ?_
  refine cSL ?_
  refine lS hs [(10, .agg #[.int .i64 5, .int .i64 3, .int .i64 12, .int .i64 6], []), (11, .int .i64 o_, [])] ?_
  refine lC 12 hs (hPickE o_ 4 3 (by omega) (by omega) hk4 _ _ hs.g) ?_
  rintro _ w3 h4 hs rfl
  refine lS hs [(13, .int .i64 6, []), (1, .int .i64 6, [])] ?_
  refine lN ?_
  refine cSL ?_
  refine lS hs [(14, .agg #[.int .i64 2, .int .i64 0, .int .i64 0, .int .i64 0, .bool false, .int .u64 0, .string (⟨#[]⟩), .int .u64 0, .string (⟨#[]⟩)], [])] ?_
  refine lRw 15 101 9 stc ([(⟨2, 0, 0, 0, 0⟩ : Stp)] : List Stp) hs (fun b5 w6 h7 hs => ?_)
  refine lS hs [(16, .agg #[.int .i64 1, .slice (some ⟨b5, 0, none⟩) (([(⟨2, 0, 0, 0, 0⟩ : Stp)] : List Stp)).length ((([(⟨2, 0, 0, 0, 0⟩ : Stp)] : List Stp)).length), .slice none 0 0], [])] ?_
  refine lA 5 104 ([.int .i64 0, .slice none 0 0, .slice none 0 0]) hs (fun b10 w11 h12 hs => ?_)
  refine lP 0 0 ([.int .i64 1, .slice (some ⟨b5, 0, none⟩) (([(⟨2, 0, 0, 0, 0⟩ : Stp)] : List Stp)).length ((([(⟨2, 0, 0, 0, 0⟩ : Stp)] : List Stp)).length), .slice none 0 0]) hs (fun w13 hs => ?_)
  refine lN ?_
  refine CG.seq ?_
  refine cSL ?_
  refine lS hs [(6, .int .i64 0, [])] ?_
  refine lN ?_
  refine CG.block ?_
  refine cTo [(0, .int .i64 (pick n_ 30 : Nat)), (1, .int .i64 6), (4, .bool false), (5, .pointer (some ⟨b10, 0, none⟩)), (6, .int .i64 0)] ?_
  refine CG.loop (fun μ_ Γ w_ => ∃ (k : Nat) (saA : Option Addr) (sac : Nat) (al : List Stp) (h_ : Hp), μ_ = pick n_ 30 - k ∧ Γ = [(0, .int .i64 (pick n_ 30 : Nat)), (1, .int .i64 6), (4, .bool false), (5, .pointer (some ⟨b10, 0, none⟩)), (6, .int .i64 (k : Nat))] ∧ SS w h w_ h_ [⟨b10, 104, [.int .i64 1, .slice saA (al).length sac, .slice none 0 0]⟩] [⟨101, 9, saA, sac, (al).length, (al).flatMap stc⟩] [] ∧ (k ≤ pick n_ 30) ∧ (al = heavyT 6 k)) _ ⟨0, some ⟨b5, 0, none⟩, (([(⟨2, 0, 0, 0, 0⟩ : Stp)] : List Stp)).length, ([(⟨2, 0, 0, 0, 0⟩ : Stp)] : List Stp), h12, rfl, rfl, hs.to _ _, Nat.zero_le _, rfl⟩ ?_
  rintro _ _ w14 ⟨k, saA, sac, al, h15, hm16, rfl, hs, hk, hal⟩
  have hll : al.length = k + 1 := by rw [hal, heavyT_len]
  refine CG.seq ?_
  refine cSL ?_
  refine lS hs [(17, .int .i64 (k : Nat), []), (18, .int .i64 (pick n_ 30 : Nat), [])] ?_
  cases hb17 : (decide (((k : Nat) : Int) < ((pick n_ 30 : Nat) : Int)))
  ·
    have phb17 := of_decide_eq_false hb17
    refine lB 19 hb17 ?_
    refine lN ?_
    refine cIF ?_
    refine CG.exit ?_
    show CG _ _ _ _ _ _ _ _
    refine cSL ?_
    refine lS hs [(7, .int .i64 0, [])] ?_
    refine lN ?_
    refine CG.seq ?_
    refine cSL ?_
    refine lS hs [(31, .int .i64 (pick n_ 30 : Nat), [])] ?_
    cases hb18 : (decide ((16 : Int) < ((pick n_ 30 : Nat) : Int)))
    ·
      have phb18 := of_decide_eq_false hb18
      refine lB 32 hb18 ?_
      refine lN ?_
      refine cIF ?_
      refine CG.skipN ?_
      refine cSL ?_
      refine lC 33 hs (lKnown28 _ _ hs.g) ?_
      rintro _ w19 h20 hs rfl
      refine lS hs [(34, .bool true, [])] ?_
      obtain ⟨h21, hs, hc22⟩ := hs.pubr 0 (A := saA) (c := sac) (l := al) (f := stc) (ty := 101) (sz := 9) stp0 (fun _ => rfl)
      refine lS hs [(35, .agg #[.int .i64 1, .slice saA ((al).length) sac, .slice none 0 0], [(0, 0, 3)])] ?_
      refine lC 36 hs (tCheck 1 saA sac al none 0 [] (by rw [hal, heavyT_len]; omega) (by decide) (by rw [hal]; exact fun i hi => heavy_sm 6 _ i hi) _ _ hs.g (hs.f.1) SlO.nil) ?_
      rintro _ w24 h25 hs rfl
      have hck := heavy_chk (pick n_ 30) lp 6 (by decide)
      have hkn : k = pick n_ 30 := by omega
      rw [← hkn, ← hal] at hck
      first | rw [if_pos (by omega)] at hck | rw [if_neg (by omega)] at hck
      refine lS hs [(37, .int .i64 0, [])] ?_
      have hb26 : ((chkTp 1 al [] : Int) == (0 : Int)) = true := beqT (by omega)
      have phb26 := eq_of_beq hb26
      refine lB 38 hb26 ?_
      refine lS hs [(39, .bool true, []), (4, .bool true, [])] ?_
      refine lN ?_
      refine cTo [(4, .bool true)] ?_
      refine CG.ret ?_
      exact hs.ret [] (.bool true) rfl
    ·
      have phb18 := of_decide_eq_true hb18
      refine lB 32 hb18 ?_
      refine lN ?_
      refine cIT ?_
      refine CG.listed ?_
      refine lS hs [(7, .int .i64 18, [])] ?_
      refine lN ?_
      refine cSL ?_
      refine lC 33 hs (lKnown28 _ _ hs.g) ?_
      rintro _ w27 h28 hs rfl
      refine lS hs [(34, .bool true, [])] ?_
      obtain ⟨h29, hs, hc30⟩ := hs.pubr 0 (A := saA) (c := sac) (l := al) (f := stc) (ty := 101) (sz := 9) stp0 (fun _ => rfl)
      refine lS hs [(35, .agg #[.int .i64 1, .slice saA ((al).length) sac, .slice none 0 0], [(0, 0, 3)])] ?_
      refine lC 36 hs (tCheck 1 saA sac al none 0 [] (by rw [hal, heavyT_len]; omega) (by decide) (by rw [hal]; exact fun i hi => heavy_sm 6 _ i hi) _ _ hs.g (hs.f.1) SlO.nil) ?_
      rintro _ w32 h33 hs rfl
      have hck := heavy_chk (pick n_ 30) lp 6 (by decide)
      have hkn : k = pick n_ 30 := by omega
      rw [← hkn, ← hal] at hck
      first | rw [if_pos (by omega)] at hck | rw [if_neg (by omega)] at hck
      refine lS hs [(37, .int .i64 18, [])] ?_
      have hb34 : ((chkTp 1 al [] : Int) == (18 : Int)) = true := beqT (by omega)
      have phb34 := eq_of_beq hb34
      refine lB 38 hb34 ?_
      refine lS hs [(39, .bool true, []), (4, .bool true, [])] ?_
      refine lN ?_
      refine cTo [(4, .bool true)] ?_
      refine CG.ret ?_
      exact hs.ret [] (.bool true) rfl
  ·
    have phb17 := of_decide_eq_true hb17
    refine lB 19 hb17 ?_
    refine lN ?_
    refine cIT ?_
    refine CG.skipN ?_
    refine CG.seq ?_
    refine CG.block ?_
    refine CG.listed ?_
    refine lS hs [(22, .pointer (some ⟨b10, 1, none⟩), []), (23, .slice saA (al).length sac, [(0, 1, 1)]), (24, .int .i64 6, []), (25, .int .i64 (k : Nat), []), (26, .int .i64 (k : Nat), []), (27, .agg #[.int .i64 6, .int .i64 (k : Nat), .int .i64 (k : Nat), .int .i64 0, .bool false, .int .u64 0, .string (⟨#[]⟩), .int .u64 0, .string (⟨#[]⟩)], [])] ?_
    refine lR 28 101 1 ([.int .i64 6, .int .i64 (k : Nat), .int .i64 (k : Nat), .int .i64 0, .bool false, .int .u64 0, .string (⟨#[]⟩), .int .u64 0, .string (⟨#[]⟩)]) hs (fun b35 w36 h37 hs => ?_)
    refine lY 29 0 101 9 sac saA al stc (⟨6, (k : Nat), (k : Nat), 0, 0⟩ : Stp) 88 b35 (.agg #[.int .i64 0, .int .i64 0, .int .i64 0, .int .i64 0, .bool false, .int .u64 0, .string (⟨#[]⟩), .int .u64 0, .string (⟨#[]⟩)]) hs (hs.f.1) (fun A39 c40 w41 h42 hs => ?_)
    refine lS hs [(30, .pointer (some ⟨b10, 1, none⟩), [])] ?_
    refine lP 0 1 ([.slice A39 (al ++ [(⟨6, (k : Nat), (k : Nat), 0, 0⟩ : Stp)]).length c40]) hs (fun w44 hs => ?_)
    refine lN ?_
    refine CG.listed ?_
    refine lS hs [(20, .int .i64 (k : Nat), [])] ?_
    refine lIn 21 ((k : Nat) + 1) (k + 1) ?_
    refine lS hs [(6, .int .i64 (k + 1 : Nat), [])] ?_
    refine lD ?_
    intro a_ ka
    have q45 : (k + 1) ≤ pick n_ 30 := by omega
    have q46 : (al ++ [(⟨6, (k : Nat), (k : Nat), 0, 0⟩ : Stp)]) = heavyT 6 (k + 1) := by rw [hal]; rfl
    replace hs := hs.tl
    refine ⟨_, _, ?_, ⟨k + 1, A39, c40, al ++ [(⟨6, (k : Nat), (k : Nat), 0, 0⟩ : Stp)], h42, rfl, rfl, hs.to _ _, q45, q46⟩, ka.to [(0, .int .i64 (pick n_ 30 : Nat)), (1, .int .i64 6), (4, .bool false), (5, .pointer (some ⟨b10, 0, none⟩)), (6, .int .i64 ((k + 1) : Nat))] (by kernel_rfl)⟩
    omega


theorem lHeavy (n_ o_ : Int) (w : World) (h : Hp) (g : G w h) : Calls Tryz.prog 7 #[.int .i64 n_, .int .i64 o_] w (Ret w h fun v _ => v = .bool true) := by
  have h4 := pick_lt o_ 4 (by omega)
  have : pick o_ 4 = 0 ∨ pick o_ 4 = 1 ∨ pick o_ 4 = 2 ∨ pick o_ 4 = 3 := by omega
  rcases this with e | e | e | e
  · exact lHeavy0 n_ o_ e w h g
  · exact lHeavy1 n_ o_ e w h g
  · exact lHeavy2 n_ o_ e w h g
  · exact lHeavy3 n_ o_ e w h g

end Go.Proofs.YtokbipmfhfmnfaaGreatDoor
