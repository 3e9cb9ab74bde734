/- law30.known: chapter 30's example holds. -/
import Derived.Test.YtbhpcpkcjgkcpaaGreatDoorMkB
namespace Go.Proofs.YtbhpcpkcjgkcpaaGreatDoor
open Go.RowKit


/-- Chapter 30's example. -/
def knownN : List Lay := [⟨2, [[((1 : Int) : Rat), ((-1 : Int) : Rat)]], [((0 : Int) : Rat)]⟩]
def knownD (i : Nat) : Nat := if i = 0 then 2 else 1
theorem knownOk : NetOk knownN knownD := by
  refine ⟨⟨by decide, by decide⟩, by decide, fun i hi => ?_⟩
  have hi' : i < 1 := hi
  have : i = 0 := by omega
  subst this
  exact ⟨⟨rfl, by decide, by decide, fun i hi => by have : i = 0 := by (have : i < 1 := hi); omega
                                                    subst this; rfl⟩, rfl, by decide, .inr rfl⟩
theorem two_of {i : Nat} (h : i < 2) : i = 0 ∨ i = 1 := by omega
theorem knownSm (a b : Int) (s : LaySm (knownN.getD 0 lay0) [(a : Rat), (b : Rat)] 1 2) : ∀ k, k < knownN.length → LaySm (knownN.getD k lay0) (outq knownN [(a : Rat), (b : Rat)] k) (knownD (k + 1)) (knownD k) := by
  intro k hk
  have hk' : k < 1 := hk
  have : k = 0 := by omega
  subst this
  exact s
instance (q : Rat) : Decidable (Sm q) := by unfold Sm; infer_instance
theorem laySm_dec (L : Lay) (x : List Rat) (r c : Nat) (h : (decide (∀ j, j < c → Sm (x.getD j 0)) && decide (∀ i, i < r → ∀ j, j < c → Sm ((L.W.getD i []).getD j 0)) && decide (∀ i, i < r → ∀ j, j < c → Sm ((L.W.getD i []).getD j 0 * x.getD j 0)) && decide (∀ i, i < r → ∀ j, j < c + 1 → Sm (dotq (L.W.getD i []) x j)) && decide (∀ i, i < r → Sm (L.B.getD i 0)) && decide (∀ i, i < r → Sm (dotq (L.W.getD i []) x c + L.B.getD i 0))) = true) : LaySm L x r c := by
  simp only [Bool.and_eq_true, decide_eq_true_eq] at h
  obtain ⟨⟨⟨⟨⟨h1, h2⟩, h3⟩, h4⟩, h5⟩, h6⟩ := h
  exact ⟨h1, fun i j hi hj => h2 i hi j hj, fun i j hi hj => h3 i hi j hj, fun i j hi hj => h4 i hi j (by omega), h5, h6⟩
theorem knownSm1 : ∀ k, k < knownN.length → LaySm (knownN.getD k lay0) (outq knownN [((1 : Int) : Rat), ((2 : Int) : Rat)] k) (knownD (k + 1)) (knownD k) := knownSm 1 2 (laySm_dec _ _ _ _ (by decide +kernel))
theorem knownSm5 : ∀ k, k < knownN.length → LaySm (knownN.getD k lay0) (outq knownN [((5 : Int) : Rat), ((2 : Int) : Rat)] k) (knownD (k + 1)) (knownD k) := knownSm 5 2 (laySm_dec _ _ _ _ (by decide +kernel))

set_option maxRecDepth 100000 in
set_option maxHeartbeats 600000 in
theorem lKnown  (w : World) (h : Hp) (g : G w h) :
    Calls Tryz.prog 19 #[] w (Ret w h fun v _ => v = .bool true) := by
  have hs := St.start g
  refine enter (n := 54) Tryz.func19 rfl rfl (Nat.le_of_ble_eq_true (by kernel_rfl)) [] rfl ?_
  refine CG.seq ?_
  refine CG.listed ?_
  refine LG.val 0 (.bool false) w (by kernel_rfl) (by kernel_rfl) (by kernel_rfl) ?_
  refine LG.next (by kernel_rfl) ?_
  refine CG.seq ?_
  refine CG.listed ?_
  refine LG.call 6 22 #[.int .i64 1] (by kernel_rfl) (by kernel_rfl) (by kernel_rfl) ?_
  refine (Ret.of_ext hs.g (cOf (1) (by decide) (by decide) w)).mono ?_
  rintro _ w1 ⟨vu3, h2, rfl, u3, rfl⟩
  refine ⟨_, rfl, ?_⟩
  replace hs := hs.step u3
  refine LG.call 7 22 #[.int .i64 (-1)] (by kernel_rfl) (by kernel_rfl) (by kernel_rfl) ?_
  refine (Ret.of_ext hs.g (cOf (-1) (by decide) (by decide) w1)).mono ?_
  rintro _ w4 ⟨vu6, h5, rfl, u6, rfl⟩
  refine ⟨_, rfl, ?_⟩
  replace hs := hs.step u6
  refine LG.row 8 45 2 ([.bool (ineg ((1 : Int) : Rat).num), .int .u64 (lo (iabs ((1 : Int) : Rat).num)), .string (hi (iabs ((1 : Int) : Rat).num)), .int .u64 (lo (qd ((1 : Int) : Rat))), .string (hi (qd ((1 : Int) : Rat))), .bool (ineg ((-1 : Int) : Rat).num), .int .u64 (lo (iabs ((-1 : Int) : Rat).num)), .string (hi (iabs ((-1 : Int) : Rat).num)), .int .u64 (lo (qd ((-1 : Int) : Rat))), .string (hi (qd ((-1 : Int) : Rat)))]) hs.g (by kernel_rfl) (by kernel_rfl) (by kernel_rfl) (fun b7 w8 h9 u10 hS11 => ?_)
  replace hs := hs.step u10
  have hA12 : SlO 5 qc 0 h9 (some ⟨b7, 0, none⟩) [((1 : Int) : Rat), ((-1 : Int) : Rat)] := SlO.of_flat (fun _ => rfl) hS11
  refine LG.row 9 32 1 ([.slice (some ⟨b7, 0, none⟩) 2 2]) hs.g (by kernel_rfl) (by kernel_rfl) (by kernel_rfl) (fun b13 w14 h15 u16 hS17 => ?_)
  replace hs := hs.step u16
  replace hA12 := hA12.gw u16.gr.gw
  have hA18 : SlO 1 vc undef h15 (some ⟨b13, 0, none⟩) [.slice (some ⟨b7, 0, none⟩) 2 2] := SlO.of_flat (fun _ => rfl) hS17
  refine LG.call 10 22 #[.int .i64 0] (by kernel_rfl) (by kernel_rfl) (by kernel_rfl) ?_
  refine (Ret.of_ext hs.g (cOf (0) (by decide) (by decide) w14)).mono ?_
  rintro _ w19 ⟨vu21, h20, rfl, u21, rfl⟩
  refine ⟨_, rfl, ?_⟩
  replace hs := hs.step u21
  replace hA12 := hA12.gw u21.gr.gw
  replace hA18 := hA18.gw u21.gr.gw
  refine LG.row 11 45 1 (qc ((0 : Int) : Rat)) hs.g (by kernel_rfl) (by kernel_rfl) (by kernel_rfl) (fun b22 w23 h24 u25 hS26 => ?_)
  replace hs := hs.step u25
  replace hA12 := hA12.gw u25.gr.gw
  replace hA18 := hA18.gw u25.gr.gw
  have hA27 : SlO 5 qc 0 h24 (some ⟨b22, 0, none⟩) [((0 : Int) : Rat)] := SlO.of_flat (fun _ => rfl) hS26
  refine LG.val 12 (.agg #[.int .i64 2, .slice (some ⟨b13, 0, none⟩) 1 1, .slice (some ⟨b22, 0, none⟩) 1 1]) w23 (by kernel_rfl) (by kernel_rfl) (by kernel_rfl) ?_
  refine LG.row 13 57 1 ([.int .i64 2, .slice (some ⟨b13, 0, none⟩) 1 1, .slice (some ⟨b22, 0, none⟩) 1 1]) hs.g (by kernel_rfl) (by kernel_rfl) (by kernel_rfl) (fun b28 w29 h30 u31 hS32 => ?_)
  replace hs := hs.step u31
  replace hA12 := hA12.gw u31.gr.gw
  replace hA18 := hA18.gw u31.gr.gw
  replace hA27 := hA27.gw u31.gr.gw
  have hA33 : SlO 3 lvc lvd h30 (some ⟨b28, 0, none⟩) [(2, .slice (some ⟨b13, 0, none⟩) 1 1, .slice (some ⟨b22, 0, none⟩) 1 1)] := SlO.of_flat (fun _ => rfl) hS32
  have hN : NetL h30 [(2, .slice (some ⟨b13, 0, none⟩) 1 1, .slice (some ⟨b22, 0, none⟩) 1 1)] knownN := NetL.snoc NetL.nil ⟨rfl, ⟨_, _, [.slice (some ⟨b7, 0, none⟩) 2 2], rfl, Nat.le_refl _, hA18, QVs.snoc QVs.nil ⟨_, _, rfl, Nat.le_refl _, hA12⟩⟩, ⟨_, _, rfl, Nat.le_refl _, hA27⟩⟩
  refine LG.val 14 (.agg #[.slice (some ⟨b28, 0, none⟩) 1 1]) w29 (by kernel_rfl) (by kernel_rfl) (by kernel_rfl) ?_
  refine LG.var 1 25 ([.slice none 0 0]) hs (by kernel_rfl) (by kernel_rfl) (by kernel_rfl) (fun b34 w35 h36 nb_ u37 hs => ?_)
  replace hA12 := hA12.gw u37.gr.gw
  replace hA18 := hA18.gw u37.gr.gw
  replace hA27 := hA27.gw u37.gr.gw
  replace hA33 := hA33.gw u37.gr.gw
  replace hN := hN.gw u37.gr.gw
  refine LG.put 0 0 ([.slice (some ⟨b28, 0, none⟩) 1 1]) hs g (by kernel_rfl) (by kernel_rfl) (by kernel_rfl) (by kernel_rfl) (fun w38 pu hs => ?_)
  refine LG.next (by kernel_rfl) ?_
  refine CG.to [(0, .bool false), (1, .pointer (some ⟨b34, 0, none⟩))] (by kernel_rfl) ?_
  refine CG.seq ?_
  have hsr := hs
  refine CG.region [] 8 [] mixed (by kernel_rfl) hs.g al_nil (fun _ hb => by cases hb) ?_
  refine Rg.own 0 16 [(0, 0, 1)] (.agg #[.slice (some ⟨b28, 0, none⟩) 1 1]) hs (by kernel_rfl) (by kernel_rfl) (fun _ _ => List.not_mem_nil) (by kernel_rfl) (by kernel_rfl) ?_
  refine Rg.call 1 17 22 #[.int .i64 1] (by kernel_rfl) (by kernel_rfl) (fun _ => by kernel_rfl) (fun w42 h43 u44 => ?_)
  replace hs := hs.step u44
  replace hA12 := hA12.gw u44.gr.gw
  replace hA18 := hA18.gw u44.gr.gw
  replace hA27 := hA27.gw u44.gr.gw
  replace hA33 := hA33.gw u44.gr.gw
  replace hN := hN.gw u44.gr.gw
  refine (Ret.of_ext hs.g (cOf (1) (by decide) (by decide) w42)).mono ?_
  rintro _ w39 ⟨vu41, h40, rfl, u41, rfl⟩
  refine ⟨_, h40, rfl, u41.m _, ?_⟩
  replace hs := hs.step u41
  replace hA12 := hA12.gw u41.gr.gw
  replace hA18 := hA18.gw u41.gr.gw
  replace hA27 := hA27.gw u41.gr.gw
  replace hA33 := hA33.gw u41.gr.gw
  replace hN := hN.gw u41.gr.gw
  refine Rg.call 2 18 22 #[.int .i64 2] (by kernel_rfl) (by kernel_rfl) (fun _ => by kernel_rfl) (fun w48 h49 u50 => ?_)
  replace hs := hs.step u50
  replace hA12 := hA12.gw u50.gr.gw
  replace hA18 := hA18.gw u50.gr.gw
  replace hA27 := hA27.gw u50.gr.gw
  replace hA33 := hA33.gw u50.gr.gw
  replace hN := hN.gw u50.gr.gw
  refine (Ret.of_ext hs.g (cOf (2) (by decide) (by decide) w48)).mono ?_
  rintro _ w45 ⟨vu47, h46, rfl, u47, rfl⟩
  refine ⟨_, h46, rfl, u47.m _, ?_⟩
  replace hs := hs.step u47
  replace hA12 := hA12.gw u47.gr.gw
  replace hA18 := hA18.gw u47.gr.gw
  replace hA27 := hA27.gw u47.gr.gw
  replace hA33 := hA33.gw u47.gr.gw
  replace hN := hN.gw u47.gr.gw
  refine Rg.row 3 19 45 2 ([.bool (ineg ((1 : Int) : Rat).num), .int .u64 (lo (iabs ((1 : Int) : Rat).num)), .string (hi (iabs ((1 : Int) : Rat).num)), .int .u64 (lo (qd ((1 : Int) : Rat))), .string (hi (qd ((1 : Int) : Rat))), .bool (ineg ((2 : Int) : Rat).num), .int .u64 (lo (iabs ((2 : Int) : Rat).num)), .string (hi (iabs ((2 : Int) : Rat).num)), .int .u64 (lo (qd ((2 : Int) : Rat))), .string (hi (qd ((2 : Int) : Rat)))]) (by kernel_rfl) (by kernel_rfl) (fun _ => by kernel_rfl) (fun b51 w52 h53 u54 hS55 => ?_)
  replace hs := hs.step u54
  replace hA12 := hA12.gw u54.gr.gw
  replace hA18 := hA18.gw u54.gr.gw
  replace hA27 := hA27.gw u54.gr.gw
  replace hA33 := hA33.gw u54.gr.gw
  replace hN := hN.gw u54.gr.gw
  have hA56 : SlO 5 qc 0 h53 (some ⟨b51, 0, none⟩) [((1 : Int) : Rat), ((2 : Int) : Rat)] := SlO.of_flat (fun _ => rfl) hS55
  refine Rg.call 4 20 14 #[.agg #[.slice (some ⟨b28, 0, none⟩) 1 1], .slice (some ⟨b51, 0, none⟩) 2 2] (by kernel_rfl) (by kernel_rfl) (fun _ => by kernel_rfl) (fun w61 h62 u63 => ?_)
  replace hs := hs.step u63
  replace hA12 := hA12.gw u63.gr.gw
  replace hA18 := hA18.gw u63.gr.gw
  replace hA27 := hA27.gw u63.gr.gw
  replace hA33 := hA33.gw u63.gr.gw
  replace hN := hN.gw u63.gr.gw
  replace hA56 := hA56.gw u63.gr.gw
  refine (nAnswer (some ⟨b28, 0, none⟩) 1 [(2, .slice (some ⟨b13, 0, none⟩) 1 1, .slice (some ⟨b22, 0, none⟩) 1 1)] knownN knownD knownOk (some ⟨b51, 0, none⟩) 2 [((1 : Int) : Rat), ((2 : Int) : Rat)] rfl (Nat.le_refl _) (knownSm1) w61 h62 hs.g hA33 hN hA56).mono ?_
  rintro _ w58 ⟨vu60, h59, rfl, u60, ⟨Ax5, cx5, rfl, hcx5, hXk5⟩⟩
  refine ⟨_, h59, rfl, u60.m _, ?_⟩
  replace hs := hs.step u60
  replace hA12 := hA12.gw u60.gr.gw
  replace hA18 := hA18.gw u60.gr.gw
  replace hA27 := hA27.gw u60.gr.gw
  replace hA33 := hA33.gw u60.gr.gw
  replace hN := hN.gw u60.gr.gw
  replace hA56 := hA56.gw u60.gr.gw
  have hlk5 : (outq knownN [((1 : Int) : Rat), ((2 : Int) : Rat)] knownN.length).length = 1 := rfl
  refine Rg.pure 5 15 (.tuple #[.slice Ax5 ((outq knownN [((1 : Int) : Rat), ((2 : Int) : Rat)] knownN.length).length) cx5, .int .i64 0]) (by kernel_rfl) (by kernel_rfl) (fun _ => by kernel_rfl) ?_
  refine Rg.pure 6 21 (.slice Ax5 ((outq knownN [((1 : Int) : Rat), ((2 : Int) : Rat)] knownN.length).length) cx5) (by kernel_rfl) (by kernel_rfl) (fun _ => by kernel_rfl) ?_
  refine Rg.pure 7 22 (.int .i64 0) (by kernel_rfl) (by kernel_rfl) (fun _ => by kernel_rfl) ?_
  refine Rg.fin0 (by kernel_rfl) (fun w64 h65 u66 => ?_)
  replace hs := hs.step u66
  replace hA12 := hA12.gw u66.gr.gw
  replace hA18 := hA18.gw u66.gr.gw
  replace hA27 := hA27.gw u66.gr.gw
  replace hA33 := hA33.gw u66.gr.gw
  replace hN := hN.gw u66.gr.gw
  replace hA56 := hA56.gw u66.gr.gw
  replace hXk5 := hXk5.gw u66.gr.gw
  refine T.val 8 2 (.slice Ax5 ((outq knownN [((1 : Int) : Rat), ((2 : Int) : Rat)] knownN.length).length) cx5) w64 (by kernel_rfl) (by kernel_rfl) (by kernel_rfl) ?_
  refine T.val 9 3 (.int .i64 0) w64 (by kernel_rfl) (by kernel_rfl) (by kernel_rfl) ?_
  refine T.next (by kernel_rfl) ?_
  refine CG.to [(0, .bool false), (1, .pointer (some ⟨b34, 0, none⟩)), (2, .slice Ax5 ((outq knownN [((1 : Int) : Rat), ((2 : Int) : Rat)] knownN.length).length) cx5), (3, .int .i64 0)] (by kernel_rfl) ?_
  refine CG.seq ?_
  have hsr := hs
  refine CG.region [] 8 [] mixed (by kernel_rfl) hs.g al_nil (fun _ hb => by cases hb) ?_
  refine Rg.own 0 24 [(0, 0, 1)] (.agg #[.slice (some ⟨b28, 0, none⟩) 1 1]) hs (by kernel_rfl) (by kernel_rfl) (fun _ _ => List.not_mem_nil) (by kernel_rfl) (by kernel_rfl) ?_
  refine Rg.call 1 25 22 #[.int .i64 5] (by kernel_rfl) (by kernel_rfl) (fun _ => by kernel_rfl) (fun w70 h71 u72 => ?_)
  replace hs := hs.step u72
  replace hA12 := hA12.gw u72.gr.gw
  replace hA18 := hA18.gw u72.gr.gw
  replace hA27 := hA27.gw u72.gr.gw
  replace hA33 := hA33.gw u72.gr.gw
  replace hN := hN.gw u72.gr.gw
  replace hA56 := hA56.gw u72.gr.gw
  replace hXk5 := hXk5.gw u72.gr.gw
  refine (Ret.of_ext hs.g (cOf (5) (by decide) (by decide) w70)).mono ?_
  rintro _ w67 ⟨vu69, h68, rfl, u69, rfl⟩
  refine ⟨_, h68, rfl, u69.m _, ?_⟩
  replace hs := hs.step u69
  replace hA12 := hA12.gw u69.gr.gw
  replace hA18 := hA18.gw u69.gr.gw
  replace hA27 := hA27.gw u69.gr.gw
  replace hA33 := hA33.gw u69.gr.gw
  replace hN := hN.gw u69.gr.gw
  replace hA56 := hA56.gw u69.gr.gw
  replace hXk5 := hXk5.gw u69.gr.gw
  refine Rg.call 2 26 22 #[.int .i64 2] (by kernel_rfl) (by kernel_rfl) (fun _ => by kernel_rfl) (fun w76 h77 u78 => ?_)
  replace hs := hs.step u78
  replace hA12 := hA12.gw u78.gr.gw
  replace hA18 := hA18.gw u78.gr.gw
  replace hA27 := hA27.gw u78.gr.gw
  replace hA33 := hA33.gw u78.gr.gw
  replace hN := hN.gw u78.gr.gw
  replace hA56 := hA56.gw u78.gr.gw
  replace hXk5 := hXk5.gw u78.gr.gw
  refine (Ret.of_ext hs.g (cOf (2) (by decide) (by decide) w76)).mono ?_
  rintro _ w73 ⟨vu75, h74, rfl, u75, rfl⟩
  refine ⟨_, h74, rfl, u75.m _, ?_⟩
  replace hs := hs.step u75
  replace hA12 := hA12.gw u75.gr.gw
  replace hA18 := hA18.gw u75.gr.gw
  replace hA27 := hA27.gw u75.gr.gw
  replace hA33 := hA33.gw u75.gr.gw
  replace hN := hN.gw u75.gr.gw
  replace hA56 := hA56.gw u75.gr.gw
  replace hXk5 := hXk5.gw u75.gr.gw
  refine Rg.row 3 27 45 2 ([.bool (ineg ((5 : Int) : Rat).num), .int .u64 (lo (iabs ((5 : Int) : Rat).num)), .string (hi (iabs ((5 : Int) : Rat).num)), .int .u64 (lo (qd ((5 : Int) : Rat))), .string (hi (qd ((5 : Int) : Rat))), .bool (ineg ((2 : Int) : Rat).num), .int .u64 (lo (iabs ((2 : Int) : Rat).num)), .string (hi (iabs ((2 : Int) : Rat).num)), .int .u64 (lo (qd ((2 : Int) : Rat))), .string (hi (qd ((2 : Int) : Rat)))]) (by kernel_rfl) (by kernel_rfl) (fun _ => by kernel_rfl) (fun b79 w80 h81 u82 hS83 => ?_)
  replace hs := hs.step u82
  replace hA12 := hA12.gw u82.gr.gw
  replace hA18 := hA18.gw u82.gr.gw
  replace hA27 := hA27.gw u82.gr.gw
  replace hA33 := hA33.gw u82.gr.gw
  replace hN := hN.gw u82.gr.gw
  replace hA56 := hA56.gw u82.gr.gw
  replace hXk5 := hXk5.gw u82.gr.gw
  have hA84 : SlO 5 qc 0 h81 (some ⟨b79, 0, none⟩) [((5 : Int) : Rat), ((2 : Int) : Rat)] := SlO.of_flat (fun _ => rfl) hS83
  refine Rg.call 4 28 14 #[.agg #[.slice (some ⟨b28, 0, none⟩) 1 1], .slice (some ⟨b79, 0, none⟩) 2 2] (by kernel_rfl) (by kernel_rfl) (fun _ => by kernel_rfl) (fun w89 h90 u91 => ?_)
  replace hs := hs.step u91
  replace hA12 := hA12.gw u91.gr.gw
  replace hA18 := hA18.gw u91.gr.gw
  replace hA27 := hA27.gw u91.gr.gw
  replace hA33 := hA33.gw u91.gr.gw
  replace hN := hN.gw u91.gr.gw
  replace hA56 := hA56.gw u91.gr.gw
  replace hXk5 := hXk5.gw u91.gr.gw
  replace hA84 := hA84.gw u91.gr.gw
  refine (nAnswer (some ⟨b28, 0, none⟩) 1 [(2, .slice (some ⟨b13, 0, none⟩) 1 1, .slice (some ⟨b22, 0, none⟩) 1 1)] knownN knownD knownOk (some ⟨b79, 0, none⟩) 2 [((5 : Int) : Rat), ((2 : Int) : Rat)] rfl (Nat.le_refl _) (knownSm5) w89 h90 hs.g hA33 hN hA84).mono ?_
  rintro _ w86 ⟨vu88, h87, rfl, u88, ⟨Ax8, cx8, rfl, hcx8, hXk8⟩⟩
  refine ⟨_, h87, rfl, u88.m _, ?_⟩
  replace hs := hs.step u88
  replace hA12 := hA12.gw u88.gr.gw
  replace hA18 := hA18.gw u88.gr.gw
  replace hA27 := hA27.gw u88.gr.gw
  replace hA33 := hA33.gw u88.gr.gw
  replace hN := hN.gw u88.gr.gw
  replace hA56 := hA56.gw u88.gr.gw
  replace hXk5 := hXk5.gw u88.gr.gw
  replace hA84 := hA84.gw u88.gr.gw
  have hlk8 : (outq knownN [((5 : Int) : Rat), ((2 : Int) : Rat)] knownN.length).length = 1 := rfl
  refine Rg.pure 5 23 (.tuple #[.slice Ax8 ((outq knownN [((5 : Int) : Rat), ((2 : Int) : Rat)] knownN.length).length) cx8, .int .i64 0]) (by kernel_rfl) (by kernel_rfl) (fun _ => by kernel_rfl) ?_
  refine Rg.pure 6 29 (.slice Ax8 ((outq knownN [((5 : Int) : Rat), ((2 : Int) : Rat)] knownN.length).length) cx8) (by kernel_rfl) (by kernel_rfl) (fun _ => by kernel_rfl) ?_
  refine Rg.pure 7 30 (.int .i64 0) (by kernel_rfl) (by kernel_rfl) (fun _ => by kernel_rfl) ?_
  refine Rg.fin0 (by kernel_rfl) (fun w92 h93 u94 => ?_)
  replace hs := hs.step u94
  replace hA12 := hA12.gw u94.gr.gw
  replace hA18 := hA18.gw u94.gr.gw
  replace hA27 := hA27.gw u94.gr.gw
  replace hA33 := hA33.gw u94.gr.gw
  replace hN := hN.gw u94.gr.gw
  replace hA56 := hA56.gw u94.gr.gw
  replace hXk5 := hXk5.gw u94.gr.gw
  replace hA84 := hA84.gw u94.gr.gw
  replace hXk8 := hXk8.gw u94.gr.gw
  refine T.val 8 4 (.slice Ax8 ((outq knownN [((5 : Int) : Rat), ((2 : Int) : Rat)] knownN.length).length) cx8) w92 (by kernel_rfl) (by kernel_rfl) (by kernel_rfl) ?_
  refine T.val 9 5 (.int .i64 0) w92 (by kernel_rfl) (by kernel_rfl) (by kernel_rfl) ?_
  refine T.next (by kernel_rfl) ?_
  refine CG.to [(0, .bool false), (2, .slice Ax5 ((outq knownN [((1 : Int) : Rat), ((2 : Int) : Rat)] knownN.length).length) cx5), (3, .int .i64 0), (4, .slice Ax8 ((outq knownN [((5 : Int) : Rat), ((2 : Int) : Rat)] knownN.length).length) cx8), (5, .int .i64 0)] (by kernel_rfl) ?_
  refine CG.seq ?_
  refine CG.listed ?_
  refine LG.val 31 (.int .i64 0) w92 (by kernel_rfl) (by kernel_rfl) (by kernel_rfl) ?_
  refine LG.val 32 (.bool true) w92 (by kernel_rfl) (by kernel_rfl) (by kernel_rfl) ?_
  refine LG.val 33 (.bool true) w92 (by kernel_rfl) (by kernel_rfl) (by kernel_rfl) ?_
  refine LG.val 34 (.slice Ax5 ((outq knownN [((1 : Int) : Rat), ((2 : Int) : Rat)] knownN.length).length) cx5) w92 (by kernel_rfl) (by kernel_rfl) (by kernel_rfl) ?_
  refine LG.val 35 (.int .i64 ((outq knownN [((1 : Int) : Rat), ((2 : Int) : Rat)] knownN.length).length : Nat)) w92 (by kernel_rfl) (by kernel_rfl) (by kernel_rfl) ?_
  have hb95 : ((((outq knownN [((1 : Int) : Rat), ((2 : Int) : Rat)] knownN.length).length : Nat) : Int) == (1 : Int)) = true := by decide +kernel
  have phb95 := eq_of_beq hb95
  refine LG.val 36 (.bool true) w92 (by kernel_rfl) (by kernel_rfl) (rb (by kernel_rfl) hb95) ?_
  refine LG.val 37 (.bool true) w92 (by kernel_rfl) (by kernel_rfl) (by kernel_rfl) ?_
  refine LG.val 38 (.bool true) w92 (by kernel_rfl) (by kernel_rfl) (by kernel_rfl) ?_
  refine LG.val 39 (.slice Ax5 ((outq knownN [((1 : Int) : Rat), ((2 : Int) : Rat)] knownN.length).length) cx5) w92 (by kernel_rfl) (by kernel_rfl) (by kernel_rfl) ?_
  refine LG.val 40 (.pointer (some ⟨(aB Ax5), aO Ax5 + 0 * 5, none⟩)) w92 (by kernel_rfl) (by kernel_rfl) (ixAddr (t := 32) (e := 45) (x := .tmp 39) (ix := .const (.int .i64 0)) (A := Ax5) (len := (outq knownN [((1 : Int) : Rat), ((2 : Int) : Rat)] knownN.length).length) (cap := cx5) (sz := 5) (i := 0) 0 (by kernel_rfl) (by kernel_rfl) (by kernel_rfl) (by kernel_rfl) (by kernel_rfl) (hXk5.ok (by omega)) (by omega) (by omega) _) ?_
  refine LG.val 41 (qv ((outq knownN [((1 : Int) : Rat), ((2 : Int) : Rat)] knownN.length).getD 0 0)) w92 (by kernel_rfl) (by kernel_rfl) (Seg.run (hXk5.el 0 (by omega)) hs.g (Ext.refl _) (by kernel_rfl)) ?_
  refine LG.call 42 29 #[qv ((outq knownN [((1 : Int) : Rat), ((2 : Int) : Rat)] knownN.length).getD 0 0), .int .i64 0, .int .i64 1] (by kernel_rfl) (by kernel_rfl) (by kernel_rfl) ?_
  refine (hIs ((outq knownN [((1 : Int) : Rat), ((2 : Int) : Rat)] knownN.length).getD 0 0) 0 1 (by decide +kernel) (by decide +kernel) (by decide) (by decide) (by decide) (by decide) w92 h93 hs.g).mono ?_
  rintro _ w96 ⟨vu98, h97, rfl, u98, rfl⟩
  refine ⟨_, rfl, ?_⟩
  replace hs := hs.step u98
  replace hA12 := hA12.gw u98.gr.gw
  replace hA18 := hA18.gw u98.gr.gw
  replace hA27 := hA27.gw u98.gr.gw
  replace hA33 := hA33.gw u98.gr.gw
  replace hN := hN.gw u98.gr.gw
  replace hA56 := hA56.gw u98.gr.gw
  replace hXk5 := hXk5.gw u98.gr.gw
  replace hA84 := hA84.gw u98.gr.gw
  replace hXk8 := hXk8.gw u98.gr.gw
  have hb99 : (sameQ ((outq knownN [((1 : Int) : Rat), ((2 : Int) : Rat)] knownN.length).getD 0 0) (mkRat 0 (iabs 1))) = true := by decide +kernel
  rw [hb99]
  refine LG.val 43 (.bool true) w96 (by kernel_rfl) (by kernel_rfl) (by kernel_rfl) ?_
  refine LG.val 44 (.bool true) w96 (by kernel_rfl) (by kernel_rfl) (by kernel_rfl) ?_
  refine LG.val 45 (.int .i64 0) w96 (by kernel_rfl) (by kernel_rfl) (by kernel_rfl) ?_
  refine LG.val 46 (.bool true) w96 (by kernel_rfl) (by kernel_rfl) (by kernel_rfl) ?_
  refine LG.val 47 (.bool true) w96 (by kernel_rfl) (by kernel_rfl) (by kernel_rfl) ?_
  refine LG.val 48 (.bool true) w96 (by kernel_rfl) (by kernel_rfl) (by kernel_rfl) ?_
  refine LG.val 49 (.slice Ax8 ((outq knownN [((5 : Int) : Rat), ((2 : Int) : Rat)] knownN.length).length) cx8) w96 (by kernel_rfl) (by kernel_rfl) (by kernel_rfl) ?_
  refine LG.val 50 (.pointer (some ⟨(aB Ax8), aO Ax8 + 0 * 5, none⟩)) w96 (by kernel_rfl) (by kernel_rfl) (ixAddr (t := 32) (e := 45) (x := .tmp 49) (ix := .const (.int .i64 0)) (A := Ax8) (len := (outq knownN [((5 : Int) : Rat), ((2 : Int) : Rat)] knownN.length).length) (cap := cx8) (sz := 5) (i := 0) 0 (by kernel_rfl) (by kernel_rfl) (by kernel_rfl) (by kernel_rfl) (by kernel_rfl) (hXk8.ok (by omega)) (by omega) (by omega) _) ?_
  refine LG.val 51 (qv ((outq knownN [((5 : Int) : Rat), ((2 : Int) : Rat)] knownN.length).getD 0 0)) w96 (by kernel_rfl) (by kernel_rfl) (Seg.run (hXk8.el 0 (by omega)) hs.g (Ext.refl _) (by kernel_rfl)) ?_
  refine LG.call 52 29 #[qv ((outq knownN [((5 : Int) : Rat), ((2 : Int) : Rat)] knownN.length).getD 0 0), .int .i64 3, .int .i64 1] (by kernel_rfl) (by kernel_rfl) (by kernel_rfl) ?_
  refine (hIs ((outq knownN [((5 : Int) : Rat), ((2 : Int) : Rat)] knownN.length).getD 0 0) 3 1 (by decide +kernel) (by decide +kernel) (by decide) (by decide) (by decide) (by decide) w96 h97 hs.g).mono ?_
  rintro _ w100 ⟨vu102, h101, rfl, u102, rfl⟩
  refine ⟨_, rfl, ?_⟩
  replace hs := hs.step u102
  replace hA12 := hA12.gw u102.gr.gw
  replace hA18 := hA18.gw u102.gr.gw
  replace hA27 := hA27.gw u102.gr.gw
  replace hA33 := hA33.gw u102.gr.gw
  replace hN := hN.gw u102.gr.gw
  replace hA56 := hA56.gw u102.gr.gw
  replace hXk5 := hXk5.gw u102.gr.gw
  replace hA84 := hA84.gw u102.gr.gw
  replace hXk8 := hXk8.gw u102.gr.gw
  have hb103 : (sameQ ((outq knownN [((5 : Int) : Rat), ((2 : Int) : Rat)] knownN.length).getD 0 0) (mkRat 3 (iabs 1))) = true := by decide +kernel
  rw [hb103]
  refine LG.val 53 (.bool true) w100 (by kernel_rfl) (by kernel_rfl) (by kernel_rfl) ?_
  refine LG.val 0 (.bool true) w100 (by kernel_rfl) (by kernel_rfl) (by kernel_rfl) ?_
  refine LG.next (by kernel_rfl) ?_
  refine CG.to [(0, .bool true)] (by kernel_rfl) ?_
  refine CG.ret ?_
  exact retP hs [] (.bool true) (by kernel_rfl) (by kernel_rfl) rfl

end Go.Proofs.YtbhpcpkcjgkcpaaGreatDoor
