/- Contracts of frac.Make, Over, Cmp, Max, Sub, Abs for fractions on one word. -/
import Derived.Test.YtmkonbkdjmfjhaaGreatDoorFracC
import Derived.Test.YtmkonbkdjmfjhaaGreatDoorFracE
namespace Go.Proofs.YtmkonbkdjmfjhaaGreatDoor
open Go.RowKit
attribute [local go_sem ↓] Go.wp_at_zero Go.wp_at_succ

set_option maxHeartbeats 2000000 in
theorem fracMake (z : Int) (d : Int) (hz : iabs z < 18446744073709551616) (hd : iabs d < 18446744073709551616) (h0 : 0 < d) (w : World) :
    Calls Tryz.prog 31 #[.agg #[.bool (ineg z), .int .u64 ((iabs z : Nat) : Int), .string ⟨#[]⟩], .agg #[.bool (ineg d), .int .u64 ((iabs d : Nat) : Int), .string ⟨#[]⟩]] w fun e w' => e = .returned (.tuple #[.agg #[.bool (ineg (mkRat z (iabs d)).num), .int .u64 ((iabs (mkRat z (iabs d)).num : Nat) : Int), .string ⟨#[]⟩, .int .u64 ((qd (mkRat z (iabs d)) : Nat) : Int), .string ⟨#[]⟩], .bool true]) ∧ Ext w w' := by
  have HS := Lib.hid (wholeSign d hd)
  rw [Int.sign_eq_one_of_pos h0] at HS
  have HA := Lib.hid (wholeAbs d)
  have HL := Lib.hid (fracLowest z (iabs d) hz hd (by unfold iabs; omega))
  clear hz hd h0
  generalize mkRat z (iabs d) = q at *
  go_enter Tryz.func31, Tryz.ntmps31
  go_wp2_with fail
  have RZ : Row _ _ _ := Row.ext (Row.ext (Row.new w [.bool (ineg z), .int .u64 ((iabs z : Nat) : Int), .string ⟨#[]⟩] 58) ((Ext.refl _).alloc (.cells (List.toArray [.bool (ineg d), .int .u64 ((iabs d : Nat) : Int), .string ⟨#[]⟩]) 58))) ((Ext.refl _).alloc (.cells (List.toArray [.bool false, .int .u64 0, .string ⟨#[]⟩, .int .u64 0, .string ⟨#[]⟩]) 60))
  have RD : Row _ _ _ := Row.ext (Row.new (w.alloc (.cells (List.toArray [.bool (ineg z), .int .u64 ((iabs z : Nat) : Int), .string ⟨#[]⟩]) 58)) [.bool (ineg d), .int .u64 ((iabs d : Nat) : Int), .string ⟨#[]⟩] 58) ((Ext.refl _).alloc (.cells (List.toArray [.bool false, .int .u64 0, .string ⟨#[]⟩, .int .u64 0, .string ⟨#[]⟩]) 60))
  have RR : Row _ _ _ := Row.new ((w.alloc (.cells (List.toArray [.bool (ineg z), .int .u64 ((iabs z : Nat) : Int), .string ⟨#[]⟩]) 58)).alloc (.cells (List.toArray [.bool (ineg d), .int .u64 ((iabs d : Nat) : Int), .string ⟨#[]⟩]) 58)) [.bool false, .int .u64 0, .string ⟨#[]⟩, .int .u64 0, .string ⟨#[]⟩] 60
  have E0 : Ext w _ := (((Ext.refl w).alloc (.cells (List.toArray [.bool (ineg z), .int .u64 ((iabs z : Nat) : Int), .string ⟨#[]⟩]) 58)).alloc (.cells (List.toArray [.bool (ineg d), .int .u64 ((iabs d : Nat) : Int), .string ⟨#[]⟩]) 58)).alloc (.cells (List.toArray [.bool false, .int .u64 0, .string ⟨#[]⟩, .int .u64 0, .string ⟨#[]⟩]) 60)
  simp only [World.size_alloc] at RD RR
  generalize (((w.alloc (.cells (List.toArray [.bool (ineg z), .int .u64 ((iabs z : Nat) : Int), .string ⟨#[]⟩]) 58)).alloc (.cells (List.toArray [.bool (ineg d), .int .u64 ((iabs d : Nat) : Int), .string ⟨#[]⟩]) 58)).alloc (.cells (List.toArray [.bool false, .int .u64 0, .string ⟨#[]⟩, .int .u64 0, .string ⟨#[]⟩]) 60)) = W0 at *
  refine (HS.out _).mono ?_
  rintro e w1 ⟨rfl, hx1⟩
  replace RZ := RZ.ext hx1
  replace RD := RD.ext hx1
  replace RR := RR.ext hx1
  obtain ⟨d0, _⟩ := RD.1 0 _ rfl; obtain ⟨d1, _⟩ := RD.1 1 _ rfl; obtain ⟨d2, _⟩ := RD.1 2 _ rfl
  go_wp2_with fail
  refine (HS.out _).mono ?_
  rintro e w2 ⟨rfl, hx2⟩
  replace RZ := RZ.ext hx2
  replace RD := RD.ext hx2
  replace RR := RR.ext hx2
  have hE := (E0.trans hx1).trans hx2
  clear E0 hx1 hx2 d0 d1 d2
  go_wp2_with fail
  obtain ⟨oRZ0, qRZ0⟩ := RZ.1 0 _ rfl
  obtain ⟨oRZ1, qRZ1⟩ := RZ.1 1 _ rfl
  obtain ⟨oRZ2, qRZ2⟩ := RZ.1 2 _ rfl
  obtain ⟨oRD0, qRD0⟩ := RD.1 0 _ rfl
  obtain ⟨oRD1, qRD1⟩ := RD.1 1 _ rfl
  obtain ⟨oRD2, qRD2⟩ := RD.1 2 _ rfl
  obtain ⟨oRR0, qRR0⟩ := RR.1 0 _ rfl
  obtain ⟨oRR1, qRR1⟩ := RR.1 1 _ rfl
  obtain ⟨oRR2, qRR2⟩ := RR.1 2 _ rfl
  obtain ⟨oRR3, qRR3⟩ := RR.1 3 _ rfl
  obtain ⟨oRR4, qRR4⟩ := RR.1 4 _ rfl
  have lRZ := RZ.2
  have lRD := RD.2
  have lRR := RR.2
  go_region_held3 (fun w' => w'.cell? ⟨w.heap.size, 0, none⟩ = some (.bool (ineg z)) ∧ w'.cell? ⟨w.heap.size, 1, none⟩ = some (.int .u64 ((iabs z : Nat) : Int)) ∧ w'.cell? ⟨w.heap.size, 2, none⟩ = some (.string ⟨#[]⟩) ∧ w'.cell? ⟨w.heap.size + 1, 0, none⟩ = some (.bool (ineg d)) ∧ w'.cell? ⟨w.heap.size + 1, 1, none⟩ = some (.int .u64 ((iabs d : Nat) : Int)) ∧ w'.cell? ⟨w.heap.size + 1, 2, none⟩ = some (.string ⟨#[]⟩)) ((go_split_ands; refine ⟨?_, ?_, ?_, ?_, ?_, ?_⟩ <;> (first | ((with_reducible refine Ext.some (a := w2) ?_ (by assumption)); ((repeat' (first | with_reducible exact Ext.refl _ | with_reducible refine Ext.setCell ?_ ?_ _ | with_reducible refine Ext.alloc ?_ _ | with_reducible refine Ext.drew ?_ | with_reducible refine Ext.drewN ?_ _ | with_reducible assumption | with_reducible refine Ext.trans ?_ (by assumption))) <;> (first | (simp; done) | (simp; omega) | omega)); done) | (with_reducible exact Ext.some hx (by assumption)) | ((repeat rw [cell_set_ne _ (by omega)]); with_reducible assumption) | (go_simp; done) | go_keep))) ((first | (go_at_call 53; (with_reducible refine (HA.out _).mono ?_); rintro e w5_1 ⟨rfl, hx⟩; have sz := Ext.size hx; (try simp only [World.size_alloc, World.size_drew] at sz); have RE := Row.ext RR (show Ext w2 w5_1 by (repeat' (first | with_reducible exact Ext.refl _ | with_reducible refine Ext.setCell ?_ ?_ _ | with_reducible refine Ext.alloc ?_ _ | with_reducible refine Ext.drew ?_ | with_reducible refine Ext.drewN ?_ _ | with_reducible assumption | with_reducible refine Ext.trans ?_ (by assumption))) <;> (first | (simp; done) | (simp; omega) | omega)); obtain ⟨r0, zf0⟩ := RE.1 0 _ rfl; obtain ⟨r1, zf1⟩ := RE.1 1 _ rfl; obtain ⟨r2, zf2⟩ := RE.1 2 _ rfl; obtain ⟨r3, zf3⟩ := RE.1 3 _ rfl; obtain ⟨r4, zf4⟩ := RE.1 4 _ rfl) | (go_at_call 52; (with_reducible refine (HL.out _).mono ?_); rintro e w5_2 ⟨rfl, hx⟩; have sz := Ext.size hx; (try simp only [World.size_alloc, World.size_drew] at sz); have RE := Row.ext RR (show Ext w2 w5_2 by (repeat' (first | with_reducible exact Ext.refl _ | with_reducible refine Ext.setCell ?_ ?_ _ | with_reducible refine Ext.alloc ?_ _ | with_reducible refine Ext.drew ?_ | with_reducible refine Ext.drewN ?_ _ | with_reducible assumption | with_reducible refine Ext.trans ?_ (by assumption))) <;> (first | (simp; done) | (simp; omega) | omega)); obtain ⟨r0, zf0⟩ := RE.1 0 _ rfl; obtain ⟨r1, zf1⟩ := RE.1 1 _ rfl; obtain ⟨r2, zf2⟩ := RE.1 2 _ rfl; obtain ⟨r3, zf3⟩ := RE.1 3 _ rfl; obtain ⟨r4, zf4⟩ := RE.1 4 _ rfl)))
  go_wp2
  refine bodyPost_ret (v := .tuple #[.agg #[.bool (ineg (q).num), .int .u64 ((iabs (q).num : Nat) : Int), .string ⟨#[]⟩, .int .u64 ((qd (q) : Nat) : Int), .string ⟨#[]⟩], .bool true]) (by simp [results, Tryz.results31, go_sem, r0, r1, r2, r3, r4]) rfl ⟨rfl, ?_⟩
  (repeat' (first | with_reducible exact Ext.refl _ | with_reducible refine Ext.setCell ?_ ?_ _ | with_reducible refine Ext.alloc ?_ _ | with_reducible refine Ext.drew ?_ | with_reducible refine Ext.drewN ?_ _ | with_reducible assumption | with_reducible refine Ext.trans ?_ (by assumption))) <;> (first | (simp; done) | (simp; omega) | omega)

