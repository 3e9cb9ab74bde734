/- Contracts of frac.lowest, Make and Over. -/
import Derived.Test.YtmkonbkdjmfjhaaGreatDoorFracB
import Derived.Test.YtmkonbkdjmfjhaaGreatDoorRowL
namespace Go.Proofs.YtmkonbkdjmfjhaaGreatDoor
open Go.RowKit
attribute [local go_sem ↓] Go.wp_at_zero Go.wp_at_succ

set_option maxHeartbeats 2000000 in
theorem fracLowest (z : Int) (d : Nat) (hz : iabs z < 18446744073709551616) (hd : d < 18446744073709551616) (h0 : 0 < d) (w : World) :
    Calls Tryz.prog 52 #[.agg #[.bool (ineg z), .int .u64 ((iabs z : Nat) : Int), .string ⟨#[]⟩], .agg #[.int .u64 ((d : Nat) : Int), .string ⟨#[]⟩]] w fun e w' => e = .returned (.agg #[.bool (ineg (mkRat z d).num), .int .u64 ((iabs (mkRat z d).num : Nat) : Int), .string ⟨#[]⟩, .int .u64 ((qd (mkRat z d) : Nat) : Int), .string ⟨#[]⟩]) ∧ Ext w w' := by
  obtain ⟨p1, p2, p3, p4⟩ := mkRat_parts z d h0
  have e1 : iabs (sgn false d) = d := iabs_sgn _ _
  have H1 := Lib.hid (wholeFrom false d hd)
  have H2 := Lib.hid (wholeGcd z (sgn false d) hz (by rw [e1]; exact hd))
  rw [e1] at H2
  have hgd : Nat.gcd (iabs z) d < 18446744073709551616 := Nat.lt_of_le_of_lt (Nat.le_of_dvd h0 (Nat.gcd_dvd_right _ _)) hd
  have H3 := Lib.hid (fracPart z (Nat.gcd (iabs z) d) hz hgd p4 p3)
  have H4 := Lib.hid (fracOver d (Nat.gcd (iabs z) d) hd hgd p4)
  rw [← p1] at H3
  rw [← p2] at H4
  have H5 := Lib.hid (fracPack (mkRat z d) (by rw [p2]; exact Nat.lt_of_le_of_lt (Nat.div_le_self _ _) hd))
  clear p1 p2 p3 p4 hz hd h0 hgd
  generalize mkRat z d = q at *
  generalize Nat.gcd (iabs z) d = g at *
  generalize sgn false d = s at *
  go_enter Tryz.func52, Tryz.ntmps52
  go_wp2_with fail
  have RZ : Row _ _ _ := Row.ext (Row.ext (Row.new w [.bool (ineg z), .int .u64 ((iabs z : Nat) : Int), .string ⟨#[]⟩] 58) ((Ext.refl _).alloc (.cells (List.toArray [.int .u64 ((d : Nat) : Int), .string ⟨#[]⟩]) 56))) ((Ext.refl _).alloc (.cells (List.toArray [.bool false, .int .u64 0, .string ⟨#[]⟩, .int .u64 0, .string ⟨#[]⟩]) 60))
  have RD : Row _ _ _ := Row.ext (Row.new (w.alloc (.cells (List.toArray [.bool (ineg z), .int .u64 ((iabs z : Nat) : Int), .string ⟨#[]⟩]) 58)) [.int .u64 ((d : Nat) : Int), .string ⟨#[]⟩] 56) ((Ext.refl _).alloc (.cells (List.toArray [.bool false, .int .u64 0, .string ⟨#[]⟩, .int .u64 0, .string ⟨#[]⟩]) 60))
  have RR : Row _ _ _ := Row.new ((w.alloc (.cells (List.toArray [.bool (ineg z), .int .u64 ((iabs z : Nat) : Int), .string ⟨#[]⟩]) 58)).alloc (.cells (List.toArray [.int .u64 ((d : Nat) : Int), .string ⟨#[]⟩]) 56)) [.bool false, .int .u64 0, .string ⟨#[]⟩, .int .u64 0, .string ⟨#[]⟩] 60
  have E0 : Ext w _ := (((Ext.refl w).alloc (.cells (List.toArray [.bool (ineg z), .int .u64 ((iabs z : Nat) : Int), .string ⟨#[]⟩]) 58)).alloc (.cells (List.toArray [.int .u64 ((d : Nat) : Int), .string ⟨#[]⟩]) 56)).alloc (.cells (List.toArray [.bool false, .int .u64 0, .string ⟨#[]⟩, .int .u64 0, .string ⟨#[]⟩]) 60)
  simp only [World.size_alloc] at RD RR
  generalize (((w.alloc (.cells (List.toArray [.bool (ineg z), .int .u64 ((iabs z : Nat) : Int), .string ⟨#[]⟩]) 58)).alloc (.cells (List.toArray [.int .u64 ((d : Nat) : Int), .string ⟨#[]⟩]) 56)).alloc (.cells (List.toArray [.bool false, .int .u64 0, .string ⟨#[]⟩, .int .u64 0, .string ⟨#[]⟩]) 60)) = W0 at *
  go_upto_region 1 with fail
  go_cut [5] (fun s5 wx => ∃ b5 : Nat, s5 = .pointer (some ⟨b5, 0, none⟩) ∧ Row wx b5 [.int .u64 ((g : Nat) : Int), .string ⟨#[]⟩] ∧ W0.heap.size ≤ b5 ∧ Ext W0 wx)
  case first =>
    obtain ⟨oRZ0, qRZ0⟩ := RZ.1 0 _ rfl
    obtain ⟨oRZ1, qRZ1⟩ := RZ.1 1 _ rfl
    obtain ⟨oRZ2, qRZ2⟩ := RZ.1 2 _ rfl
    obtain ⟨oRD0, qRD0⟩ := RD.1 0 _ rfl
    obtain ⟨oRD1, qRD1⟩ := RD.1 1 _ rfl
    have lRZ := RZ.2
    have lRD := RD.2
    have lRR := RR.2
    go_region_held3 (fun w' => w'.cell? ⟨w.heap.size, 0, none⟩ = some (.bool (ineg z)) ∧ w'.cell? ⟨w.heap.size, 1, none⟩ = some (.int .u64 ((iabs z : Nat) : Int)) ∧ w'.cell? ⟨w.heap.size, 2, none⟩ = some (.string ⟨#[]⟩) ∧ w'.cell? ⟨w.heap.size + 1, 0, none⟩ = some (.int .u64 ((d : Nat) : Int)) ∧ w'.cell? ⟨w.heap.size + 1, 1, none⟩ = some (.string ⟨#[]⟩)) ((go_split_ands; refine ⟨?_, ?_, ?_, ?_, ?_⟩ <;> (first | ((with_reducible refine Ext.some (a := W0) ?_ (by assumption)); ((repeat' (first | with_reducible exact Ext.refl _ | with_reducible refine Ext.setCell ?_ ?_ _ | with_reducible refine Ext.alloc ?_ _ | with_reducible refine Ext.drew ?_ | with_reducible refine Ext.drewN ?_ _ | with_reducible assumption | with_reducible refine Ext.trans ?_ (by assumption))) <;> (first | (simp; done) | (simp; omega) | omega)); done) | (with_reducible exact Ext.some hx (by assumption)) | ((repeat rw [cell_set_ne _ (by omega)]); with_reducible assumption) | (go_simp; done) | go_keep))) ((first | (go_at_call 33; (with_reducible refine (H1.out _).mono ?_); rintro e w1_1 ⟨rfl, hx⟩; have sz := Ext.size hx; (try simp only [World.size_alloc, World.size_drew] at sz); (first | (with_reducible have A1 := Row.ext (Row.new _ [.int .u64 0, .string ⟨#[]⟩] _) hx) | (with_reducible have A1 := Row.ext (Row.drew (Row.new _ [.int .u64 0, .string ⟨#[]⟩] _)) hx) | (with_reducible have A1 := Row.ext A1 hx) | skip); (try simp only [World.size_alloc, World.size_drew] at A1); (try (obtain ⟨gA10, fA10⟩ := A1.1 0 _ rfl; obtain ⟨gA11, fA11⟩ := A1.1 1 _ rfl)); (try (have lA1 := A1.2))) | (go_at_call 61; (with_reducible refine (H2.out _).mono ?_); rintro e w1_2 ⟨rfl, hx⟩; have sz := Ext.size hx; (try simp only [World.size_alloc, World.size_drew] at sz); (first | (with_reducible have A1 := Row.ext (Row.new _ [.int .u64 0, .string ⟨#[]⟩] _) hx) | (with_reducible have A1 := Row.ext (Row.drew (Row.new _ [.int .u64 0, .string ⟨#[]⟩] _)) hx) | (with_reducible have A1 := Row.ext A1 hx) | skip); (try simp only [World.size_alloc, World.size_drew] at A1); (try (obtain ⟨gA10, fA10⟩ := A1.1 0 _ rfl; obtain ⟨gA11, fA11⟩ := A1.1 1 _ rfl)); (try (have lA1 := A1.2)))))
    all_goals (go_wp2_with fail; go_meet)
    all_goals refine ⟨_, rfl, ?_, ?_, ?_⟩
    all_goals first | (((repeat' (first | with_reducible exact Ext.refl _ | with_reducible refine Ext.setCell ?_ ?_ _ | with_reducible refine Ext.alloc ?_ _ | with_reducible refine Ext.drew ?_ | with_reducible refine Ext.drewN ?_ _ | with_reducible assumption | with_reducible refine Ext.trans ?_ (by assumption))) <;> (first | (simp; done) | (simp; omega) | omega)); done) | omega | ((repeat' (first | with_reducible exact Row.new _ _ _ | (with_reducible refine Row.new' _ _ (by simp; done)) | with_reducible assumption | with_reducible refine Row.drew ?_ | with_reducible refine Row.put2 _ _ ?_ | with_reducible refine Row.put3 _ _ _ ?_ | with_reducible refine Row.put5 _ _ _ _ _ ?_ | (with_reducible refine Row.far _ ?_ (by omega)) | (with_reducible refine Row.allocFar _ ?_))); done) | (simp; omega)
  case' rest =>
    obtain ⟨b5, rfl, V5, n5, hE1⟩ := hcut
    have n5RZ : w.heap.size < b5 := Nat.lt_of_lt_of_le RZ.2 n5
    have n5RD : w.heap.size + 1 < b5 := Nat.lt_of_lt_of_le RD.2 n5
    have n5RR : w.heap.size + 1 + 1 < b5 := Nat.lt_of_lt_of_le RR.2 n5
    replace RZ := Row.ext RZ hE1
    replace RD := Row.ext RD hE1
    replace RR := Row.ext RR hE1
    clear n5
  have hE := Ext.trans E0 hE1
  clear hE1 E0 H1 H2
  go_wp2_with fail
  obtain ⟨oRZ0, qRZ0⟩ := RZ.1 0 _ rfl
  obtain ⟨oRZ1, qRZ1⟩ := RZ.1 1 _ rfl
  obtain ⟨oRZ2, qRZ2⟩ := RZ.1 2 _ rfl
  obtain ⟨oRD0, qRD0⟩ := RD.1 0 _ rfl
  obtain ⟨oRD1, qRD1⟩ := RD.1 1 _ rfl
  obtain ⟨oRR0, qRR0⟩ := RR.1 0 _ rfl
  obtain ⟨oRR1, qRR1⟩ := RR.1 1 _ rfl
  obtain ⟨oRR2, qRR2⟩ := RR.1 2 _ rfl
  obtain ⟨oRR3, qRR3⟩ := RR.1 3 _ rfl
  obtain ⟨oRR4, qRR4⟩ := RR.1 4 _ rfl
  obtain ⟨oV50, qV50⟩ := V5.1 0 _ rfl
  obtain ⟨oV51, qV51⟩ := V5.1 1 _ rfl
  have lRZ := RZ.2
  have lRD := RD.2
  have lRR := RR.2
  have lV5 := V5.2
  go_region_held3 (fun w' => w'.cell? ⟨w.heap.size, 0, none⟩ = some (.bool (ineg z)) ∧ w'.cell? ⟨w.heap.size, 1, none⟩ = some (.int .u64 ((iabs z : Nat) : Int)) ∧ w'.cell? ⟨w.heap.size, 2, none⟩ = some (.string ⟨#[]⟩) ∧ w'.cell? ⟨w.heap.size + 1, 0, none⟩ = some (.int .u64 ((d : Nat) : Int)) ∧ w'.cell? ⟨w.heap.size + 1, 1, none⟩ = some (.string ⟨#[]⟩) ∧ w'.cell? ⟨b5, 0, none⟩ = some (.int .u64 ((g : Nat) : Int)) ∧ w'.cell? ⟨b5, 1, none⟩ = some (.string ⟨#[]⟩)) ((go_split_ands; refine ⟨?_, ?_, ?_, ?_, ?_, ?_, ?_⟩ <;> (first | ((with_reducible refine Ext.some (a := wc) ?_ (by assumption)); ((repeat' (first | with_reducible exact Ext.refl _ | with_reducible refine Ext.setCell ?_ ?_ _ | with_reducible refine Ext.alloc ?_ _ | with_reducible refine Ext.drew ?_ | with_reducible refine Ext.drewN ?_ _ | with_reducible assumption | with_reducible refine Ext.trans ?_ (by assumption))) <;> (first | (simp; done) | (simp; omega) | omega)); done) | (with_reducible exact Ext.some hx (by assumption)) | ((repeat rw [cell_set_ne _ (by omega)]); with_reducible assumption) | (go_simp; done) | go_keep))) ((first | (go_at_call 66; (with_reducible refine (H3.out _).mono ?_); rintro e w2_1 ⟨rfl, hx⟩; have sz := Ext.size hx; (try simp only [World.size_alloc, World.size_drew] at sz); have RE := Row.ext RR (show Ext wc w2_1 by (repeat' (first | with_reducible exact Ext.refl _ | with_reducible refine Ext.setCell ?_ ?_ _ | with_reducible refine Ext.alloc ?_ _ | with_reducible refine Ext.drew ?_ | with_reducible refine Ext.drewN ?_ _ | with_reducible assumption | with_reducible refine Ext.trans ?_ (by assumption))) <;> (first | (simp; done) | (simp; omega) | omega)); obtain ⟨r0, zf0⟩ := RE.1 0 _ rfl; obtain ⟨r1, zf1⟩ := RE.1 1 _ rfl; obtain ⟨r2, zf2⟩ := RE.1 2 _ rfl; obtain ⟨r3, zf3⟩ := RE.1 3 _ rfl; obtain ⟨r4, zf4⟩ := RE.1 4 _ rfl) | (go_at_call 63; (with_reducible refine (H4.out _).mono ?_); rintro e w2_2 ⟨rfl, hx⟩; have sz := Ext.size hx; (try simp only [World.size_alloc, World.size_drew] at sz); have RE := Row.ext RR (show Ext wc w2_2 by (repeat' (first | with_reducible exact Ext.refl _ | with_reducible refine Ext.setCell ?_ ?_ _ | with_reducible refine Ext.alloc ?_ _ | with_reducible refine Ext.drew ?_ | with_reducible refine Ext.drewN ?_ _ | with_reducible assumption | with_reducible refine Ext.trans ?_ (by assumption))) <;> (first | (simp; done) | (simp; omega) | omega)); obtain ⟨r0, zf0⟩ := RE.1 0 _ rfl; obtain ⟨r1, zf1⟩ := RE.1 1 _ rfl; obtain ⟨r2, zf2⟩ := RE.1 2 _ rfl; obtain ⟨r3, zf3⟩ := RE.1 3 _ rfl; obtain ⟨r4, zf4⟩ := RE.1 4 _ rfl) | (go_at_call 65; (with_reducible refine (H5.out _).mono ?_); rintro e w2_3 ⟨rfl, hx⟩; have sz := Ext.size hx; (try simp only [World.size_alloc, World.size_drew] at sz); have RE := Row.ext RR (show Ext wc w2_3 by (repeat' (first | with_reducible exact Ext.refl _ | with_reducible refine Ext.setCell ?_ ?_ _ | with_reducible refine Ext.alloc ?_ _ | with_reducible refine Ext.drew ?_ | with_reducible refine Ext.drewN ?_ _ | with_reducible assumption | with_reducible refine Ext.trans ?_ (by assumption))) <;> (first | (simp; done) | (simp; omega) | omega)); obtain ⟨r0, zf0⟩ := RE.1 0 _ rfl; obtain ⟨r1, zf1⟩ := RE.1 1 _ rfl; obtain ⟨r2, zf2⟩ := RE.1 2 _ rfl; obtain ⟨r3, zf3⟩ := RE.1 3 _ rfl; obtain ⟨r4, zf4⟩ := RE.1 4 _ rfl)))
  go_wp2
  refine bodyPost_ret (v := .agg #[.bool (ineg (q).num), .int .u64 ((iabs (q).num : Nat) : Int), .string ⟨#[]⟩, .int .u64 ((qd (q) : Nat) : Int), .string ⟨#[]⟩]) (by simp [results, Tryz.results52, go_sem, r0, r1, r2, r3, r4]) rfl ⟨rfl, ?_⟩
  (repeat' (first | with_reducible exact Ext.refl _ | with_reducible refine Ext.setCell ?_ ?_ _ | with_reducible refine Ext.alloc ?_ _ | with_reducible refine Ext.drew ?_ | with_reducible refine Ext.drewN ?_ _ | with_reducible assumption | with_reducible refine Ext.trans ?_ (by assumption))) <;> (first | (simp; done) | (simp; omega) | omega)
end Go.Proofs.YtmkonbkdjmfjhaaGreatDoor
