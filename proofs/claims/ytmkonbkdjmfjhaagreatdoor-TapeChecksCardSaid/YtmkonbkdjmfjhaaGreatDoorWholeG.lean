/- Contract of whole.Gcd for numbers of one word. -/
import Derived.Test.YtmkonbkdjmfjhaaGreatDoorWholeS
import Derived.Deep.DeepCutAuto
namespace Go.Proofs.YtmkonbkdjmfjhaaGreatDoor
open Go.RowKit
attribute [local go_sem ↓] Go.wp_at_zero Go.wp_at_succ

theorem bitLen_eq0 (n : Nat) : ((Lib.bitLen n : Int) == 0) = decide (n = 0) := by
  rcases Nat.eq_zero_or_pos n with h | h
  · subst h; decide +kernel
  · have := bitLen_pos h
    have e : n ≠ 0 := by omega
    simp [this, e]

/-- Block b holds the number n (two cells, which may be written). -/
def NC (w : World) (b : Nat) (n : Nat) : Prop :=
  w.cell? ⟨b, 0, none⟩ = some (.int .u64 (n : Int)) ∧ w.cell? ⟨b, 1, none⟩ = some (.string ⟨#[]⟩) ∧ w.frozen? ⟨b, 0, none⟩ = false ∧ w.frozen? ⟨b, 1, none⟩ = false ∧ b < w.heap.size
theorem NC.ext {w w' : World} {b n : Nat} (h : NC w b n) (hx : Ext w w') : NC w' b n :=
  ⟨hx.some h.1, hx.some h.2.1, hx.live h.1 h.2.2.1, hx.live h.2.1 h.2.2.2.1, Nat.lt_of_lt_of_le h.2.2.2.2 hx.size⟩

theorem NC.far {w : World} {b n b' o : Nat} (v : Value) (h : NC w b n) (hb : b ≠ b') : NC (w.setCell ⟨b', o, none⟩ v) b n := by
  have e := Below.heap_setCell w ⟨b', o, none⟩ v b hb
  refine ⟨(World.cell?_of_block (w := w) e).trans h.1, (World.cell?_of_block (w := w) e).trans h.2.1, (World.frozen?_of_block (w := w) e).trans h.2.2.1, (World.frozen?_of_block (w := w) e).trans h.2.2.2.1, ?_⟩
  simpa using h.2.2.2.2
theorem NC.put {w : World} {b m : Nat} (h : NC w b m) (n : Nat) : NC ((w.setCell ⟨b, 0, none⟩ (.int .u64 (n : Int))).setCell ⟨b, 1, none⟩ (.string ⟨#[]⟩)) b n := by
  obtain ⟨h0, h1, f0, f1, l⟩ := h
  refine ⟨?_, ?_, ?_, ?_, ?_⟩
  all_goals simp [go_sem, h0, h1, f0, f1, l]

theorem NC.drew {w : World} {b n : Nat} (h : NC w b n) : NC w.drew b n := h

theorem gcd_sorted (a b : Nat) : Nat.gcd (max a b) (min a b) = Nat.gcd a b := by
  rcases Nat.le_total a b with h | h
  · rw [Nat.max_eq_right h, Nat.min_eq_left h, Nat.gcd_comm]
  · rw [Nat.max_eq_left h, Nat.min_eq_right h]

set_option maxHeartbeats 1000000 in
theorem wholeGcd (x y : Int) (hx : iabs x < 18446744073709551616) (hy : iabs y < 18446744073709551616) (w : World) :
    Calls Tryz.prog 61 #[.agg #[.bool (ineg x), .int .u64 ((iabs x : Nat) : Int), .string ⟨#[]⟩], .agg #[.bool (ineg y), .int .u64 ((iabs y : Nat) : Int), .string ⟨#[]⟩]] w fun e w' => e = .returned (.agg #[.int .u64 ((Nat.gcd (iabs x) (iabs y) : Nat) : Int), .string ⟨#[]⟩]) ∧ Ext w w' := by
  generalize ineg x = p at *
  generalize ineg y = q at *
  generalize iabs x = a at *
  generalize iabs y = b at *
  have HG := Lib.hid (gcd_sorted a b)
  generalize Nat.gcd a b = G at *
  go_enter Tryz.func61, Tryz.ntmps61
  go_upto_region 1 with fail
  go_cut [5, 6] (fun s5 s6 wx => ∃ bx by_ : Nat, s5 = .pointer (some ⟨bx, 0, none⟩) ∧ s6 = .pointer (some ⟨by_, 0, none⟩) ∧ NC wx bx a ∧ NC wx by_ b ∧ NC wx (w.heap.size + 1 + 1) 0 ∧ w.heap.size + 1 + 1 < bx ∧ w.heap.size + 1 + 1 < by_ ∧ bx ≠ by_ ∧ Ext w wx)
  case first =>
    go_region
    all_goals (go_wp2_with fail; go_meet)
    · refine ⟨_, _, rfl, rfl, ⟨?_, ?_, ?_, ?_, ?_⟩, ⟨?_, ?_, ?_, ?_, ?_⟩, ⟨?_, ?_, ?_, ?_, ?_⟩, ?_, ?_, ?_, ?_⟩
      all_goals first | (simp [go_sem]; done) | (simp; omega) | (repeat' (first | with_reducible exact Ext.refl _ | with_reducible refine Ext.setCell ?_ ?_ _ | with_reducible refine Ext.alloc ?_ _ | with_reducible refine Ext.drew ?_ | with_reducible refine Ext.drewN ?_ _ | with_reducible assumption | with_reducible refine Ext.trans ?_ (by assumption))) <;> (first | (simp; done) | (simp; omega) | omega)
    · refine ⟨_, _, rfl, rfl, ⟨?_, ?_, ?_, ?_, ?_⟩, ⟨?_, ?_, ?_, ?_, ?_⟩, ⟨?_, ?_, ?_, ?_, ?_⟩, ?_, ?_, ?_, ?_⟩
      all_goals first | (simp [go_sem]; done) | (simp; omega) | (repeat' (first | with_reducible exact Ext.refl _ | with_reducible refine Ext.setCell ?_ ?_ _ | with_reducible refine Ext.alloc ?_ _ | with_reducible refine Ext.drew ?_ | with_reducible refine Ext.drewN ?_ _ | with_reducible assumption | with_reducible refine Ext.trans ?_ (by assumption))) <;> (first | (simp; done) | (simp; omega) | omega)
  case rest =>
    obtain ⟨bx, by_, rfl, rfl, hX, hY, hR, n1, n2, n3, hE⟩ := hcut
    obtain ⟨x0, x1, fx0, fx1, lx⟩ := hX
    obtain ⟨y0, y1, fy0, fy1, ly⟩ := hY
    obtain ⟨r0, r1, fr0, fr1, lr⟩ := hR
    have n3' : by_ ≠ bx := Ne.symm n3
    have HC := Lib.hid (natCmp a b)
    go_upto_if 21 with (go_at_call 89; refine (HC.out _).mono ?_; rintro e w1 ⟨rfl, h1⟩)
    have X1 := NC.ext ⟨x0, x1, fx0, fx1, lx⟩ h1
    have Y1 := NC.ext ⟨y0, y1, fy0, fy1, ly⟩ h1
    have R1 := NC.ext ⟨r0, r1, fr0, fr1, lr⟩ h1
    have E1 := Ext.trans hE h1
    clear x0 x1 fx0 fx1 lx y0 y1 fy0 fy1 ly r0 r1 fr0 fr1 lr h1 hE HC
    go_cut [] (fun wx => NC wx bx (max a b) ∧ NC wx by_ (min a b) ∧ NC wx (w.heap.size + 1 + 1) 0 ∧ Ext w wx)
    case first =>
      rcases Nat.lt_or_ge a b with hl | hl
      · rw [cmpN_lt hl]
        obtain ⟨x0, x1, fx0, fx1, lx⟩ := X1
        obtain ⟨y0, y1, fy0, fy1, ly⟩ := Y1
        obtain ⟨r0, r1, fr0, fr1, lr⟩ := R1
        go_wp2_with fail
        go_meet
        rw [Nat.max_eq_right (by omega), Nat.min_eq_left (by omega)]
        refine ⟨NC.far _ (NC.far _ (NC.put ⟨x0, x1, fx0, fx1, lx⟩ b) n3) n3, NC.put (NC.far _ (NC.far _ ⟨y0, y1, fy0, fy1, ly⟩ n3') n3') a, NC.far _ (NC.far _ (NC.far _ (NC.far _ ⟨r0, r1, fr0, fr1, lr⟩ (by omega)) (by omega)) (by omega)) (by omega), ?_⟩
        (repeat' (first | with_reducible exact Ext.refl _ | with_reducible refine Ext.setCell ?_ ?_ _ | with_reducible refine Ext.alloc ?_ _ | with_reducible refine Ext.drew ?_ | with_reducible refine Ext.drewN ?_ _ | with_reducible assumption | with_reducible refine Ext.trans ?_ (by assumption))) <;> (first | (simp; done) | (simp; omega) | omega)
      · rcases cmpN_ge hl with e0 | e0
        all_goals
          rw [e0]
          go_wp2_with fail
          go_meet
          rw [Nat.max_eq_left hl, Nat.min_eq_right hl]
          exact ⟨X1, Y1, R1, E1⟩
    case rest =>
      obtain ⟨X2, Y2, R2, E2⟩ := hcut
      have hA : max a b < 18446744073709551616 := by omega
      have hB : min a b < 18446744073709551616 := by omega
      generalize max a b = A at *
      generalize min a b = B at *
      clear hx hy X1 Y1 R1 E1
      obtain ⟨x0, x1, fx0, fx1, lx⟩ := X2
      obtain ⟨y0, y1, fy0, fy1, ly⟩ := Y2
      obtain ⟨r0, r1, fr0, fr1, lr⟩ := R2
      have hbz := bitLen_eq0 B
      have HB := Lib.hid (natBits B hB)
      generalize Lib.bitLen B = L at *
      rcases Nat.eq_zero_or_pos B with h0 | h0
      · subst h0
        have hbz' : ((L : Int) == 0) = true := by rw [hbz]; rfl
        clear hbz
        go_wp2_with (go_at_call 54; refine (HB.out _).mono ?_; rintro e w2 ⟨rfl, h2⟩; have x0' := h2.some x0; have x1' := h2.some x1; have r0' := h2.some r0; have r1' := h2.some r1; have fr0' := h2.live r0 fr0; have fr1' := h2.live r1 fr1)
        obtain rfl : A = G := by simpa using HG.out
        refine bodyPost_ret (v := .agg #[.int .u64 ((A : Nat) : Int), .string ⟨#[]⟩]) (by simp [results, Tryz.results61, go_sem, r0', r1', x0', x1']) rfl ⟨rfl, ?_⟩
        (repeat' (first | with_reducible exact Ext.refl _ | with_reducible refine Ext.setCell ?_ ?_ _ | with_reducible refine Ext.alloc ?_ _ | with_reducible refine Ext.drew ?_ | with_reducible refine Ext.drewN ?_ _ | with_reducible assumption | with_reducible refine Ext.trans ?_ (by assumption))) <;> (first | (simp; done) | (simp; omega) | omega)
      · have hbz' : ((L : Int) == 0) = false := by rw [hbz]; simp; omega
        clear hbz
        have HD := Lib.hid (natDiv A B hA hB h0)
        have hM : A % B < 18446744073709551616 := by have := Nat.mod_lt A h0; omega
        have hbz := bitLen_eq0 (A % B)
        have HB2 := Lib.hid (natBits (A % B) hM)
        have HG2 := Lib.hid (show Nat.gcd B (A % B) = G by rw [← HG.out, Nat.gcd_comm A B, Nat.gcd_rec B A, Nat.gcd_comm])
        have hbM : A % B < B := Nat.mod_lt A h0
        generalize A % B = M at *
        generalize A / B = q0 at *
        generalize Lib.bitLen M = L2 at *
        go_upto_region 7 with (first | (go_at_call 54; refine (HB.out _).mono ?_; rintro e w2 ⟨rfl, h2⟩; have x0' := h2.some x0; have x1' := h2.some x1; have y0' := h2.some y0; have y1' := h2.some y1) | (go_at_call 90; refine (HD.out _).mono ?_; rintro e w3 ⟨rfl, h3⟩))
        have h23 := Ext.trans h2 h3
        have X3 := NC.ext ⟨x0, x1, fx0, fx1, lx⟩ h23
        have Y3 := NC.ext ⟨y0, y1, fy0, fy1, ly⟩ h23
        have R3 := NC.ext ⟨r0, r1, fr0, fr1, lr⟩ h23
        have E3 := Ext.trans E2 h23
        clear x0 x1 fx0 fx1 lx y0 y1 fy0 fy1 ly r0 r1 fr0 fr1 lr h2 h3 h23 x0' x1' y0' y1' E2
        have X4 := NC.ext (NC.ext X3 ((Ext.refl _).alloc (.cells #[.int .u64 (q0 : Int), .string ⟨#[]⟩] 56))) ((Ext.refl _).alloc (.cells #[.int .u64 (M : Int), .string ⟨#[]⟩] 56))
        have Y4 := NC.ext (NC.ext Y3 ((Ext.refl _).alloc (.cells #[.int .u64 (q0 : Int), .string ⟨#[]⟩] 56))) ((Ext.refl _).alloc (.cells #[.int .u64 (M : Int), .string ⟨#[]⟩] 56))
        have R4 := NC.ext (NC.ext R3 ((Ext.refl _).alloc (.cells #[.int .u64 (q0 : Int), .string ⟨#[]⟩] 56))) ((Ext.refl _).alloc (.cells #[.int .u64 (M : Int), .string ⟨#[]⟩] 56))
        have E4 := (E3.alloc (.cells #[.int .u64 (q0 : Int), .string ⟨#[]⟩] 56)).alloc (.cells #[.int .u64 (M : Int), .string ⟨#[]⟩] 56)
        have lX := X3.2.2.2.2
        have lY := Y3.2.2.2.2
        have m0 : ((w3.alloc (.cells #[.int .u64 (q0 : Int), .string ⟨#[]⟩] 56)).alloc (.cells #[.int .u64 (M : Int), .string ⟨#[]⟩] 56)).cell? ⟨w3.heap.size + 1, 0, none⟩ = some (.int .u64 (M : Int)) := by simp [go_sem]
        have m1 : ((w3.alloc (.cells #[.int .u64 (q0 : Int), .string ⟨#[]⟩] 56)).alloc (.cells #[.int .u64 (M : Int), .string ⟨#[]⟩] 56)).cell? ⟨w3.heap.size + 1, 1, none⟩ = some (.string ⟨#[]⟩) := by simp [go_sem]
        have k1 : bx ≠ w3.heap.size + 1 := by omega
        have k2 : w3.heap.size + 1 ≠ bx := by omega
        generalize hv : w3.heap.size + 1 = vv at *
        generalize (w3.alloc (.cells #[.int .u64 (q0 : Int), .string ⟨#[]⟩] 56)).alloc (.cells #[.int .u64 (M : Int), .string ⟨#[]⟩] 56) = w4 at *
        clear X3 Y3 R3 E3 lX lY hv
        go_cut [] (fun wx => NC wx bx B ∧ NC wx by_ M ∧ NC wx (w.heap.size + 1 + 1) 0 ∧ Ext w wx)
        case first =>
          obtain ⟨x0, x1, fx0, fx1, lx⟩ := X4
          obtain ⟨y0, y1, fy0, fy1, ly⟩ := Y4
          go_region
          all_goals (go_wp2_with fail; go_meet)
          exact ⟨NC.drew (NC.far _ (NC.far _ (NC.put ⟨x0, x1, fx0, fx1, lx⟩ B) n3) n3), NC.drew (NC.put (NC.far _ (NC.far _ ⟨y0, y1, fy0, fy1, ly⟩ n3') n3') M), NC.drew (NC.far _ (NC.far _ (NC.far _ (NC.far _ R4 (by omega)) (by omega)) (by omega)) (by omega)), Ext.drew (Ext.setCell (Ext.setCell (Ext.setCell (Ext.setCell E4 (by simp; omega) _) (by simp; omega) _) (by simp; omega) _) (by simp; omega) _)⟩
        case rest =>
          obtain ⟨X5, Y5, R5, E5⟩ := hcut
          clear X4 Y4 R4 E4 m0 m1
          obtain ⟨x0, x1, fx0, fx1, lx⟩ := X5
          obtain ⟨y0, y1, fy0, fy1, ly⟩ := Y5
          obtain ⟨r0, r1, fr0, fr1, lr⟩ := R5
          rcases Nat.eq_zero_or_pos M with hm | hm
          · subst hm
            have hbz2 : ((L2 : Int) == 0) = true := by rw [hbz]; rfl
            clear hbz
            go_wp2_with (go_at_call 54; refine (HB2.out _).mono ?_; rintro e w6 ⟨rfl, h6⟩; have x0' := h6.some x0; have x1' := h6.some x1; have r0' := h6.some r0; have r1' := h6.some r1; have fr0' := h6.live r0 fr0; have fr1' := h6.live r1 fr1)
            obtain rfl : B = G := by simpa using HG2.out
            refine bodyPost_ret (v := .agg #[.int .u64 ((B : Nat) : Int), .string ⟨#[]⟩]) (by simp [results, Tryz.results61, go_sem, r0', r1']) rfl ⟨rfl, ?_⟩
            (repeat' (first | with_reducible exact Ext.refl _ | with_reducible refine Ext.setCell ?_ ?_ _ | with_reducible refine Ext.alloc ?_ _ | with_reducible refine Ext.drew ?_ | with_reducible refine Ext.drewN ?_ _ | with_reducible assumption | with_reducible refine Ext.trans ?_ (by assumption))) <;> (first | (simp; done) | (simp; omega) | omega)
          · have hbz2 : ((L2 : Int) == 0) = false := by rw [hbz]; simp; omega
            clear hbz
            have HS1 := Lib.hid (natSmall B)
            have HS2 := Lib.hid (natSmall M)
            go_wp2_with fail
            refine (HB2.out _).mono ?_
            rintro e w6 ⟨rfl, h6⟩
            have x0' := h6.some x0
            have x1' := h6.some x1
            have y0' := h6.some y0
            have y1' := h6.some y1
            go_wp2_with fail
            refine (HS1.out _).mono ?_
            rintro e w7 ⟨rfl, h7⟩
            have y0'' := h7.some y0'
            have y1'' := h7.some y1'
            go_wp2_with fail
            refine (HS2.out _).mono ?_
            rintro e w8 ⟨rfl, h8⟩
            go_wp2_with fail
            have h68 := Ext.trans h6 (Ext.trans h7 h8)
            have R8 := NC.ext ⟨r0, r1, fr0, fr1, lr⟩ h68
            have E8 := Ext.trans E5 h68
            clear x0 x1 fx0 fx1 lx y0 y1 fy0 fy1 ly r0 r1 fr0 fr1 lr h68 x0' x1' y0' y1' y0'' y1'' h6 h7 h8 E5 HS1 HS2 HB HB2 HD hbz' hbz2
            go_loopw [10, 12] (fun s t wr => ∃ m n : Nat, s = .int .u64 (m : Int) ∧ t = .int .u64 (n : Int) ∧ Nat.gcd m n = G ∧ m < 18446744073709551616 ∧ n < 18446744073709551616 ∧ NC wr (w.heap.size + 1 + 1) 0 ∧ Ext w wr) (fun _ t _ => (intOf t).toNat)
            case atStart => exact ⟨B, M, rfl, rfl, HG2.out, hB, hM, R8, E8⟩
            case round =>
              obtain ⟨m, n, rfl, rfl, hg, hm1, hn1, R9, E9⟩ := hrel
              have HG9 := Lib.hid hg
              clear hg
              rcases Nat.eq_zero_or_pos n with hn0 | hn0
              · subst hn0
                obtain rfl : m = G := by simpa using HG9.out
                obtain ⟨r0, r1, fr0, fr1, lr⟩ := R9
                go_wp2_with fail
                refine (natOf m _).mono ?_
                rintro e w9 ⟨rfl, h9⟩
                have r0' := h9.some r0
                have r1' := h9.some r1
                have fr0' := h9.live r0 fr0
                have fr1' := h9.live r1 fr1
                go_wp2
                refine bodyPost_ret (v := .agg #[.int .u64 ((m : Nat) : Int), .string ⟨#[]⟩]) (by simp [results, Tryz.results61, go_sem, r0', r1']) rfl ⟨rfl, ?_⟩
                (repeat' (first | with_reducible exact Ext.refl _ | with_reducible refine Ext.setCell ?_ ?_ _ | with_reducible refine Ext.alloc ?_ _ | with_reducible refine Ext.drew ?_ | with_reducible refine Ext.drewN ?_ _ | with_reducible assumption | with_reducible refine Ext.trans ?_ (by assumption))) <;> (first | (simp; done) | (simp; omega) | omega)
              · have hz : ((n : Int) == 0) = false := by simp; omega
                have hmod : (m : Int) % (n : Int) = ((m % n : Nat) : Int) := by simp
                have HM := Lib.hid hmod
                clear hmod
                go_wp2_with fail
                go_region
                all_goals
                  go_wp2_with fail
                  go_roundw
                  case rel => exact ⟨n, m % n, rfl, by rw [HM.out], by rw [← HG9.out, Nat.gcd_comm m n, Nat.gcd_rec n m, Nat.gcd_comm], hn1, (by have := Nat.mod_lt m hn0; omega), R9, E9.drew⟩
                  case measure => rw [HM.out]; simp only [intOf, Int.toNat_natCast]; exact Nat.mod_lt m hn0
end Go.Proofs.YtmkonbkdjmfjhaaGreatDoor
