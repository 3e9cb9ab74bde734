/- Contract of make.Net. -/
import Derived.Test.YtbhpcpkcjgkcpaaGreatDoorMkA
namespace Go.Proofs.YtbhpcpkcjgkcpaaGreatDoor
open Go.RowKit


def natc (n : Nat) : List Value := [.int .i64 (n : Int)]
/-- The sizes, the kinds, and the layers that make.Net makes. -/
def netSizes (i m o : Int) : List Nat := if 0 < pick m 4 then [pick i 3 + 1, pick m 4, pick o 3 + 1] else [pick i 3 + 1, pick o 3 + 1]
def kindAt (k : Int) : Nat → Int
  | 0 => k
  | n + 1 => (kindAt k n).tdiv 3
theorem kindAt_bd {k : Int} (h : -9223372036854775808 ≤ k ∧ k ≤ 9223372036854775807) (n : Nat) : -9223372036854775808 ≤ (kindAt k n).tdiv 3 ∧ (kindAt k n).tdiv 3 ≤ 9223372036854775807 := by
  induction n with
  | zero => exact tdiv_bd k 3 (by omega) h.1 h.2
  | succ n ih => exact tdiv_bd _ 3 (by omega) ih.1 ih.2
def Smalls (l : List Rat) : Prop := ∀ q ∈ l, ∃ z, q = smallq z
theorem Smalls.snoc {l : List Rat} (h : Smalls l) (z : Int) : Smalls (l ++ [smallq z]) := fun q hq => by
  rcases List.mem_append.1 hq with h1 | h1
  · exact h q h1
  · exact ⟨z, List.mem_singleton.1 h1⟩
theorem rows_snoc {Wl : List (List Rat)} {n : Nat} (h : ∀ r ∈ Wl, r.length = n ∧ Smalls r) {q : List Rat} (hl : q.length = n) (hq : Smalls q) : ∀ r ∈ Wl ++ [q], r.length = n ∧ Smalls r := fun r hr => by
  rcases List.mem_append.1 hr with h1 | h1
  · exact h r h1
  · rw [List.mem_singleton.1 h1]; exact ⟨hl, hq⟩
structure LayMk (L : Lay) (kq : Nat) (r c : Nat) : Prop where
  k : L.k = (kq : Int)
  rows : L.W.length = r
  row : ∀ q ∈ L.W, q.length = c ∧ Smalls q
  bl : L.B.length = r
  bs : Smalls L.B
theorem mk_snoc {ls : List Lay} {L : Lay} {f g e : Nat → Nat} (h : ∀ i, i < ls.length → LayMk (ls.getD i lay0) (f i) (g i) (e i)) (hL : LayMk L (f ls.length) (g ls.length) (e ls.length)) : ∀ i, i < (ls ++ [L]).length → LayMk ((ls ++ [L]).getD i lay0) (f i) (g i) (e i) := by
  intro i hi
  rw [getD_snoc]
  split
  · rename_i h1; exact h i h1
  · rename_i h1
    have : i = ls.length := by simp at hi; omega
    rw [if_pos this, this]; exact hL
theorem RVs.nil {h : Hp} : RVs h [] [] := ⟨rfl, fun i hi => by simp at hi⟩
theorem RVs.snoc {h : Hp} {vs : List Value} {qss : List (List Rat)} (r : RVs h vs qss) {v : Value} {l : List Rat} (hv : ∃ A cap, ∃ ts : List RT, v = .slice A ts.length cap ∧ ts.length ≤ cap ∧ SlO 3 rqc rqd h A ts ∧ RTs h ts l) : RVs h (vs ++ [v]) (qss ++ [l]) := by
  refine ⟨by simp [r.len], fun i hi => ?_⟩
  rw [getD_snoc, getD_snoc, r.len]
  split
  · rename_i h1; exact r.at_ i h1
  · rename_i h1
    have : i = qss.length := by simp at hi; omega
    rw [if_pos this, if_pos this]; exact hv

set_option maxRecDepth 100000 in
set_option maxHeartbeats 600000 in
theorem mNet (A : Option Addr) (cap : Nat) (zs : List Int) (hl : zs.length ≤ 9223372036854775807) (hz : I64s zs) (i_ m_ o_ kd : Int) (hkd : -9223372036854775808 ≤ kd ∧ kd ≤ 9223372036854775807) (w : World) (h : Hp) (g : G w h) (hA : SlO 1 i64c 0 h A zs) :
    Calls Tryz.prog 10 #[.slice A zs.length cap, .int .i64 i_, .int .i64 m_, .int .i64 o_, .int .i64 kd] w (Ret w h fun v h => ∃ A c, ∃ us : List LV, ∃ ls : List Lay, v = .agg #[.slice A us.length c] ∧ us.length ≤ c ∧ SlO 3 lvc lvd h A us ∧ RNetL h us ls ∧ ls.length + 1 = (netSizes i_ m_ o_).length ∧ ∀ i, i < ls.length → LayMk (ls.getD i lay0) (pick (kindAt kd i) 3 + 1 : Nat) ((netSizes i_ m_ o_).getD (i + 1) 0) ((netSizes i_ m_ o_).getD i 0)) := by
  have hs := St.start g
  refine enter (n := 98) Tryz.func10 rfl rfl (Nat.le_of_ble_eq_true (by kernel_rfl)) [(0, .slice A zs.length cap), (1, .int .i64 i_), (2, .int .i64 m_), (3, .int .i64 o_), (4, .int .i64 kd)] rfl ?_
  refine CG.seq ?_
  refine CG.listed ?_
  refine LG.var 10 29 ([.slice none 0 0]) hs (by kernel_rfl) (by kernel_rfl) (by kernel_rfl) (fun b1 w2 h3 nb_ u4 hs => ?_)
  replace hA := hA.gw u4.gr.gw
  refine LG.next (by kernel_rfl) ?_
  refine CG.seq ?_
  refine CG.listed ?_
  refine LG.val 20 (.slice A zs.length cap) w2 (by kernel_rfl) (by kernel_rfl) (by kernel_rfl) ?_
  refine LG.val 21 (.agg #[.slice A zs.length cap, .int .i64 0]) w2 (by kernel_rfl) (by kernel_rfl) (by kernel_rfl) ?_
  refine LG.var 22 99 ([.slice A zs.length cap, .int .i64 0]) hs (by kernel_rfl) (by kernel_rfl) (by kernel_rfl) (fun b5 w6 h7 nb_ u8 hs => ?_)
  replace hA := hA.gw u8.gr.gw
  refine LG.val 11 (.pointer (some ⟨b5, 0, none⟩)) w6 (by kernel_rfl) (by kernel_rfl) (by kernel_rfl) ?_
  refine LG.next (by kernel_rfl) ?_
  refine CG.seq ?_
  refine CG.listed ?_
  refine LG.val 23 (.int .i64 i_) w6 (by kernel_rfl) (by kernel_rfl) (by kernel_rfl) ?_
  refine LG.call 24 11 #[.int .i64 i_, .int .i64 3] (by kernel_rfl) (by kernel_rfl) (by kernel_rfl) ?_
  refine (hPick (i_) 3 (by omega) (by omega) w6 h7 hs.g).mono ?_
  rintro _ w9 ⟨vu11, h10, rfl, u11, rfl⟩
  refine ⟨_, rfl, ?_⟩
  replace hs := hs.step u11
  replace hA := hA.gw u11.gr.gw
  have lp_0 := pick_lt (i_) 3 (by omega)
  refine LG.val 25 (.int .i64 ((pick (i_) 3) + 1 : Nat)) w9 (by kernel_rfl) (by kernel_rfl) (rint (ri64 (n := (pick (i_) 3 : Nat) + 1) (by kernel_rfl) (by omega) (by omega)) (by omega)) ?_
  refine LG.val 26 (.int .i64 o_) w9 (by kernel_rfl) (by kernel_rfl) (by kernel_rfl) ?_
  refine LG.call 27 11 #[.int .i64 o_, .int .i64 3] (by kernel_rfl) (by kernel_rfl) (by kernel_rfl) ?_
  refine (hPick (o_) 3 (by omega) (by omega) w9 h10 hs.g).mono ?_
  rintro _ w12 ⟨vu14, h13, rfl, u14, rfl⟩
  refine ⟨_, rfl, ?_⟩
  replace hs := hs.step u14
  replace hA := hA.gw u14.gr.gw
  have lp_1 := pick_lt (o_) 3 (by omega)
  refine LG.val 28 (.int .i64 ((pick (o_) 3) + 1 : Nat)) w12 (by kernel_rfl) (by kernel_rfl) (rint (ri64 (n := (pick (o_) 3 : Nat) + 1) (by kernel_rfl) (by omega) (by omega)) (by omega)) ?_
  refine LG.row 29 3 2 ([.int .i64 ((pick (i_) 3) + 1 : Nat), .int .i64 ((pick (o_) 3) + 1 : Nat)]) hs.g (by kernel_rfl) (by kernel_rfl) (by kernel_rfl) (fun b15 w16 h17 u18 hS19 => ?_)
  replace hs := hs.step u18
  replace hA := hA.gw u18.gr.gw
  obtain ⟨S20, hSe21⟩ : ∃ S : List Nat, S = [((pick (i_) 3) + 1 : Nat), ((pick (o_) 3) + 1 : Nat)] := ⟨_, rfl⟩
  have hZ22 : SlO 1 natc 0 h17 (some ⟨b15, 0, none⟩) S20 := by rw [hSe21]; exact SlO.of_flat (fun _ => rfl) hS19
  have S20_l : S20.length = 2 := by rw [hSe21]; rfl
  refine LG.val 12 (.slice (some ⟨b15, 0, none⟩) 2 2) w16 (by kernel_rfl) (by kernel_rfl) (by kernel_rfl) ?_
  refine LG.next (by kernel_rfl) ?_
  refine CG.to [(2, .int .i64 m_), (4, .int .i64 kd), (10, .pointer (some ⟨b1, 0, none⟩)), (11, .pointer (some ⟨b5, 0, none⟩)), (12, .slice (some ⟨b15, 0, none⟩) 2 2)] (by kernel_rfl) ?_
  refine CG.seq ?_
  refine CG.seq ?_
  refine CG.listed ?_
  refine LG.val 30 (.int .i64 m_) w16 (by kernel_rfl) (by kernel_rfl) (by kernel_rfl) ?_
  refine LG.call 31 11 #[.int .i64 m_, .int .i64 4] (by kernel_rfl) (by kernel_rfl) (by kernel_rfl) ?_
  refine (hPick (m_) 4 (by omega) (by omega) w16 h17 hs.g).mono ?_
  rintro _ w23 ⟨vu25, h24, rfl, u25, rfl⟩
  refine ⟨_, rfl, ?_⟩
  replace hs := hs.step u25
  replace hA := hA.gw u25.gr.gw
  replace hZ22 := hZ22.gw u25.gr.gw
  have lp_2 := pick_lt (m_) 4 (by omega)
  refine LG.val 13 (.int .i64 (pick (m_) 4 : Nat)) w23 (by kernel_rfl) (by kernel_rfl) (by kernel_rfl) ?_
  refine LG.next (by kernel_rfl) ?_
  refine CG.seq ?_
  refine CG.listed ?_
  refine LG.val 32 (.int .i64 (pick (m_) 4 : Nat)) w23 (by kernel_rfl) (by kernel_rfl) (by kernel_rfl) ?_
  cases hb26 : (decide ((0 : Int) < ((pick (m_) 4 : Nat) : Int)))
  ·
    have phb26 := of_decide_eq_false hb26
    refine LG.val 33 (.bool false) w23 (by kernel_rfl) (by kernel_rfl) (rb (by kernel_rfl) hb26) ?_
    refine LG.next (by kernel_rfl) ?_
    refine CG.condF (by kernel_rfl) (by kernel_rfl) ?_
    refine CG.skipN ?_
    refine CG.seq ?_
    refine CG.listed ?_
    refine LG.var 14 29 ([.slice none 0 0]) hs (by kernel_rfl) (by kernel_rfl) (by kernel_rfl) (fun b27 w28 h29 nb_ u30 hs => ?_)
    replace hA := hA.gw u30.gr.gw
    replace hZ22 := hZ22.gw u30.gr.gw
    refine LG.next (by kernel_rfl) ?_
    refine CG.seq ?_
    refine CG.seq ?_
    refine CG.listed ?_
    refine LG.val 15 (.int .i64 1) w28 (by kernel_rfl) (by kernel_rfl) (by kernel_rfl) ?_
    refine LG.next (by kernel_rfl) ?_
    refine CG.block ?_
    refine CG.to [(10, .pointer (some ⟨b1, 0, none⟩)), (11, .pointer (some ⟨b5, 0, none⟩)), (12, .slice (some ⟨b15, 0, none⟩) 2 2), (14, .pointer (some ⟨b27, 0, none⟩)), (15, .int .i64 1), (4, .int .i64 kd)] (by kernel_rfl) ?_
    have hSb : ∀ i, S20.getD i 0 ≤ 4 := by intro i; rw [hSe21]; rcases i with _ | _ | _ | i <;> simp <;> omega
    refine CG.loop (fun μ_ Γ w_ => ∃ (k : Nat) (s : Value) (us : List LV) (ls : List Lay) (at1 : Nat) (h_ : Hp), μ_ = S20.length - k ∧ Γ = [(10, .pointer (some ⟨b1, 0, none⟩)), (11, .pointer (some ⟨b5, 0, none⟩)), (12, .slice (some ⟨b15, 0, none⟩) 2 2), (14, .pointer (some ⟨b27, 0, none⟩)), (15, .int .i64 (k + 1 : Nat)), (4, .int .i64 (kindAt kd k))] ∧ St w h w_ h_ [⟨b27, 29, [s]⟩, ⟨b5, 99, [.slice A zs.length cap, .int .i64 (at1 : Nat)]⟩, ⟨b1, 29, [.slice none 0 0]⟩] ∧ (SlO 1 i64c 0 h_ A zs) ∧ (SlO 1 natc 0 h_ (some ⟨b15, 0, none⟩) S20) ∧ (k + 1 ≤ S20.length) ∧ (ls.length = k) ∧ (at1 ≤ zs.length) ∧ (∀ i, i < ls.length → LayMk (ls.getD i lay0) (pick (kindAt kd i) 3 + 1 : Nat) (S20.getD (i + 1) 0) (S20.getD i 0)) ∧ (RNetL h_ us ls) ∧ (Gro h [b27, b5, b1] w_ h_ 95 3 s ((us).length) ((us).flatMap lvc))) _ ⟨0, (.slice none 0 0), [], [], 0, h29, rfl, rfl, hs.to _ (by kernel_rfl), hA, hZ22, by omega, rfl, Nat.zero_le _, fun i hi => by simp at hi, RNetL.nil, Gro.nil⟩ ?_
    rintro _ _ w31 ⟨k, s, us, ls, at1, h32, hm33, rfl, hs, hA, hZ22, hk, hkl, hat1, hMk, hN, hg⟩
    have hS0 := hSb k
    have hS1 := hSb (k + 1)
    have hlu := hN.len
    obtain ⟨tk0, tk1⟩ := kindAt_bd hkd k
    -- round
    refine CG.seq ?_
    refine CG.seq ?_
    refine CG.listed ?_
    refine LG.val 42 (.int .i64 (k + 1 : Nat)) w31 (by kernel_rfl) (by kernel_rfl) (by kernel_rfl) ?_
    refine LG.val 43 (.slice (some ⟨b15, 0, none⟩) 2 2) w31 (by kernel_rfl) (by kernel_rfl) (by kernel_rfl) ?_
    refine LG.val 44 (.int .i64 2) w31 (by kernel_rfl) (by kernel_rfl) (by kernel_rfl) ?_
    cases hb34 : (decide (((k + 1 : Nat) : Int) < (2 : Int)))
    ·
      have phb34 := of_decide_eq_false hb34
      refine LG.val 45 (.bool false) w31 (by kernel_rfl) (by kernel_rfl) (rb (by kernel_rfl) hb34) ?_
      refine LG.next (by kernel_rfl) ?_
      refine CG.condF (by kernel_rfl) (by kernel_rfl) ?_
      refine CG.exit ?_
      show CG _ _ _ _ _ _ _ _
      refine CG.to [(10, .pointer (some ⟨b1, 0, none⟩)), (14, .pointer (some ⟨b27, 0, none⟩))] (by kernel_rfl) ?_
      refine CG.seq ?_
      refine CG.listed ?_
      obtain ⟨a35, n36, c37, rfl⟩ := hg.sl
      obtain ⟨hq38, hs, pw39, po40, hm41, hc42, hz43, sg44⟩ := Gro.pub3 hs hg
      subst hm41
      replace hA := hA.gw pw39
      replace hZ22 := hZ22.gw pw39
      replace hN := hN.gw pw39
      have hA45 : SlO 3 lvc lvd hq38 a35 (us) := SlO.of_pub (fun _ => rfl) hz43 sg44
      refine LG.own 97 [(0, 0, 1)] (.agg #[.slice a35 ((us).length) c37]) hs (by kernel_rfl) (by kernel_rfl) (by kernel_rfl) (by kernel_rfl) ?_
      refine LG.put 2 0 ([.slice a35 ((us).length) c37]) hs g (by kernel_rfl) (by kernel_rfl) (by kernel_rfl) (by kernel_rfl) (fun w46 pu hs => ?_)
      refine LG.next (by kernel_rfl) ?_
      refine CG.ret ?_
      have hSS : netSizes i_ m_ o_ = S20 := by rw [hSe21]; unfold netSizes; rw [if_neg (by omega)]
      rw [← hSS] at hMk
      exact retP hs [(2, 0, 1)] (.agg #[.slice a35 ((us).length) c37]) (by kernel_rfl) (by kernel_rfl) ⟨_, _, us, ls, rfl, hc42, hA45, hN, by rw [hSS]; omega, hMk⟩
    ·
      have phb34 := of_decide_eq_true hb34
      refine LG.val 45 (.bool true) w31 (by kernel_rfl) (by kernel_rfl) (rb (by kernel_rfl) hb34) ?_
      refine LG.next (by kernel_rfl) ?_
      refine CG.condT (by kernel_rfl) (by kernel_rfl) ?_
      refine CG.skipN ?_
      refine CG.seq ?_
      refine CG.block ?_
      refine CG.seq ?_
      refine CG.listed ?_
      refine LG.val 48 (.int .i64 (kindAt kd k)) w31 (by kernel_rfl) (by kernel_rfl) (by kernel_rfl) ?_
      refine LG.call 49 11 #[.int .i64 (kindAt kd k), .int .i64 3] (by kernel_rfl) (by kernel_rfl) (by kernel_rfl) ?_
      refine (hPick (kindAt kd k) 3 (by omega) (by omega) w31 h32 hs.g).mono ?_
      rintro _ w47 ⟨vu49, h48, rfl, u49, rfl⟩
      refine ⟨_, rfl, ?_⟩
      replace hs := hs.step u49
      replace hg := hg.up u49
      replace hA := hA.gw u49.gr.gw
      replace hZ22 := hZ22.gw u49.gr.gw
      replace hN := hN.gw u49.gr.gw
      have lp_3 := pick_lt (kindAt kd k) 3 (by omega)
      refine LG.val 50 (.int .i64 ((pick (kindAt kd k) 3) + 1 : Nat)) w47 (by kernel_rfl) (by kernel_rfl) (rint (ri64 (n := (pick (kindAt kd k) 3 : Nat) + 1) (by kernel_rfl) (by omega) (by omega)) (by omega)) ?_
      refine LG.val 51 (.agg #[.int .i64 ((pick (kindAt kd k) 3) + 1 : Nat), .slice none 0 0, .slice none 0 0]) w47 (by kernel_rfl) (by kernel_rfl) (by kernel_rfl) ?_
      refine LG.var 16 95 ([.int .i64 0, .slice none 0 0, .slice none 0 0]) hs (by kernel_rfl) (by kernel_rfl) (by kernel_rfl) (fun b50 w51 h52 nb_ u53 hs => ?_)
      replace hg := (hg.up u53).new b50 (fun c hc e => Nat.lt_irrefl c (Nat.lt_of_lt_of_le (hg.lt hc) (by rw [e]; exact nb_)))
      replace hA := hA.gw u53.gr.gw
      replace hZ22 := hZ22.gw u53.gr.gw
      replace hN := hN.gw u53.gr.gw
      refine LG.put 0 0 ([.int .i64 ((pick (kindAt kd k) 3) + 1 : Nat), .slice none 0 0, .slice none 0 0]) hs g (by kernel_rfl) (by kernel_rfl) (by kernel_rfl) (by kernel_rfl) (fun w54 pu hs => ?_)
      replace hg := hg.put pu (by simp [bxAt])
      replace hs := hs.to [⟨b50, 95, [.int .i64 ((pick (kindAt kd k) 3) + 1 : Nat), .slice none 0 0, .slice none 0 0]⟩, ⟨b27, 29, [s]⟩, ⟨b5, 99, [.slice A zs.length cap, .int .i64 (at1 : Nat)]⟩, ⟨b1, 29, [.slice none 0 0]⟩] (by kernel_rfl)
      refine LG.next (by kernel_rfl) ?_
      refine CG.to [(10, .pointer (some ⟨b1, 0, none⟩)), (11, .pointer (some ⟨b5, 0, none⟩)), (12, .slice (some ⟨b15, 0, none⟩) 2 2), (14, .pointer (some ⟨b27, 0, none⟩)), (15, .int .i64 (k + 1 : Nat)), (4, .int .i64 (kindAt kd k)), (16, .pointer (some ⟨b50, 0, none⟩))] (by kernel_rfl) ?_
      refine CG.seq ?_
      refine CG.listed ?_
      refine LG.val 52 (.int .i64 (kindAt kd k)) w54 (by kernel_rfl) (by kernel_rfl) (by kernel_rfl) ?_
      refine LG.val 53 (.int .i64 ((kindAt kd k).tdiv 3)) w54 (by kernel_rfl) (by kernel_rfl) (rint (n := IntKind.wrap .i64 ((kindAt kd k).tdiv 3)) (by kernel_rfl) (fitI64 (by omega) (by omega))) ?_
      refine LG.val 4 (.int .i64 ((kindAt kd k).tdiv 3)) w54 (by kernel_rfl) (by kernel_rfl) (by kernel_rfl) ?_
      refine LG.next (by kernel_rfl) ?_
      refine CG.seq ?_
      refine CG.seq ?_
      refine CG.listed ?_
      refine LG.val 17 (.int .i64 0) w54 (by kernel_rfl) (by kernel_rfl) (by kernel_rfl) ?_
      refine LG.next (by kernel_rfl) ?_
      refine CG.block ?_
      refine CG.to [(10, .pointer (some ⟨b1, 0, none⟩)), (11, .pointer (some ⟨b5, 0, none⟩)), (12, .slice (some ⟨b15, 0, none⟩) 2 2), (14, .pointer (some ⟨b27, 0, none⟩)), (15, .int .i64 (k + 1 : Nat)), (4, .int .i64 ((kindAt kd k).tdiv 3)), (16, .pointer (some ⟨b50, 0, none⟩)), (17, .int .i64 0)] (by kernel_rfl) ?_
      refine CG.loop (fun μ_ Γ w_ => ∃ (j : Nat) (sW : Value) (Wl : List (List Rat)) (vW : List Value) (sB : Value) (Bl : List Rat) (tB : List RT) (at2 : Nat) (h_ : Hp), μ_ = S20.getD (k + 1) 0 - j ∧ Γ = [(10, .pointer (some ⟨b1, 0, none⟩)), (11, .pointer (some ⟨b5, 0, none⟩)), (12, .slice (some ⟨b15, 0, none⟩) 2 2), (14, .pointer (some ⟨b27, 0, none⟩)), (15, .int .i64 (k + 1 : Nat)), (4, .int .i64 ((kindAt kd k).tdiv 3)), (16, .pointer (some ⟨b50, 0, none⟩)), (17, .int .i64 (j : Nat))] ∧ St w h w_ h_ [⟨b50, 95, [.int .i64 (pick (kindAt kd k) 3 + 1 : Nat), sW, sB]⟩, ⟨b27, 29, [s]⟩, ⟨b5, 99, [.slice A zs.length cap, .int .i64 (at2 : Nat)]⟩, ⟨b1, 29, [.slice none 0 0]⟩] ∧ (SlO 1 i64c 0 h_ A zs) ∧ (SlO 1 natc 0 h_ (some ⟨b15, 0, none⟩) S20) ∧ (RNetL h_ us ls) ∧ (Gro h [b50, b27, b5, b1] w_ h_ 95 3 s ((us).length) ((us).flatMap lvc)) ∧ (j ≤ S20.getD (k + 1) 0) ∧ (Wl.length = j) ∧ (Bl.length = j) ∧ (at2 ≤ zs.length) ∧ (∀ r ∈ Wl, r.length = S20.getD k 0 ∧ Smalls r) ∧ (Smalls Bl) ∧ (RVs h_ vW Wl) ∧ (RTs h_ tB Bl) ∧ (Gro h [b50, b27, b5, b1] w_ h_ 34 1 sW ((vW).length) ((vW).flatMap vc)) ∧ (Gro h [b50, b27, b5, b1] w_ h_ 105 3 sB ((tB).length) ((tB).flatMap rqc)) ∧ (Apart sW sB) ∧ (Apart sW s) ∧ (Apart sB s)) _ ⟨0, (.slice none 0 0), [], [], (.slice none 0 0), [], [], at1, h52, rfl, rfl, hs.to _ (by kernel_rfl), hA, hZ22, hN, hg, Nat.zero_le _, rfl, rfl, hat1, fun r hr => by simp at hr, fun r hr => by simp at hr, RVs.nil, RTs.nil, Gro.nil, Gro.nil, Apart.nil, Apart.nil, Apart.nil⟩ ?_
      rintro _ _ w55 ⟨j, sW, Wl, vW, sB, Bl, tB, at2, h56, hm57, rfl, hs, hA, hZ22, hN, hg, hj, hWl, hBl, hat2, hWs, hBs, hV, hTB, hgW, hgB, hap1, hap2, hap3⟩
      have hlv := hV.len
      have hlt := hTB.len
      -- round
      refine CG.seq ?_
      refine CG.seq ?_
      refine CG.listed ?_
      refine LG.val 54 (.int .i64 (j : Nat)) w55 (by kernel_rfl) (by kernel_rfl) (by kernel_rfl) ?_
      refine LG.val 55 (.slice (some ⟨b15, 0, none⟩) 2 2) w55 (by kernel_rfl) (by kernel_rfl) (by kernel_rfl) ?_
      refine LG.val 56 (.int .i64 (k + 1 : Nat)) w55 (by kernel_rfl) (by kernel_rfl) (by kernel_rfl) ?_
      refine LG.val 57 (.pointer (some ⟨(aB (some ⟨b15, 0, none⟩)), aO (some ⟨b15, 0, none⟩) + (k + 1) * 1, none⟩)) w55 (by kernel_rfl) (by kernel_rfl) (ixAddr (t := 22) (e := 3) (x := .tmp 55) (ix := .tmp 56) (A := some ⟨b15, 0, none⟩) (len := 2) (cap := 2) (sz := 1) (i := (k + 1 : Nat)) (k + 1) (by kernel_rfl) (by kernel_rfl) (by kernel_rfl) (by kernel_rfl) (by kernel_rfl) (hZ22.ok (by omega)) (by omega) (by omega) _) ?_
      refine LG.val 58 (.int .i64 (S20.getD (k + 1) 0 : Nat)) w55 (by kernel_rfl) (by kernel_rfl) (Seg.run (hZ22.el (k + 1) (by omega)) hs.g (Ext.refl _) (by kernel_rfl)) ?_
      cases hb58 : (decide (((j : Nat) : Int) < ((S20.getD (k + 1) 0 : Nat) : Int)))
      ·
        have phb58 := of_decide_eq_false hb58
        refine LG.val 59 (.bool false) w55 (by kernel_rfl) (by kernel_rfl) (rb (by kernel_rfl) hb58) ?_
        refine LG.next (by kernel_rfl) ?_
        refine CG.condF (by kernel_rfl) (by kernel_rfl) ?_
        refine CG.exit ?_
        show CG _ _ _ _ _ _ _ _
        refine CG.to [(10, .pointer (some ⟨b1, 0, none⟩)), (11, .pointer (some ⟨b5, 0, none⟩)), (12, .slice (some ⟨b15, 0, none⟩) 2 2), (14, .pointer (some ⟨b27, 0, none⟩)), (15, .int .i64 (k + 1 : Nat)), (4, .int .i64 ((kindAt kd k).tdiv 3)), (16, .pointer (some ⟨b50, 0, none⟩))] (by kernel_rfl) ?_
        refine CG.listed ?_
        obtain ⟨a59, n60, c61, rfl⟩ := hgW.sl
        obtain ⟨hq62, hs, pw63, po64, hm65, hc66, hz67, sg68⟩ := Gro.pub3 hs hgW
        subst hm65
        replace hA := hA.gw pw63
        replace hZ22 := hZ22.gw pw63
        replace hN := hN.gw pw63
        replace hV := hV.gw pw63
        replace hTB := hTB.gw pw63
        replace hg := hg.pubo po64 ((hap2).symm)
        replace hgB := hgB.pubo po64 ((hap1).symm)
        have hA69 : SlO 1 vc undef hq62 a59 (vW) := SlO.of_pub (fun _ => rfl) hz67 sg68
        obtain ⟨a70, n71, c72, rfl⟩ := hgB.sl
        obtain ⟨hq73, hs, pw74, po75, hm76, hc77, hz78, sg79⟩ := Gro.pub3 hs hgB
        subst hm76
        replace hA := hA.gw pw74
        replace hZ22 := hZ22.gw pw74
        replace hN := hN.gw pw74
        replace hV := hV.gw pw74
        replace hTB := hTB.gw pw74
        replace hA69 := hA69.gw pw74
        replace hg := hg.pubo po75 ((hap3).symm)
        have hA80 : SlO 3 rqc rqd hq73 a70 (tB) := SlO.of_pub (fun _ => rfl) hz78 sg79
        refine LG.val 91 (.pointer (some ⟨b27, 0, none⟩)) w55 (by kernel_rfl) (by kernel_rfl) (by kernel_rfl) ?_
        refine LG.own 92 [(1, 0, 1)] (s) hs (by kernel_rfl) (by kernel_rfl) (by kernel_rfl) (by kernel_rfl) ?_
        refine LG.own 93 [(0, 0, 3)] (.agg #[.int .i64 (pick (kindAt kd k) 3 + 1 : Nat), .slice a59 ((vW).length) c61, .slice a70 ((tB).length) c72]) hs (by kernel_rfl) (by kernel_rfl) (by kernel_rfl) (by kernel_rfl) ?_
        refine LG.row 94 95 1 ([.int .i64 (pick (kindAt kd k) 3 + 1 : Nat), .slice a59 ((vW).length) c61, .slice a70 ((tB).length) c72]) hs.g (by kernel_rfl) (by kernel_rfl) (by kernel_rfl) (fun b81 w82 h83 u84 hS85 => ?_)
        replace hs := hs.step u84
        replace hg := hg.up u84
        replace hA := hA.gw u84.gr.gw
        replace hZ22 := hZ22.gw u84.gr.gw
        replace hN := hN.gw u84.gr.gw
        replace hV := hV.gw u84.gr.gw
        replace hTB := hTB.gw u84.gr.gw
        replace hA69 := hA69.gw u84.gr.gw
        replace hA80 := hA80.gw u84.gr.gw
        refine LG.app 95 (x := .tmp 92) (y := .tmp 94) (ty := 27) (e := 95) (z := .agg #[.int .i64 0, .slice none 0 0, .slice none 0 0]) (sz := 3) (bt := 56) (m := ((us).length)) (m2 := 1) (c := 1) (b := b81) (v := s) (cs := (us).flatMap lvc) (news := [.int .i64 (pick (kindAt kd k) 3 + 1 : Nat), .slice a59 ((vW).length) c61, .slice a70 ((tB).length) c72]) hs g hg hS85 (by kernel_rfl) (by kernel_rfl) (by kernel_rfl) (by kernel_rfl) (by kernel_rfl) (by kernel_rfl) (by kernel_rfl) (by kernel_rfl) (by decide) (by kernel_rfl) (by kernel_rfl) (by omega) (by omega) (fun s86 w87 h88 gr89 gg90 hl_ hs hg91 => ?_)
        obtain ⟨s86A, s86n, s86c, rfl⟩ := hg91.sl
        replace hA := hA.gw gr89.gw
        replace hZ22 := hZ22.gw gr89.gw
        replace hN := hN.gw gr89.gw
        replace hV := hV.gw gr89.gw
        replace hTB := hTB.gw gr89.gw
        replace hA69 := hA69.gw gr89.gw
        replace hA80 := hA80.gw gr89.gw
        replace hS85 := hS85.gw gr89.gw
        replace hg91 := Gro.snoc (l := us) (f := lvc) (x := (((pick (kindAt kd k) 3 + 1 : Nat), .slice a59 ((vW).length) c61, .slice a70 ((tB).length) c72) : LV)) hg91 (by kernel_rfl)
        refine LG.val 96 (.pointer (some ⟨b27, 0, none⟩)) w87 (by kernel_rfl) (by kernel_rfl) (by kernel_rfl) ?_
        refine LG.put 1 0 ([(.slice s86A s86n s86c)]) hs g (by kernel_rfl) (by kernel_rfl) (by kernel_rfl) (by kernel_rfl) (fun w95 pu hs => ?_)
        replace hg91 := hg91.put pu (by simp [bxAt])
        replace hs := hs.to [⟨b50, 95, [.int .i64 (pick (kindAt kd k) 3 + 1 : Nat), .slice a59 ((vW).length) c61, .slice a70 ((tB).length) c72]⟩, ⟨b27, 29, [(.slice s86A s86n s86c)]⟩, ⟨b5, 99, [.slice A zs.length cap, .int .i64 (at2 : Nat)]⟩, ⟨b1, 29, [.slice none 0 0]⟩] (by kernel_rfl)
        refine LG.next (by kernel_rfl) ?_
        refine CG.to [(10, .pointer (some ⟨b1, 0, none⟩)), (11, .pointer (some ⟨b5, 0, none⟩)), (12, .slice (some ⟨b15, 0, none⟩) 2 2), (14, .pointer (some ⟨b27, 0, none⟩)), (15, .int .i64 (k + 1 : Nat)), (4, .int .i64 ((kindAt kd k).tdiv 3))] (by kernel_rfl) ?_
        refine CG.listed ?_
        refine LG.val 46 (.int .i64 (k + 1 : Nat)) w95 (by kernel_rfl) (by kernel_rfl) (by kernel_rfl) ?_
        refine LG.val 47 (.int .i64 ((k + 1) + 1 : Nat)) w95 (by kernel_rfl) (by kernel_rfl) (rint (ri64 (n := (k + 1 : Nat) + 1) (by kernel_rfl) (by omega) (by omega)) (by omega)) ?_
        refine LG.val 15 (.int .i64 ((k + 1) + 1 : Nat)) w95 (by kernel_rfl) (by kernel_rfl) (by kernel_rfl) ?_
        refine LG.done (by kernel_rfl) ?_
        intro a_ ka
        replace hs := hs.drop 1
        replace hg91 := hg91.sub [b27, b5, b1] (by simp)
        refine ⟨_, _, ?_, ⟨k + 1, (.slice s86A s86n s86c), us ++ [(((pick (kindAt kd k) 3 + 1 : Nat), .slice a59 ((vW).length) c61, .slice a70 ((tB).length) c72) : LV)], ls ++ [⟨(pick (kindAt kd k) 3 + 1 : Nat), Wl, Bl⟩], at2, h88, rfl, rfl, hs.to _ (by kernel_rfl), hA, hZ22, by omega, by simp; omega, hat2, (mk_snoc hMk (by rw [hkl]; exact ⟨rfl, by show Wl.length = _; omega, hWs, by show Bl.length = _; omega, hBs⟩)), (hN.snoc ⟨rfl, ⟨_, _, vW, rfl, hc66, hA69, hV⟩, ⟨_, _, tB, rfl, hc77, hA80, hTB⟩⟩), hg91⟩, ka.to [(10, .pointer (some ⟨b1, 0, none⟩)), (11, .pointer (some ⟨b5, 0, none⟩)), (12, .slice (some ⟨b15, 0, none⟩) 2 2), (14, .pointer (some ⟨b27, 0, none⟩)), (15, .int .i64 ((k + 1) + 1 : Nat)), (4, .int .i64 (kindAt kd (k + 1)))] (by kernel_rfl)⟩
        omega
      ·
        have phb58 := of_decide_eq_true hb58
        refine LG.val 59 (.bool true) w55 (by kernel_rfl) (by kernel_rfl) (rb (by kernel_rfl) hb58) ?_
        refine LG.next (by kernel_rfl) ?_
        refine CG.condT (by kernel_rfl) (by kernel_rfl) ?_
        refine CG.skipN ?_
        refine CG.seq ?_
        refine CG.block ?_
        refine CG.seq ?_
        refine CG.listed ?_
        refine LG.val 18 (.slice none 0 0) w55 (by kernel_rfl) (by kernel_rfl) (by kernel_rfl) ?_
        refine LG.next (by kernel_rfl) ?_
        refine CG.to [(10, .pointer (some ⟨b1, 0, none⟩)), (11, .pointer (some ⟨b5, 0, none⟩)), (12, .slice (some ⟨b15, 0, none⟩) 2 2), (14, .pointer (some ⟨b27, 0, none⟩)), (15, .int .i64 (k + 1 : Nat)), (4, .int .i64 ((kindAt kd k).tdiv 3)), (16, .pointer (some ⟨b50, 0, none⟩)), (17, .int .i64 (j : Nat)), (18, .slice none 0 0)] (by kernel_rfl) ?_
        refine CG.seq ?_
        refine CG.seq ?_
        refine CG.listed ?_
        refine LG.val 19 (.int .i64 0) w55 (by kernel_rfl) (by kernel_rfl) (by kernel_rfl) ?_
        refine LG.next (by kernel_rfl) ?_
        refine CG.block ?_
        refine CG.to [(10, .pointer (some ⟨b1, 0, none⟩)), (11, .pointer (some ⟨b5, 0, none⟩)), (12, .slice (some ⟨b15, 0, none⟩) 2 2), (14, .pointer (some ⟨b27, 0, none⟩)), (15, .int .i64 (k + 1 : Nat)), (4, .int .i64 ((kindAt kd k).tdiv 3)), (16, .pointer (some ⟨b50, 0, none⟩)), (17, .int .i64 (j : Nat)), (19, .int .i64 0), (18, .slice none 0 0)] (by kernel_rfl) ?_
        refine CG.loop (fun μ_ Γ w_ => ∃ (c : Nat) (sr : Value) (tr : List RT) (qr : List Rat) (at3 : Nat) (h_ : Hp), μ_ = S20.getD k 0 - c ∧ Γ = [(10, .pointer (some ⟨b1, 0, none⟩)), (11, .pointer (some ⟨b5, 0, none⟩)), (12, .slice (some ⟨b15, 0, none⟩) 2 2), (14, .pointer (some ⟨b27, 0, none⟩)), (15, .int .i64 (k + 1 : Nat)), (4, .int .i64 ((kindAt kd k).tdiv 3)), (16, .pointer (some ⟨b50, 0, none⟩)), (17, .int .i64 (j : Nat)), (19, .int .i64 (c : Nat)), (18, sr)] ∧ St w h w_ h_ [⟨b50, 95, [.int .i64 (pick (kindAt kd k) 3 + 1 : Nat), sW, sB]⟩, ⟨b27, 29, [s]⟩, ⟨b5, 99, [.slice A zs.length cap, .int .i64 (at3 : Nat)]⟩, ⟨b1, 29, [.slice none 0 0]⟩] ∧ (SlO 1 i64c 0 h_ A zs) ∧ (SlO 1 natc 0 h_ (some ⟨b15, 0, none⟩) S20) ∧ (RNetL h_ us ls) ∧ (RVs h_ vW Wl) ∧ (RTs h_ tB Bl) ∧ (Gro h [b50, b27, b5, b1] w_ h_ 95 3 s ((us).length) ((us).flatMap lvc)) ∧ (Gro h [b50, b27, b5, b1] w_ h_ 34 1 sW ((vW).length) ((vW).flatMap vc)) ∧ (Gro h [b50, b27, b5, b1] w_ h_ 105 3 sB ((tB).length) ((tB).flatMap rqc)) ∧ (c ≤ S20.getD k 0) ∧ (qr.length = c) ∧ (at3 ≤ zs.length) ∧ (Smalls qr) ∧ (RTs h_ tr qr) ∧ (Gro h [b50, b27, b5, b1] w_ h_ 105 3 sr ((tr).length) ((tr).flatMap rqc)) ∧ (Apart sr sW) ∧ (Apart sr sB) ∧ (Apart sr s)) _ ⟨0, (.slice none 0 0), [], [], at2, h56, rfl, rfl, hs.to _ (by kernel_rfl), hA, hZ22, hN, hV, hTB, hg, hgW, hgB, Nat.zero_le _, rfl, hat2, fun r hr => by simp at hr, RTs.nil, Gro.nil, Apart.nil, Apart.nil, Apart.nil⟩ ?_
        rintro _ _ w96 ⟨c, sr, tr, qr, at3, h97, hm98, rfl, hs, hA, hZ22, hN, hV, hTB, hg, hgW, hgB, hc, hqr, hat3, hQs, hTr, hgr, hap4, hap5, hap6⟩
        have hltr := hTr.len
        -- round
        refine CG.seq ?_
        refine CG.seq ?_
        refine CG.listed ?_
        refine LG.val 62 (.int .i64 (c : Nat)) w96 (by kernel_rfl) (by kernel_rfl) (by kernel_rfl) ?_
        refine LG.val 63 (.slice (some ⟨b15, 0, none⟩) 2 2) w96 (by kernel_rfl) (by kernel_rfl) (by kernel_rfl) ?_
        refine LG.val 64 (.int .i64 (k + 1 : Nat)) w96 (by kernel_rfl) (by kernel_rfl) (by kernel_rfl) ?_
        refine LG.val 65 (.int .i64 (k : Nat)) w96 (by kernel_rfl) (by kernel_rfl) (rint (ri64 (n := ((k + 1 : Nat) : Int) - 1) (by kernel_rfl) (by omega) (by omega)) (by omega)) ?_
        refine LG.val 66 (.pointer (some ⟨(aB (some ⟨b15, 0, none⟩)), aO (some ⟨b15, 0, none⟩) + k * 1, none⟩)) w96 (by kernel_rfl) (by kernel_rfl) (ixAddr (t := 22) (e := 3) (x := .tmp 63) (ix := .tmp 65) (A := some ⟨b15, 0, none⟩) (len := 2) (cap := 2) (sz := 1) (i := (k : Nat)) k (by kernel_rfl) (by kernel_rfl) (by kernel_rfl) (by kernel_rfl) (by kernel_rfl) (hZ22.ok (by omega)) (by omega) (by omega) _) ?_
        refine LG.val 67 (.int .i64 (S20.getD k 0 : Nat)) w96 (by kernel_rfl) (by kernel_rfl) (Seg.run (hZ22.el k (by omega)) hs.g (Ext.refl _) (by kernel_rfl)) ?_
        cases hb99 : (decide (((c : Nat) : Int) < ((S20.getD k 0 : Nat) : Int)))
        ·
          have phb99 := of_decide_eq_false hb99
          refine LG.val 68 (.bool false) w96 (by kernel_rfl) (by kernel_rfl) (rb (by kernel_rfl) hb99) ?_
          refine LG.next (by kernel_rfl) ?_
          refine CG.to [(10, .pointer (some ⟨b1, 0, none⟩)), (11, .pointer (some ⟨b5, 0, none⟩)), (12, .slice (some ⟨b15, 0, none⟩) 2 2), (14, .pointer (some ⟨b27, 0, none⟩)), (15, .int .i64 (k + 1 : Nat)), (4, .int .i64 ((kindAt kd k).tdiv 3)), (16, .pointer (some ⟨b50, 0, none⟩)), (17, .int .i64 (j : Nat)), (19, .int .i64 (c : Nat)), (18, sr), (68, .bool false)] (by kernel_rfl) ?_
          refine CG.condF (by kernel_rfl) (by kernel_rfl) ?_
          refine CG.exit ?_
          show CG _ _ _ _ _ _ _ _
          refine CG.seq ?_
          refine CG.listed ?_
          refine LG.val 77 (.pointer (some ⟨b50, 1, none⟩)) w96 (by kernel_rfl) (by kernel_rfl) (by kernel_rfl) ?_
          refine LG.own 78 [(0, 1, 1)] (sW) hs (by kernel_rfl) (by kernel_rfl) (by kernel_rfl) (by kernel_rfl) ?_
          obtain ⟨a100, n101, c102, rfl⟩ := hgr.sl
          obtain ⟨hq103, hs, pw104, po105, hm106, hc107, hz108, sg109⟩ := Gro.pub3 hs hgr
          subst hm106
          replace hA := hA.gw pw104
          replace hZ22 := hZ22.gw pw104
          replace hN := hN.gw pw104
          replace hV := hV.gw pw104
          replace hTB := hTB.gw pw104
          replace hTr := hTr.gw pw104
          replace hg := hg.pubo po105 ((hap6).symm)
          replace hgW := hgW.pubo po105 ((hap4).symm)
          replace hgB := hgB.pubo po105 ((hap5).symm)
          have hA110 : SlO 3 rqc rqd hq103 a100 (tr) := SlO.of_pub (fun _ => rfl) hz108 sg109
          refine LG.val 79 (.slice a100 ((tr).length) c102) w96 (by kernel_rfl) (by kernel_rfl) (by kernel_rfl) ?_
          refine LG.row 80 34 1 ([.slice a100 ((tr).length) c102]) hs.g (by kernel_rfl) (by kernel_rfl) (by kernel_rfl) (fun b111 w112 h113 u114 hS115 => ?_)
          replace hs := hs.step u114
          replace hg := hg.up u114
          replace hgW := hgW.up u114
          replace hgB := hgB.up u114
          replace hA := hA.gw u114.gr.gw
          replace hZ22 := hZ22.gw u114.gr.gw
          replace hN := hN.gw u114.gr.gw
          replace hV := hV.gw u114.gr.gw
          replace hTB := hTB.gw u114.gr.gw
          replace hTr := hTr.gw u114.gr.gw
          replace hA110 := hA110.gw u114.gr.gw
          refine LG.app 81 (x := .tmp 78) (y := .tmp 80) (ty := 93) (e := 34) (z := .slice none 0 0) (sz := 1) (bt := 24) (m := ((vW).length)) (m2 := 1) (c := 1) (b := b111) (v := sW) (cs := (vW).flatMap vc) (news := [.slice a100 ((tr).length) c102]) hs g hgW hS115 (by kernel_rfl) (by kernel_rfl) (by kernel_rfl) (by kernel_rfl) (by kernel_rfl) (by kernel_rfl) (by kernel_rfl) (by kernel_rfl) (by decide) (by kernel_rfl) (by kernel_rfl) (by omega) (by omega) (fun s116 w117 h118 gr119 gg120 hl_ hs hg121 => ?_)
          obtain ⟨s116A, s116n, s116c, rfl⟩ := hg121.sl
          replace hA := hA.gw gr119.gw
          replace hZ22 := hZ22.gw gr119.gw
          replace hN := hN.gw gr119.gw
          replace hV := hV.gw gr119.gw
          replace hTB := hTB.gw gr119.gw
          replace hTr := hTr.gw gr119.gw
          replace hA110 := hA110.gw gr119.gw
          replace hS115 := hS115.gw gr119.gw
          have ap125 := Apart.grown (w := w112) hap2 hl_ (fun b hb => own_lt hg.own hb)
          replace hg := hg.app gg120 gr119 (hap2).symm
          have ap126 := Apart.grown (w := w112) hap1 hl_ (fun b hb => own_lt hgB.own hb)
          replace hgB := hgB.app gg120 gr119 (hap1).symm
          replace hg121 := Gro.snoc (l := vW) (f := vc) (x := (.slice a100 ((tr).length) c102 : Value)) hg121 (by kernel_rfl)
          refine LG.val 82 (.pointer (some ⟨b50, 1, none⟩)) w117 (by kernel_rfl) (by kernel_rfl) (by kernel_rfl) ?_
          refine LG.put 0 1 ([(.slice s116A s116n s116c)]) hs g (by kernel_rfl) (by kernel_rfl) (by kernel_rfl) (by kernel_rfl) (fun w127 pu hs => ?_)
          replace hg := hg.put pu (by simp [bxAt])
          replace hgB := hgB.put pu (by simp [bxAt])
          replace hg121 := hg121.put pu (by simp [bxAt])
          replace hs := hs.to [⟨b50, 95, [.int .i64 (pick (kindAt kd k) 3 + 1 : Nat), (.slice s116A s116n s116c), sB]⟩, ⟨b27, 29, [s]⟩, ⟨b5, 99, [.slice A zs.length cap, .int .i64 (at3 : Nat)]⟩, ⟨b1, 29, [.slice none 0 0]⟩] (by kernel_rfl)
          refine LG.next (by kernel_rfl) ?_
          refine CG.to [(10, .pointer (some ⟨b1, 0, none⟩)), (11, .pointer (some ⟨b5, 0, none⟩)), (12, .slice (some ⟨b15, 0, none⟩) 2 2), (14, .pointer (some ⟨b27, 0, none⟩)), (15, .int .i64 (k + 1 : Nat)), (4, .int .i64 ((kindAt kd k).tdiv 3)), (16, .pointer (some ⟨b50, 0, none⟩)), (17, .int .i64 (j : Nat))] (by kernel_rfl) ?_
          have hsr := hs
          have hg_r := hg
          have hgB_r := hgB
          have hg121_r := hg121
          refine CG.region (b5 :: sB.ownBlock.toList) 7 [] mixed (by kernel_rfl) hs.g al_nil (fun b hb => by
            rcases List.mem_cons.1 hb with e | e
            · rw [e]; exact lt_of_some (hs.jk _ (bxAt_mem (j := 2) (Nat.le_of_ble_eq_true (by kernel_rfl))))
            · exact hgB.lt (Option.mem_toList.1 e)) ?_
          refine Rg.pure 0 83 (.pointer (some ⟨b50, 2, none⟩)) (by kernel_rfl) (by kernel_rfl) (fun _ => by kernel_rfl) ?_
          refine Rg.own 1 84 [(0, 2, 1)] (sB) hs (by kernel_rfl) (by kernel_rfl) (fun p hp => by rw [List.mem_singleton] at hp; rw [hp]; exact notM_both hs hgB (i := 2) (by kernel_rfl) (by kernel_rfl) (by kernel_rfl)) (by kernel_rfl) (by kernel_rfl) ?_
          refine Rg.pure 2 85 (.pointer (some ⟨b5, 0, none⟩)) (by kernel_rfl) (by kernel_rfl) (fun _ => by kernel_rfl) ?_
          refine Rg.call 3 86 46 #[.pointer (some ⟨b5, 0, none⟩)] (by kernel_rfl) (by kernel_rfl) (fun _ => by kernel_rfl) (fun w131 h132 u133 => ?_)
          replace hs := hs.step u133
          replace hg := hg.up u133
          replace hgB := hgB.up u133
          replace hg121 := hg121.up u133
          replace hA := hA.gw u133.gr.gw
          replace hZ22 := hZ22.gw u133.gr.gw
          replace hN := hN.gw u133.gr.gw
          replace hV := hV.gw u133.gr.gw
          replace hTB := hTB.gw u133.gr.gw
          replace hTr := hTr.gw u133.gr.gw
          replace hA110 := hA110.gw u133.gr.gw
          replace hS115 := hS115.gw u133.gr.gw
          refine (rNext A cap zs hl hz b5 at3 (by omega) w131 h132 hs.g (hs.own _ (bxAt_mem (j := 2) (Nat.le_of_ble_eq_true (by kernel_rfl)))) (hs.jk _ (bxAt_mem (j := 2) (Nat.le_of_ble_eq_true (by kernel_rfl)))) hA).mono ?_
          rintro _ w128 ⟨vu130, h129, rfl, u130, ⟨z1, atn1, rfl, hatn1, hzn1, hOn1⟩⟩
          refine ⟨_, h129, rfl, u130.weak (fun b hb => by rw [List.mem_singleton] at hb; rw [hb]; exact List.mem_cons_self), ?_⟩
          replace hs := (hs.stepM g (j := 2) (Nat.le_of_ble_eq_true (by kernel_rfl)) u130 hOn1).to [⟨b50, 95, [.int .i64 (pick (kindAt kd k) 3 + 1 : Nat), (.slice s116A s116n s116c), sB]⟩, ⟨b27, 29, [s]⟩, ⟨b5, 99, [.slice A zs.length cap, .int .i64 (atn1 : Nat)]⟩, ⟨b1, 29, [.slice none 0 0]⟩] (by kernel_rfl)
          replace hg := hg.upM u130 (by simp)
          replace hgB := hgB.upM u130 (by simp)
          replace hg121 := hg121.upM u130 (by simp)
          replace hA := hA.gw u130.gr.gw
          replace hZ22 := hZ22.gw u130.gr.gw
          replace hN := hN.gw u130.gr.gw
          replace hV := hV.gw u130.gr.gw
          replace hTB := hTB.gw u130.gr.gw
          replace hTr := hTr.gw u130.gr.gw
          replace hA110 := hA110.gw u130.gr.gw
          replace hS115 := hS115.gw u130.gr.gw
          refine Rg.call 4 87 45 #[.int .i64 z1] (by kernel_rfl) (by kernel_rfl) (fun _ => by kernel_rfl) (fun w145 h146 u147 => ?_)
          replace hs := hs.step u147
          replace hg := hg.up u147
          replace hgB := hgB.up u147
          replace hg121 := hg121.up u147
          replace hA := hA.gw u147.gr.gw
          replace hZ22 := hZ22.gw u147.gr.gw
          replace hN := hN.gw u147.gr.gw
          replace hV := hV.gw u147.gr.gw
          replace hTB := hTB.gw u147.gr.gw
          replace hTr := hTr.gw u147.gr.gw
          replace hA110 := hA110.gw u147.gr.gw
          replace hS115 := hS115.gw u147.gr.gw
          refine (mSmall z1 hzn1.1 hzn1.2 w145 h146 hs.g).mono ?_
          rintro _ w142 ⟨vu144, h143, rfl, u144, ⟨A134, c135, A138, c139, rfl, hc136, hc140, hA137, hA141⟩⟩
          refine ⟨_, h143, rfl, u144.m _, ?_⟩
          replace hs := hs.step u144
          replace hg := hg.up u144
          replace hgB := hgB.up u144
          replace hg121 := hg121.up u144
          replace hA := hA.gw u144.gr.gw
          replace hZ22 := hZ22.gw u144.gr.gw
          replace hN := hN.gw u144.gr.gw
          replace hV := hV.gw u144.gr.gw
          replace hTB := hTB.gw u144.gr.gw
          replace hTr := hTr.gw u144.gr.gw
          replace hA110 := hA110.gw u144.gr.gw
          replace hS115 := hS115.gw u144.gr.gw
          refine Rg.row 5 88 105 1 ([.bool (ineg (smallq z1).num), .slice A134 ((lim (iabs (smallq z1).num)).length) c135, .slice A138 ((lim (smallq z1).den).length) c139]) (by kernel_rfl) (by kernel_rfl) (fun _ => by kernel_rfl) (fun b148 w149 h150 u151 hS152 => ?_)
          replace hs := hs.step u151
          replace hg := hg.up u151
          replace hgB := hgB.up u151
          replace hg121 := hg121.up u151
          replace hA := hA.gw u151.gr.gw
          replace hZ22 := hZ22.gw u151.gr.gw
          replace hN := hN.gw u151.gr.gw
          replace hV := hV.gw u151.gr.gw
          replace hTB := hTB.gw u151.gr.gw
          replace hTr := hTr.gw u151.gr.gw
          replace hA110 := hA110.gw u151.gr.gw
          replace hS115 := hS115.gw u151.gr.gw
          replace hA137 := hA137.gw u151.gr.gw
          replace hA141 := hA141.gw u151.gr.gw
          refine Rg.app 6 89 (x := .tmp 84) (y := .tmp 88) (ty := 34) (e := 105) (z := .agg #[.bool false, .slice none 0 0, .slice none 0 0]) (sz := 3) (bt := 56) (m := ((tB).length)) (m2 := 1) (c := 1) (b := b148) (v := sB) (cs := (tB).flatMap rqc) (news := [.bool (ineg (smallq z1).num), .slice A134 ((lim (iabs (smallq z1).num)).length) c135, .slice A138 ((lim (smallq z1).den).length) c139]) hs g hgB hS152 (fun b hb => by simp [hb]) (by kernel_rfl) (by kernel_rfl) (by kernel_rfl) (by kernel_rfl) (by kernel_rfl) (by kernel_rfl) (by kernel_rfl) (by kernel_rfl) (by decide) (by kernel_rfl) (by kernel_rfl) (by omega) (by omega) (fun w159 h160 u161 s153 w154 h155 gr156 gg157 hl_ hs hg158 => ?_)
          have gr_ := u161.gr.trans gr156
          replace hg := hg.up u161
          replace hg121 := hg121.up u161
          obtain ⟨s153A, s153n, s153c, rfl⟩ := hg158.sl
          replace hA := hA.gw gr_.gw
          replace hZ22 := hZ22.gw gr_.gw
          replace hN := hN.gw gr_.gw
          replace hV := hV.gw gr_.gw
          replace hTB := hTB.gw gr_.gw
          replace hTr := hTr.gw gr_.gw
          replace hA110 := hA110.gw gr_.gw
          replace hS115 := hS115.gw gr_.gw
          replace hA137 := hA137.gw gr_.gw
          replace hA141 := hA141.gw gr_.gw
          replace hS152 := hS152.gw gr_.gw
          have ap162 := Apart.grown (w := w159) hap3 hl_ (fun b hb => own_lt hg.own hb)
          replace hg := hg.app gg157 gr156 (hap3).symm
          have ap163 := Apart.grown (w := w159) (ap126).symm hl_ (fun b hb => own_lt hg121.own hb)
          replace hg121 := hg121.app gg157 gr156 ap126
          replace hg158 := Gro.snoc (l := tB) (f := rqc) (x := ((ineg (smallq z1).num, .slice A134 ((lim (iabs (smallq z1).num)).length) c135, .slice A138 ((lim (smallq z1).den).length) c139) : RT)) hg158 (by kernel_rfl)
          refine Rg.fin0 (by kernel_rfl) (fun w164 h165 u166 => ?_)
          replace hs := hs.step u166
          replace hg := hg.up u166
          replace hg121 := hg121.up u166
          replace hg158 := hg158.up u166
          replace hA := hA.gw u166.gr.gw
          replace hZ22 := hZ22.gw u166.gr.gw
          replace hN := hN.gw u166.gr.gw
          replace hV := hV.gw u166.gr.gw
          replace hTB := hTB.gw u166.gr.gw
          replace hTr := hTr.gw u166.gr.gw
          replace hA110 := hA110.gw u166.gr.gw
          replace hS115 := hS115.gw u166.gr.gw
          replace hA137 := hA137.gw u166.gr.gw
          replace hA141 := hA141.gw u166.gr.gw
          replace hS152 := hS152.gw u166.gr.gw
          refine T.val 7 90 (.pointer (some ⟨b50, 2, none⟩)) w164 (by kernel_rfl) (by kernel_rfl) (by kernel_rfl) ?_
          refine T.put 8 0 2 ([(.slice s153A s153n s153c)]) hs g (by kernel_rfl) (by kernel_rfl) (by kernel_rfl) (by kernel_rfl) (fun w167 pu hs => ?_)
          replace hg := hg.put pu (by simp [bxAt])
          replace hg121 := hg121.put pu (by simp [bxAt])
          replace hg158 := hg158.put pu (by simp [bxAt])
          replace hs := hs.to [⟨b50, 95, [.int .i64 (pick (kindAt kd k) 3 + 1 : Nat), (.slice s116A s116n s116c), (.slice s153A s153n s153c)]⟩, ⟨b27, 29, [s]⟩, ⟨b5, 99, [.slice A zs.length cap, .int .i64 (atn1 : Nat)]⟩, ⟨b1, 29, [.slice none 0 0]⟩] (by kernel_rfl)
          refine T.next (by kernel_rfl) ?_
          refine CG.to [(10, .pointer (some ⟨b1, 0, none⟩)), (11, .pointer (some ⟨b5, 0, none⟩)), (12, .slice (some ⟨b15, 0, none⟩) 2 2), (14, .pointer (some ⟨b27, 0, none⟩)), (15, .int .i64 (k + 1 : Nat)), (4, .int .i64 ((kindAt kd k).tdiv 3)), (16, .pointer (some ⟨b50, 0, none⟩)), (17, .int .i64 (j : Nat))] (by kernel_rfl) ?_
          refine CG.listed ?_
          refine LG.val 60 (.int .i64 (j : Nat)) w167 (by kernel_rfl) (by kernel_rfl) (by kernel_rfl) ?_
          refine LG.val 61 (.int .i64 (j + 1 : Nat)) w167 (by kernel_rfl) (by kernel_rfl) (rint (ri64 (n := (j : Nat) + 1) (by kernel_rfl) (by omega) (by omega)) (by omega)) ?_
          refine LG.val 17 (.int .i64 (j + 1 : Nat)) w167 (by kernel_rfl) (by kernel_rfl) (by kernel_rfl) ?_
          refine LG.done (by kernel_rfl) ?_
          intro a_ ka
          refine ⟨_, _, ?_, ⟨j + 1, (.slice s116A s116n s116c), Wl ++ [qr], vW ++ [(.slice a100 ((tr).length) c102 : Value)], (.slice s153A s153n s153c), Bl ++ [smallq z1], tB ++ [((ineg (smallq z1).num, .slice A134 ((lim (iabs (smallq z1).num)).length) c135, .slice A138 ((lim (smallq z1).den).length) c139) : RT)], atn1, h165, rfl, rfl, hs.to _ (by kernel_rfl), hA, hZ22, hN, hg, by omega, by simp; omega, by simp; omega, hatn1, (rows_snoc hWs (by omega) hQs), (Smalls.snoc hBs _), (RVs.snoc hV ⟨_, _, tr, rfl, hc107, hA110, hTr⟩), (RTs.snoc hTB ⟨_, _, _, _, rfl, hc136, hc140, hA137, hA141⟩), hg121, hg158, (ap163).symm, ap125, ap162⟩, ka.to [(10, .pointer (some ⟨b1, 0, none⟩)), (11, .pointer (some ⟨b5, 0, none⟩)), (12, .slice (some ⟨b15, 0, none⟩) 2 2), (14, .pointer (some ⟨b27, 0, none⟩)), (15, .int .i64 (k + 1 : Nat)), (4, .int .i64 ((kindAt kd k).tdiv 3)), (16, .pointer (some ⟨b50, 0, none⟩)), (17, .int .i64 ((j + 1) : Nat))] (by kernel_rfl)⟩
          omega
        ·
          have phb99 := of_decide_eq_true hb99
          refine LG.val 68 (.bool true) w96 (by kernel_rfl) (by kernel_rfl) (rb (by kernel_rfl) hb99) ?_
          refine LG.next (by kernel_rfl) ?_
          refine CG.to [(10, .pointer (some ⟨b1, 0, none⟩)), (11, .pointer (some ⟨b5, 0, none⟩)), (12, .slice (some ⟨b15, 0, none⟩) 2 2), (14, .pointer (some ⟨b27, 0, none⟩)), (15, .int .i64 (k + 1 : Nat)), (4, .int .i64 ((kindAt kd k).tdiv 3)), (16, .pointer (some ⟨b50, 0, none⟩)), (17, .int .i64 (j : Nat)), (19, .int .i64 (c : Nat)), (18, sr), (68, .bool true)] (by kernel_rfl) ?_
          refine CG.condT (by kernel_rfl) (by kernel_rfl) ?_
          refine CG.skipN ?_
          refine CG.seq ?_
          refine CG.block ?_
          refine CG.listed ?_
          refine LG.val 71 (sr) w96 (by kernel_rfl) (by kernel_rfl) (by kernel_rfl) ?_
          refine LG.val 72 (.pointer (some ⟨b5, 0, none⟩)) w96 (by kernel_rfl) (by kernel_rfl) (by kernel_rfl) ?_
          refine LG.call 73 46 #[.pointer (some ⟨b5, 0, none⟩)] (by kernel_rfl) (by kernel_rfl) (by kernel_rfl) ?_
          refine (rNext A cap zs hl hz b5 at3 (by omega) w96 h97 hs.g (hs.own _ (bxAt_mem (j := 2) (Nat.le_of_ble_eq_true (by kernel_rfl)))) (hs.jk _ (bxAt_mem (j := 2) (Nat.le_of_ble_eq_true (by kernel_rfl)))) hA).mono ?_
          rintro _ w168 ⟨vu170, h169, rfl, u170, ⟨z2, atn2, rfl, hatn2, hzn2, hOn2⟩⟩
          refine ⟨_, rfl, ?_⟩
          replace hs := (hs.stepM g (j := 2) (Nat.le_of_ble_eq_true (by kernel_rfl)) u170 hOn2).to [⟨b50, 95, [.int .i64 (pick (kindAt kd k) 3 + 1 : Nat), sW, sB]⟩, ⟨b27, 29, [s]⟩, ⟨b5, 99, [.slice A zs.length cap, .int .i64 (atn2 : Nat)]⟩, ⟨b1, 29, [.slice none 0 0]⟩] (by kernel_rfl)
          replace hg := hg.upM u170 (by simp)
          replace hgW := hgW.upM u170 (by simp)
          replace hgB := hgB.upM u170 (by simp)
          replace hgr := hgr.upM u170 (by simp)
          replace hA := hA.gw u170.gr.gw
          replace hZ22 := hZ22.gw u170.gr.gw
          replace hN := hN.gw u170.gr.gw
          replace hV := hV.gw u170.gr.gw
          replace hTB := hTB.gw u170.gr.gw
          replace hTr := hTr.gw u170.gr.gw
          refine LG.call 74 45 #[.int .i64 z2] (by kernel_rfl) (by kernel_rfl) (by kernel_rfl) ?_
          refine (mSmall z2 hzn2.1 hzn2.2 w168 h169 hs.g).mono ?_
          rintro _ w179 ⟨vu181, h180, rfl, u181, ⟨A171, c172, A175, c176, rfl, hc173, hc177, hA174, hA178⟩⟩
          refine ⟨_, rfl, ?_⟩
          replace hs := hs.step u181
          replace hg := hg.up u181
          replace hgW := hgW.up u181
          replace hgB := hgB.up u181
          replace hgr := hgr.up u181
          replace hA := hA.gw u181.gr.gw
          replace hZ22 := hZ22.gw u181.gr.gw
          replace hN := hN.gw u181.gr.gw
          replace hV := hV.gw u181.gr.gw
          replace hTB := hTB.gw u181.gr.gw
          replace hTr := hTr.gw u181.gr.gw
          refine LG.row 75 105 1 ([.bool (ineg (smallq z2).num), .slice A171 ((lim (iabs (smallq z2).num)).length) c172, .slice A175 ((lim (smallq z2).den).length) c176]) hs.g (by kernel_rfl) (by kernel_rfl) (by kernel_rfl) (fun b182 w183 h184 u185 hS186 => ?_)
          replace hs := hs.step u185
          replace hg := hg.up u185
          replace hgW := hgW.up u185
          replace hgB := hgB.up u185
          replace hgr := hgr.up u185
          replace hA := hA.gw u185.gr.gw
          replace hZ22 := hZ22.gw u185.gr.gw
          replace hN := hN.gw u185.gr.gw
          replace hV := hV.gw u185.gr.gw
          replace hTB := hTB.gw u185.gr.gw
          replace hTr := hTr.gw u185.gr.gw
          replace hA174 := hA174.gw u185.gr.gw
          replace hA178 := hA178.gw u185.gr.gw
          refine LG.app 76 (x := .tmp 71) (y := .tmp 75) (ty := 34) (e := 105) (z := .agg #[.bool false, .slice none 0 0, .slice none 0 0]) (sz := 3) (bt := 56) (m := ((tr).length)) (m2 := 1) (c := 1) (b := b182) (v := sr) (cs := (tr).flatMap rqc) (news := [.bool (ineg (smallq z2).num), .slice A171 ((lim (iabs (smallq z2).num)).length) c172, .slice A175 ((lim (smallq z2).den).length) c176]) hs g hgr hS186 (by kernel_rfl) (by kernel_rfl) (by kernel_rfl) (by kernel_rfl) (by kernel_rfl) (by kernel_rfl) (by kernel_rfl) (by kernel_rfl) (by decide) (by kernel_rfl) (by kernel_rfl) (by omega) (by omega) (fun s187 w188 h189 gr190 gg191 hl_ hs hg192 => ?_)
          obtain ⟨s187A, s187n, s187c, rfl⟩ := hg192.sl
          replace hA := hA.gw gr190.gw
          replace hZ22 := hZ22.gw gr190.gw
          replace hN := hN.gw gr190.gw
          replace hV := hV.gw gr190.gw
          replace hTB := hTB.gw gr190.gw
          replace hTr := hTr.gw gr190.gw
          replace hA174 := hA174.gw gr190.gw
          replace hA178 := hA178.gw gr190.gw
          replace hS186 := hS186.gw gr190.gw
          have ap196 := Apart.grown (w := w183) hap6 hl_ (fun b hb => own_lt hg.own hb)
          replace hg := hg.app gg191 gr190 (hap6).symm
          have ap197 := Apart.grown (w := w183) hap4 hl_ (fun b hb => own_lt hgW.own hb)
          replace hgW := hgW.app gg191 gr190 (hap4).symm
          have ap198 := Apart.grown (w := w183) hap5 hl_ (fun b hb => own_lt hgB.own hb)
          replace hgB := hgB.app gg191 gr190 (hap5).symm
          replace hg192 := Gro.snoc (l := tr) (f := rqc) (x := ((ineg (smallq z2).num, .slice A171 ((lim (iabs (smallq z2).num)).length) c172, .slice A175 ((lim (smallq z2).den).length) c176) : RT)) hg192 (by kernel_rfl)
          refine LG.val 18 ((.slice s187A s187n s187c)) w188 (by kernel_rfl) (by kernel_rfl) (by kernel_rfl) ?_
          refine LG.next (by kernel_rfl) ?_
          refine CG.to [(10, .pointer (some ⟨b1, 0, none⟩)), (11, .pointer (some ⟨b5, 0, none⟩)), (12, .slice (some ⟨b15, 0, none⟩) 2 2), (14, .pointer (some ⟨b27, 0, none⟩)), (15, .int .i64 (k + 1 : Nat)), (4, .int .i64 ((kindAt kd k).tdiv 3)), (16, .pointer (some ⟨b50, 0, none⟩)), (17, .int .i64 (j : Nat)), (19, .int .i64 (c : Nat)), (18, (.slice s187A s187n s187c))] (by kernel_rfl) ?_
          refine CG.listed ?_
          refine LG.val 69 (.int .i64 (c : Nat)) w188 (by kernel_rfl) (by kernel_rfl) (by kernel_rfl) ?_
          refine LG.val 70 (.int .i64 (c + 1 : Nat)) w188 (by kernel_rfl) (by kernel_rfl) (rint (ri64 (n := (c : Nat) + 1) (by kernel_rfl) (by omega) (by omega)) (by omega)) ?_
          refine LG.val 19 (.int .i64 (c + 1 : Nat)) w188 (by kernel_rfl) (by kernel_rfl) (by kernel_rfl) ?_
          refine LG.done (by kernel_rfl) ?_
          intro a_ ka
          refine ⟨_, _, ?_, ⟨c + 1, (.slice s187A s187n s187c), tr ++ [((ineg (smallq z2).num, .slice A171 ((lim (iabs (smallq z2).num)).length) c172, .slice A175 ((lim (smallq z2).den).length) c176) : RT)], qr ++ [smallq z2], atn2, h189, rfl, rfl, hs.to _ (by kernel_rfl), hA, hZ22, hN, hV, hTB, hg, hgW, hgB, by omega, by simp; omega, hatn2, (Smalls.snoc hQs _), (RTs.snoc hTr ⟨_, _, _, _, rfl, hc173, hc177, hA174, hA178⟩), hg192, ap197, ap198, ap196⟩, ka.to [(10, .pointer (some ⟨b1, 0, none⟩)), (11, .pointer (some ⟨b5, 0, none⟩)), (12, .slice (some ⟨b15, 0, none⟩) 2 2), (14, .pointer (some ⟨b27, 0, none⟩)), (15, .int .i64 (k + 1 : Nat)), (4, .int .i64 ((kindAt kd k).tdiv 3)), (16, .pointer (some ⟨b50, 0, none⟩)), (17, .int .i64 (j : Nat)), (19, .int .i64 ((c + 1) : Nat)), (18, (.slice s187A s187n s187c))] (by kernel_rfl)⟩
          omega
  ·
    have phb26 := of_decide_eq_true hb26
    refine LG.val 33 (.bool true) w23 (by kernel_rfl) (by kernel_rfl) (rb (by kernel_rfl) hb26) ?_
    refine LG.next (by kernel_rfl) ?_
    refine CG.condT (by kernel_rfl) (by kernel_rfl) ?_
    have hsr := hs
    refine CG.region [] 8 [] mixed (by kernel_rfl) hs.g al_nil (fun _ hb => by cases hb) ?_
    refine Rg.pure 0 34 (.slice (some ⟨b15, 0, none⟩) 2 2) (by kernel_rfl) (by kernel_rfl) (fun _ => by kernel_rfl) ?_
    refine Rg.pure 1 35 (.pointer (some ⟨(aB (some ⟨b15, 0, none⟩)), aO (some ⟨b15, 0, none⟩) + 0 * 1, none⟩)) (by kernel_rfl) (by kernel_rfl) (fun _ => ixAddr (t := 22) (e := 3) (x := .tmp 34) (ix := .const (.int .i64 0)) (A := some ⟨b15, 0, none⟩) (len := 2) (cap := 2) (sz := 1) (i := 0) 0 (by kernel_rfl) (by kernel_rfl) (by kernel_rfl) (by kernel_rfl) (by kernel_rfl) (hZ22.ok (by omega)) (by omega) (by omega) _) ?_
    refine Rg.load 2 36 (.int .i64 (S20.getD 0 0 : Nat)) (by kernel_rfl) (by kernel_rfl) (fun _ hx => Seg.run (hZ22.el 0 (by omega)) hs.g hx.ext (by kernel_rfl)) ?_
    refine Rg.pure 3 37 (.int .i64 (pick (m_) 4 : Nat)) (by kernel_rfl) (by kernel_rfl) (fun _ => by kernel_rfl) ?_
    refine Rg.pure 4 38 (.slice (some ⟨b15, 0, none⟩) 2 2) (by kernel_rfl) (by kernel_rfl) (fun _ => by kernel_rfl) ?_
    refine Rg.pure 5 39 (.pointer (some ⟨(aB (some ⟨b15, 0, none⟩)), aO (some ⟨b15, 0, none⟩) + 1 * 1, none⟩)) (by kernel_rfl) (by kernel_rfl) (fun _ => ixAddr (t := 22) (e := 3) (x := .tmp 38) (ix := .const (.int .i64 1)) (A := some ⟨b15, 0, none⟩) (len := 2) (cap := 2) (sz := 1) (i := 1) 1 (by kernel_rfl) (by kernel_rfl) (by kernel_rfl) (by kernel_rfl) (by kernel_rfl) (hZ22.ok (by omega)) (by omega) (by omega) _) ?_
    refine Rg.load 6 40 (.int .i64 (S20.getD 1 0 : Nat)) (by kernel_rfl) (by kernel_rfl) (fun _ hx => Seg.run (hZ22.el 1 (by omega)) hs.g hx.ext (by kernel_rfl)) ?_
    refine Rg.row 7 41 3 3 ([.int .i64 (S20.getD 0 0 : Nat), .int .i64 (pick (m_) 4 : Nat), .int .i64 (S20.getD 1 0 : Nat)]) (by kernel_rfl) (by kernel_rfl) (fun _ => by kernel_rfl) (fun b199 w200 h201 u202 hS203 => ?_)
    replace hs := hs.step u202
    replace hA := hA.gw u202.gr.gw
    replace hZ22 := hZ22.gw u202.gr.gw
    obtain ⟨S204, hSe205⟩ : ∃ S : List Nat, S = [(S20.getD 0 0), (pick (m_) 4), (S20.getD 1 0)] := ⟨_, rfl⟩
    have hZ206 : SlO 1 natc 0 h201 (some ⟨b199, 0, none⟩) S204 := by rw [hSe205]; exact SlO.of_flat (fun _ => rfl) hS203
    have S204_l : S204.length = 3 := by rw [hSe205]; rfl
    refine Rg.fin0 (by kernel_rfl) (fun w207 h208 u209 => ?_)
    replace hs := hs.step u209
    replace hA := hA.gw u209.gr.gw
    replace hZ22 := hZ22.gw u209.gr.gw
    replace hZ206 := hZ206.gw u209.gr.gw
    refine T.val 8 12 (.slice (some ⟨b199, 0, none⟩) 3 3) w207 (by kernel_rfl) (by kernel_rfl) (by kernel_rfl) ?_
    refine T.next (by kernel_rfl) ?_
    refine CG.to [(4, .int .i64 kd), (10, .pointer (some ⟨b1, 0, none⟩)), (11, .pointer (some ⟨b5, 0, none⟩)), (12, .slice (some ⟨b199, 0, none⟩) 3 3)] (by kernel_rfl) ?_
    refine CG.seq ?_
    refine CG.listed ?_
    refine LG.var 14 29 ([.slice none 0 0]) hs (by kernel_rfl) (by kernel_rfl) (by kernel_rfl) (fun b210 w211 h212 nb_ u213 hs => ?_)
    replace hA := hA.gw u213.gr.gw
    replace hZ22 := hZ22.gw u213.gr.gw
    replace hZ206 := hZ206.gw u213.gr.gw
    refine LG.next (by kernel_rfl) ?_
    refine CG.seq ?_
    refine CG.seq ?_
    refine CG.listed ?_
    refine LG.val 15 (.int .i64 1) w211 (by kernel_rfl) (by kernel_rfl) (by kernel_rfl) ?_
    refine LG.next (by kernel_rfl) ?_
    refine CG.block ?_
    refine CG.to [(10, .pointer (some ⟨b1, 0, none⟩)), (11, .pointer (some ⟨b5, 0, none⟩)), (12, .slice (some ⟨b199, 0, none⟩) 3 3), (14, .pointer (some ⟨b210, 0, none⟩)), (15, .int .i64 1), (4, .int .i64 kd)] (by kernel_rfl) ?_
    have hSb : ∀ i, S204.getD i 0 ≤ 4 := by intro i; rw [hSe205, hSe21]; rcases i with _ | _ | _ | i <;> simp <;> omega
    refine CG.loop (fun μ_ Γ w_ => ∃ (k : Nat) (s : Value) (us : List LV) (ls : List Lay) (at1 : Nat) (h_ : Hp), μ_ = S204.length - k ∧ Γ = [(10, .pointer (some ⟨b1, 0, none⟩)), (11, .pointer (some ⟨b5, 0, none⟩)), (12, .slice (some ⟨b199, 0, none⟩) 3 3), (14, .pointer (some ⟨b210, 0, none⟩)), (15, .int .i64 (k + 1 : Nat)), (4, .int .i64 (kindAt kd k))] ∧ St w h w_ h_ [⟨b210, 29, [s]⟩, ⟨b5, 99, [.slice A zs.length cap, .int .i64 (at1 : Nat)]⟩, ⟨b1, 29, [.slice none 0 0]⟩] ∧ (SlO 1 i64c 0 h_ A zs) ∧ (SlO 1 natc 0 h_ (some ⟨b15, 0, none⟩) S20) ∧ (SlO 1 natc 0 h_ (some ⟨b199, 0, none⟩) S204) ∧ (k + 1 ≤ S204.length) ∧ (ls.length = k) ∧ (at1 ≤ zs.length) ∧ (∀ i, i < ls.length → LayMk (ls.getD i lay0) (pick (kindAt kd i) 3 + 1 : Nat) (S204.getD (i + 1) 0) (S204.getD i 0)) ∧ (RNetL h_ us ls) ∧ (Gro h [b210, b5, b1] w_ h_ 95 3 s ((us).length) ((us).flatMap lvc))) _ ⟨0, (.slice none 0 0), [], [], 0, h212, rfl, rfl, hs.to _ (by kernel_rfl), hA, hZ22, hZ206, by omega, rfl, Nat.zero_le _, fun i hi => by simp at hi, RNetL.nil, Gro.nil⟩ ?_
    rintro _ _ w214 ⟨k, s, us, ls, at1, h215, hm216, rfl, hs, hA, hZ22, hZ206, hk, hkl, hat1, hMk, hN, hg⟩
    have hS0 := hSb k
    have hS1 := hSb (k + 1)
    have hlu := hN.len
    obtain ⟨tk0, tk1⟩ := kindAt_bd hkd k
    -- round
    refine CG.seq ?_
    refine CG.seq ?_
    refine CG.listed ?_
    refine LG.val 42 (.int .i64 (k + 1 : Nat)) w214 (by kernel_rfl) (by kernel_rfl) (by kernel_rfl) ?_
    refine LG.val 43 (.slice (some ⟨b199, 0, none⟩) 3 3) w214 (by kernel_rfl) (by kernel_rfl) (by kernel_rfl) ?_
    refine LG.val 44 (.int .i64 3) w214 (by kernel_rfl) (by kernel_rfl) (by kernel_rfl) ?_
    cases hb217 : (decide (((k + 1 : Nat) : Int) < (3 : Int)))
    ·
      have phb217 := of_decide_eq_false hb217
      refine LG.val 45 (.bool false) w214 (by kernel_rfl) (by kernel_rfl) (rb (by kernel_rfl) hb217) ?_
      refine LG.next (by kernel_rfl) ?_
      refine CG.condF (by kernel_rfl) (by kernel_rfl) ?_
      refine CG.exit ?_
      show CG _ _ _ _ _ _ _ _
      refine CG.to [(10, .pointer (some ⟨b1, 0, none⟩)), (14, .pointer (some ⟨b210, 0, none⟩))] (by kernel_rfl) ?_
      refine CG.seq ?_
      refine CG.listed ?_
      obtain ⟨a218, n219, c220, rfl⟩ := hg.sl
      obtain ⟨hq221, hs, pw222, po223, hm224, hc225, hz226, sg227⟩ := Gro.pub3 hs hg
      subst hm224
      replace hA := hA.gw pw222
      replace hZ22 := hZ22.gw pw222
      replace hZ206 := hZ206.gw pw222
      replace hN := hN.gw pw222
      have hA228 : SlO 3 lvc lvd hq221 a218 (us) := SlO.of_pub (fun _ => rfl) hz226 sg227
      refine LG.own 97 [(0, 0, 1)] (.agg #[.slice a218 ((us).length) c220]) hs (by kernel_rfl) (by kernel_rfl) (by kernel_rfl) (by kernel_rfl) ?_
      refine LG.put 2 0 ([.slice a218 ((us).length) c220]) hs g (by kernel_rfl) (by kernel_rfl) (by kernel_rfl) (by kernel_rfl) (fun w229 pu hs => ?_)
      refine LG.next (by kernel_rfl) ?_
      refine CG.ret ?_
      have hSS : netSizes i_ m_ o_ = S204 := by rw [hSe205]; rw [hSe21]; unfold netSizes; rw [if_pos (by omega)]; rfl
      rw [← hSS] at hMk
      exact retP hs [(2, 0, 1)] (.agg #[.slice a218 ((us).length) c220]) (by kernel_rfl) (by kernel_rfl) ⟨_, _, us, ls, rfl, hc225, hA228, hN, by rw [hSS]; omega, hMk⟩
    ·
      have phb217 := of_decide_eq_true hb217
      refine LG.val 45 (.bool true) w214 (by kernel_rfl) (by kernel_rfl) (rb (by kernel_rfl) hb217) ?_
      refine LG.next (by kernel_rfl) ?_
      refine CG.condT (by kernel_rfl) (by kernel_rfl) ?_
      refine CG.skipN ?_
      refine CG.seq ?_
      refine CG.block ?_
      refine CG.seq ?_
      refine CG.listed ?_
      refine LG.val 48 (.int .i64 (kindAt kd k)) w214 (by kernel_rfl) (by kernel_rfl) (by kernel_rfl) ?_
      refine LG.call 49 11 #[.int .i64 (kindAt kd k), .int .i64 3] (by kernel_rfl) (by kernel_rfl) (by kernel_rfl) ?_
      refine (hPick (kindAt kd k) 3 (by omega) (by omega) w214 h215 hs.g).mono ?_
      rintro _ w230 ⟨vu232, h231, rfl, u232, rfl⟩
      refine ⟨_, rfl, ?_⟩
      replace hs := hs.step u232
      replace hg := hg.up u232
      replace hA := hA.gw u232.gr.gw
      replace hZ22 := hZ22.gw u232.gr.gw
      replace hZ206 := hZ206.gw u232.gr.gw
      replace hN := hN.gw u232.gr.gw
      have lp_8 := pick_lt (kindAt kd k) 3 (by omega)
      refine LG.val 50 (.int .i64 ((pick (kindAt kd k) 3) + 1 : Nat)) w230 (by kernel_rfl) (by kernel_rfl) (rint (ri64 (n := (pick (kindAt kd k) 3 : Nat) + 1) (by kernel_rfl) (by omega) (by omega)) (by omega)) ?_
      refine LG.val 51 (.agg #[.int .i64 ((pick (kindAt kd k) 3) + 1 : Nat), .slice none 0 0, .slice none 0 0]) w230 (by kernel_rfl) (by kernel_rfl) (by kernel_rfl) ?_
      refine LG.var 16 95 ([.int .i64 0, .slice none 0 0, .slice none 0 0]) hs (by kernel_rfl) (by kernel_rfl) (by kernel_rfl) (fun b233 w234 h235 nb_ u236 hs => ?_)
      replace hg := (hg.up u236).new b233 (fun c hc e => Nat.lt_irrefl c (Nat.lt_of_lt_of_le (hg.lt hc) (by rw [e]; exact nb_)))
      replace hA := hA.gw u236.gr.gw
      replace hZ22 := hZ22.gw u236.gr.gw
      replace hZ206 := hZ206.gw u236.gr.gw
      replace hN := hN.gw u236.gr.gw
      refine LG.put 0 0 ([.int .i64 ((pick (kindAt kd k) 3) + 1 : Nat), .slice none 0 0, .slice none 0 0]) hs g (by kernel_rfl) (by kernel_rfl) (by kernel_rfl) (by kernel_rfl) (fun w237 pu hs => ?_)
      replace hg := hg.put pu (by simp [bxAt])
      replace hs := hs.to [⟨b233, 95, [.int .i64 ((pick (kindAt kd k) 3) + 1 : Nat), .slice none 0 0, .slice none 0 0]⟩, ⟨b210, 29, [s]⟩, ⟨b5, 99, [.slice A zs.length cap, .int .i64 (at1 : Nat)]⟩, ⟨b1, 29, [.slice none 0 0]⟩] (by kernel_rfl)
      refine LG.next (by kernel_rfl) ?_
      refine CG.to [(10, .pointer (some ⟨b1, 0, none⟩)), (11, .pointer (some ⟨b5, 0, none⟩)), (12, .slice (some ⟨b199, 0, none⟩) 3 3), (14, .pointer (some ⟨b210, 0, none⟩)), (15, .int .i64 (k + 1 : Nat)), (4, .int .i64 (kindAt kd k)), (16, .pointer (some ⟨b233, 0, none⟩))] (by kernel_rfl) ?_
      refine CG.seq ?_
      refine CG.listed ?_
      refine LG.val 52 (.int .i64 (kindAt kd k)) w237 (by kernel_rfl) (by kernel_rfl) (by kernel_rfl) ?_
      refine LG.val 53 (.int .i64 ((kindAt kd k).tdiv 3)) w237 (by kernel_rfl) (by kernel_rfl) (rint (n := IntKind.wrap .i64 ((kindAt kd k).tdiv 3)) (by kernel_rfl) (fitI64 (by omega) (by omega))) ?_
      refine LG.val 4 (.int .i64 ((kindAt kd k).tdiv 3)) w237 (by kernel_rfl) (by kernel_rfl) (by kernel_rfl) ?_
      refine LG.next (by kernel_rfl) ?_
      refine CG.seq ?_
      refine CG.seq ?_
      refine CG.listed ?_
      refine LG.val 17 (.int .i64 0) w237 (by kernel_rfl) (by kernel_rfl) (by kernel_rfl) ?_
      refine LG.next (by kernel_rfl) ?_
      refine CG.block ?_
      refine CG.to [(10, .pointer (some ⟨b1, 0, none⟩)), (11, .pointer (some ⟨b5, 0, none⟩)), (12, .slice (some ⟨b199, 0, none⟩) 3 3), (14, .pointer (some ⟨b210, 0, none⟩)), (15, .int .i64 (k + 1 : Nat)), (4, .int .i64 ((kindAt kd k).tdiv 3)), (16, .pointer (some ⟨b233, 0, none⟩)), (17, .int .i64 0)] (by kernel_rfl) ?_
      refine CG.loop (fun μ_ Γ w_ => ∃ (j : Nat) (sW : Value) (Wl : List (List Rat)) (vW : List Value) (sB : Value) (Bl : List Rat) (tB : List RT) (at2 : Nat) (h_ : Hp), μ_ = S204.getD (k + 1) 0 - j ∧ Γ = [(10, .pointer (some ⟨b1, 0, none⟩)), (11, .pointer (some ⟨b5, 0, none⟩)), (12, .slice (some ⟨b199, 0, none⟩) 3 3), (14, .pointer (some ⟨b210, 0, none⟩)), (15, .int .i64 (k + 1 : Nat)), (4, .int .i64 ((kindAt kd k).tdiv 3)), (16, .pointer (some ⟨b233, 0, none⟩)), (17, .int .i64 (j : Nat))] ∧ St w h w_ h_ [⟨b233, 95, [.int .i64 (pick (kindAt kd k) 3 + 1 : Nat), sW, sB]⟩, ⟨b210, 29, [s]⟩, ⟨b5, 99, [.slice A zs.length cap, .int .i64 (at2 : Nat)]⟩, ⟨b1, 29, [.slice none 0 0]⟩] ∧ (SlO 1 i64c 0 h_ A zs) ∧ (SlO 1 natc 0 h_ (some ⟨b15, 0, none⟩) S20) ∧ (SlO 1 natc 0 h_ (some ⟨b199, 0, none⟩) S204) ∧ (RNetL h_ us ls) ∧ (Gro h [b233, b210, b5, b1] w_ h_ 95 3 s ((us).length) ((us).flatMap lvc)) ∧ (j ≤ S204.getD (k + 1) 0) ∧ (Wl.length = j) ∧ (Bl.length = j) ∧ (at2 ≤ zs.length) ∧ (∀ r ∈ Wl, r.length = S204.getD k 0 ∧ Smalls r) ∧ (Smalls Bl) ∧ (RVs h_ vW Wl) ∧ (RTs h_ tB Bl) ∧ (Gro h [b233, b210, b5, b1] w_ h_ 34 1 sW ((vW).length) ((vW).flatMap vc)) ∧ (Gro h [b233, b210, b5, b1] w_ h_ 105 3 sB ((tB).length) ((tB).flatMap rqc)) ∧ (Apart sW sB) ∧ (Apart sW s) ∧ (Apart sB s)) _ ⟨0, (.slice none 0 0), [], [], (.slice none 0 0), [], [], at1, h235, rfl, rfl, hs.to _ (by kernel_rfl), hA, hZ22, hZ206, hN, hg, Nat.zero_le _, rfl, rfl, hat1, fun r hr => by simp at hr, fun r hr => by simp at hr, RVs.nil, RTs.nil, Gro.nil, Gro.nil, Apart.nil, Apart.nil, Apart.nil⟩ ?_
      rintro _ _ w238 ⟨j, sW, Wl, vW, sB, Bl, tB, at2, h239, hm240, rfl, hs, hA, hZ22, hZ206, hN, hg, hj, hWl, hBl, hat2, hWs, hBs, hV, hTB, hgW, hgB, hap1, hap2, hap3⟩
      have hlv := hV.len
      have hlt := hTB.len
      -- round
      refine CG.seq ?_
      refine CG.seq ?_
      refine CG.listed ?_
      refine LG.val 54 (.int .i64 (j : Nat)) w238 (by kernel_rfl) (by kernel_rfl) (by kernel_rfl) ?_
      refine LG.val 55 (.slice (some ⟨b199, 0, none⟩) 3 3) w238 (by kernel_rfl) (by kernel_rfl) (by kernel_rfl) ?_
      refine LG.val 56 (.int .i64 (k + 1 : Nat)) w238 (by kernel_rfl) (by kernel_rfl) (by kernel_rfl) ?_
      refine LG.val 57 (.pointer (some ⟨(aB (some ⟨b199, 0, none⟩)), aO (some ⟨b199, 0, none⟩) + (k + 1) * 1, none⟩)) w238 (by kernel_rfl) (by kernel_rfl) (ixAddr (t := 22) (e := 3) (x := .tmp 55) (ix := .tmp 56) (A := some ⟨b199, 0, none⟩) (len := 3) (cap := 3) (sz := 1) (i := (k + 1 : Nat)) (k + 1) (by kernel_rfl) (by kernel_rfl) (by kernel_rfl) (by kernel_rfl) (by kernel_rfl) (hZ206.ok (by omega)) (by omega) (by omega) _) ?_
      refine LG.val 58 (.int .i64 (S204.getD (k + 1) 0 : Nat)) w238 (by kernel_rfl) (by kernel_rfl) (Seg.run (hZ206.el (k + 1) (by omega)) hs.g (Ext.refl _) (by kernel_rfl)) ?_
      cases hb241 : (decide (((j : Nat) : Int) < ((S204.getD (k + 1) 0 : Nat) : Int)))
      ·
        have phb241 := of_decide_eq_false hb241
        refine LG.val 59 (.bool false) w238 (by kernel_rfl) (by kernel_rfl) (rb (by kernel_rfl) hb241) ?_
        refine LG.next (by kernel_rfl) ?_
        refine CG.condF (by kernel_rfl) (by kernel_rfl) ?_
        refine CG.exit ?_
        show CG _ _ _ _ _ _ _ _
        refine CG.to [(10, .pointer (some ⟨b1, 0, none⟩)), (11, .pointer (some ⟨b5, 0, none⟩)), (12, .slice (some ⟨b199, 0, none⟩) 3 3), (14, .pointer (some ⟨b210, 0, none⟩)), (15, .int .i64 (k + 1 : Nat)), (4, .int .i64 ((kindAt kd k).tdiv 3)), (16, .pointer (some ⟨b233, 0, none⟩))] (by kernel_rfl) ?_
        refine CG.listed ?_
        obtain ⟨a242, n243, c244, rfl⟩ := hgW.sl
        obtain ⟨hq245, hs, pw246, po247, hm248, hc249, hz250, sg251⟩ := Gro.pub3 hs hgW
        subst hm248
        replace hA := hA.gw pw246
        replace hZ22 := hZ22.gw pw246
        replace hZ206 := hZ206.gw pw246
        replace hN := hN.gw pw246
        replace hV := hV.gw pw246
        replace hTB := hTB.gw pw246
        replace hg := hg.pubo po247 ((hap2).symm)
        replace hgB := hgB.pubo po247 ((hap1).symm)
        have hA252 : SlO 1 vc undef hq245 a242 (vW) := SlO.of_pub (fun _ => rfl) hz250 sg251
        obtain ⟨a253, n254, c255, rfl⟩ := hgB.sl
        obtain ⟨hq256, hs, pw257, po258, hm259, hc260, hz261, sg262⟩ := Gro.pub3 hs hgB
        subst hm259
        replace hA := hA.gw pw257
        replace hZ22 := hZ22.gw pw257
        replace hZ206 := hZ206.gw pw257
        replace hN := hN.gw pw257
        replace hV := hV.gw pw257
        replace hTB := hTB.gw pw257
        replace hA252 := hA252.gw pw257
        replace hg := hg.pubo po258 ((hap3).symm)
        have hA263 : SlO 3 rqc rqd hq256 a253 (tB) := SlO.of_pub (fun _ => rfl) hz261 sg262
        refine LG.val 91 (.pointer (some ⟨b210, 0, none⟩)) w238 (by kernel_rfl) (by kernel_rfl) (by kernel_rfl) ?_
        refine LG.own 92 [(1, 0, 1)] (s) hs (by kernel_rfl) (by kernel_rfl) (by kernel_rfl) (by kernel_rfl) ?_
        refine LG.own 93 [(0, 0, 3)] (.agg #[.int .i64 (pick (kindAt kd k) 3 + 1 : Nat), .slice a242 ((vW).length) c244, .slice a253 ((tB).length) c255]) hs (by kernel_rfl) (by kernel_rfl) (by kernel_rfl) (by kernel_rfl) ?_
        refine LG.row 94 95 1 ([.int .i64 (pick (kindAt kd k) 3 + 1 : Nat), .slice a242 ((vW).length) c244, .slice a253 ((tB).length) c255]) hs.g (by kernel_rfl) (by kernel_rfl) (by kernel_rfl) (fun b264 w265 h266 u267 hS268 => ?_)
        replace hs := hs.step u267
        replace hg := hg.up u267
        replace hA := hA.gw u267.gr.gw
        replace hZ22 := hZ22.gw u267.gr.gw
        replace hZ206 := hZ206.gw u267.gr.gw
        replace hN := hN.gw u267.gr.gw
        replace hV := hV.gw u267.gr.gw
        replace hTB := hTB.gw u267.gr.gw
        replace hA252 := hA252.gw u267.gr.gw
        replace hA263 := hA263.gw u267.gr.gw
        refine LG.app 95 (x := .tmp 92) (y := .tmp 94) (ty := 27) (e := 95) (z := .agg #[.int .i64 0, .slice none 0 0, .slice none 0 0]) (sz := 3) (bt := 56) (m := ((us).length)) (m2 := 1) (c := 1) (b := b264) (v := s) (cs := (us).flatMap lvc) (news := [.int .i64 (pick (kindAt kd k) 3 + 1 : Nat), .slice a242 ((vW).length) c244, .slice a253 ((tB).length) c255]) hs g hg hS268 (by kernel_rfl) (by kernel_rfl) (by kernel_rfl) (by kernel_rfl) (by kernel_rfl) (by kernel_rfl) (by kernel_rfl) (by kernel_rfl) (by decide) (by kernel_rfl) (by kernel_rfl) (by omega) (by omega) (fun s269 w270 h271 gr272 gg273 hl_ hs hg274 => ?_)
        obtain ⟨s269A, s269n, s269c, rfl⟩ := hg274.sl
        replace hA := hA.gw gr272.gw
        replace hZ22 := hZ22.gw gr272.gw
        replace hZ206 := hZ206.gw gr272.gw
        replace hN := hN.gw gr272.gw
        replace hV := hV.gw gr272.gw
        replace hTB := hTB.gw gr272.gw
        replace hA252 := hA252.gw gr272.gw
        replace hA263 := hA263.gw gr272.gw
        replace hS268 := hS268.gw gr272.gw
        replace hg274 := Gro.snoc (l := us) (f := lvc) (x := (((pick (kindAt kd k) 3 + 1 : Nat), .slice a242 ((vW).length) c244, .slice a253 ((tB).length) c255) : LV)) hg274 (by kernel_rfl)
        refine LG.val 96 (.pointer (some ⟨b210, 0, none⟩)) w270 (by kernel_rfl) (by kernel_rfl) (by kernel_rfl) ?_
        refine LG.put 1 0 ([(.slice s269A s269n s269c)]) hs g (by kernel_rfl) (by kernel_rfl) (by kernel_rfl) (by kernel_rfl) (fun w278 pu hs => ?_)
        replace hg274 := hg274.put pu (by simp [bxAt])
        replace hs := hs.to [⟨b233, 95, [.int .i64 (pick (kindAt kd k) 3 + 1 : Nat), .slice a242 ((vW).length) c244, .slice a253 ((tB).length) c255]⟩, ⟨b210, 29, [(.slice s269A s269n s269c)]⟩, ⟨b5, 99, [.slice A zs.length cap, .int .i64 (at2 : Nat)]⟩, ⟨b1, 29, [.slice none 0 0]⟩] (by kernel_rfl)
        refine LG.next (by kernel_rfl) ?_
        refine CG.to [(10, .pointer (some ⟨b1, 0, none⟩)), (11, .pointer (some ⟨b5, 0, none⟩)), (12, .slice (some ⟨b199, 0, none⟩) 3 3), (14, .pointer (some ⟨b210, 0, none⟩)), (15, .int .i64 (k + 1 : Nat)), (4, .int .i64 ((kindAt kd k).tdiv 3))] (by kernel_rfl) ?_
        refine CG.listed ?_
        refine LG.val 46 (.int .i64 (k + 1 : Nat)) w278 (by kernel_rfl) (by kernel_rfl) (by kernel_rfl) ?_
        refine LG.val 47 (.int .i64 ((k + 1) + 1 : Nat)) w278 (by kernel_rfl) (by kernel_rfl) (rint (ri64 (n := (k + 1 : Nat) + 1) (by kernel_rfl) (by omega) (by omega)) (by omega)) ?_
        refine LG.val 15 (.int .i64 ((k + 1) + 1 : Nat)) w278 (by kernel_rfl) (by kernel_rfl) (by kernel_rfl) ?_
        refine LG.done (by kernel_rfl) ?_
        intro a_ ka
        replace hs := hs.drop 1
        replace hg274 := hg274.sub [b210, b5, b1] (by simp)
        refine ⟨_, _, ?_, ⟨k + 1, (.slice s269A s269n s269c), us ++ [(((pick (kindAt kd k) 3 + 1 : Nat), .slice a242 ((vW).length) c244, .slice a253 ((tB).length) c255) : LV)], ls ++ [⟨(pick (kindAt kd k) 3 + 1 : Nat), Wl, Bl⟩], at2, h271, rfl, rfl, hs.to _ (by kernel_rfl), hA, hZ22, hZ206, by omega, by simp; omega, hat2, (mk_snoc hMk (by rw [hkl]; exact ⟨rfl, by show Wl.length = _; omega, hWs, by show Bl.length = _; omega, hBs⟩)), (hN.snoc ⟨rfl, ⟨_, _, vW, rfl, hc249, hA252, hV⟩, ⟨_, _, tB, rfl, hc260, hA263, hTB⟩⟩), hg274⟩, ka.to [(10, .pointer (some ⟨b1, 0, none⟩)), (11, .pointer (some ⟨b5, 0, none⟩)), (12, .slice (some ⟨b199, 0, none⟩) 3 3), (14, .pointer (some ⟨b210, 0, none⟩)), (15, .int .i64 ((k + 1) + 1 : Nat)), (4, .int .i64 (kindAt kd (k + 1)))] (by kernel_rfl)⟩
        omega
      ·
        have phb241 := of_decide_eq_true hb241
        refine LG.val 59 (.bool true) w238 (by kernel_rfl) (by kernel_rfl) (rb (by kernel_rfl) hb241) ?_
        refine LG.next (by kernel_rfl) ?_
        refine CG.condT (by kernel_rfl) (by kernel_rfl) ?_
        refine CG.skipN ?_
        refine CG.seq ?_
        refine CG.block ?_
        refine CG.seq ?_
        refine CG.listed ?_
        refine LG.val 18 (.slice none 0 0) w238 (by kernel_rfl) (by kernel_rfl) (by kernel_rfl) ?_
        refine LG.next (by kernel_rfl) ?_
        refine CG.to [(10, .pointer (some ⟨b1, 0, none⟩)), (11, .pointer (some ⟨b5, 0, none⟩)), (12, .slice (some ⟨b199, 0, none⟩) 3 3), (14, .pointer (some ⟨b210, 0, none⟩)), (15, .int .i64 (k + 1 : Nat)), (4, .int .i64 ((kindAt kd k).tdiv 3)), (16, .pointer (some ⟨b233, 0, none⟩)), (17, .int .i64 (j : Nat)), (18, .slice none 0 0)] (by kernel_rfl) ?_
        refine CG.seq ?_
        refine CG.seq ?_
        refine CG.listed ?_
        refine LG.val 19 (.int .i64 0) w238 (by kernel_rfl) (by kernel_rfl) (by kernel_rfl) ?_
        refine LG.next (by kernel_rfl) ?_
        refine CG.block ?_
        refine CG.to [(10, .pointer (some ⟨b1, 0, none⟩)), (11, .pointer (some ⟨b5, 0, none⟩)), (12, .slice (some ⟨b199, 0, none⟩) 3 3), (14, .pointer (some ⟨b210, 0, none⟩)), (15, .int .i64 (k + 1 : Nat)), (4, .int .i64 ((kindAt kd k).tdiv 3)), (16, .pointer (some ⟨b233, 0, none⟩)), (17, .int .i64 (j : Nat)), (19, .int .i64 0), (18, .slice none 0 0)] (by kernel_rfl) ?_
        refine CG.loop (fun μ_ Γ w_ => ∃ (c : Nat) (sr : Value) (tr : List RT) (qr : List Rat) (at3 : Nat) (h_ : Hp), μ_ = S204.getD k 0 - c ∧ Γ = [(10, .pointer (some ⟨b1, 0, none⟩)), (11, .pointer (some ⟨b5, 0, none⟩)), (12, .slice (some ⟨b199, 0, none⟩) 3 3), (14, .pointer (some ⟨b210, 0, none⟩)), (15, .int .i64 (k + 1 : Nat)), (4, .int .i64 ((kindAt kd k).tdiv 3)), (16, .pointer (some ⟨b233, 0, none⟩)), (17, .int .i64 (j : Nat)), (19, .int .i64 (c : Nat)), (18, sr)] ∧ St w h w_ h_ [⟨b233, 95, [.int .i64 (pick (kindAt kd k) 3 + 1 : Nat), sW, sB]⟩, ⟨b210, 29, [s]⟩, ⟨b5, 99, [.slice A zs.length cap, .int .i64 (at3 : Nat)]⟩, ⟨b1, 29, [.slice none 0 0]⟩] ∧ (SlO 1 i64c 0 h_ A zs) ∧ (SlO 1 natc 0 h_ (some ⟨b15, 0, none⟩) S20) ∧ (SlO 1 natc 0 h_ (some ⟨b199, 0, none⟩) S204) ∧ (RNetL h_ us ls) ∧ (RVs h_ vW Wl) ∧ (RTs h_ tB Bl) ∧ (Gro h [b233, b210, b5, b1] w_ h_ 95 3 s ((us).length) ((us).flatMap lvc)) ∧ (Gro h [b233, b210, b5, b1] w_ h_ 34 1 sW ((vW).length) ((vW).flatMap vc)) ∧ (Gro h [b233, b210, b5, b1] w_ h_ 105 3 sB ((tB).length) ((tB).flatMap rqc)) ∧ (c ≤ S204.getD k 0) ∧ (qr.length = c) ∧ (at3 ≤ zs.length) ∧ (Smalls qr) ∧ (RTs h_ tr qr) ∧ (Gro h [b233, b210, b5, b1] w_ h_ 105 3 sr ((tr).length) ((tr).flatMap rqc)) ∧ (Apart sr sW) ∧ (Apart sr sB) ∧ (Apart sr s)) _ ⟨0, (.slice none 0 0), [], [], at2, h239, rfl, rfl, hs.to _ (by kernel_rfl), hA, hZ22, hZ206, hN, hV, hTB, hg, hgW, hgB, Nat.zero_le _, rfl, hat2, fun r hr => by simp at hr, RTs.nil, Gro.nil, Apart.nil, Apart.nil, Apart.nil⟩ ?_
        rintro _ _ w279 ⟨c, sr, tr, qr, at3, h280, hm281, rfl, hs, hA, hZ22, hZ206, hN, hV, hTB, hg, hgW, hgB, hc, hqr, hat3, hQs, hTr, hgr, hap4, hap5, hap6⟩
        have hltr := hTr.len
        -- round
        refine CG.seq ?_
        refine CG.seq ?_
        refine CG.listed ?_
        refine LG.val 62 (.int .i64 (c : Nat)) w279 (by kernel_rfl) (by kernel_rfl) (by kernel_rfl) ?_
        refine LG.val 63 (.slice (some ⟨b199, 0, none⟩) 3 3) w279 (by kernel_rfl) (by kernel_rfl) (by kernel_rfl) ?_
        refine LG.val 64 (.int .i64 (k + 1 : Nat)) w279 (by kernel_rfl) (by kernel_rfl) (by kernel_rfl) ?_
        refine LG.val 65 (.int .i64 (k : Nat)) w279 (by kernel_rfl) (by kernel_rfl) (rint (ri64 (n := ((k + 1 : Nat) : Int) - 1) (by kernel_rfl) (by omega) (by omega)) (by omega)) ?_
        refine LG.val 66 (.pointer (some ⟨(aB (some ⟨b199, 0, none⟩)), aO (some ⟨b199, 0, none⟩) + k * 1, none⟩)) w279 (by kernel_rfl) (by kernel_rfl) (ixAddr (t := 22) (e := 3) (x := .tmp 63) (ix := .tmp 65) (A := some ⟨b199, 0, none⟩) (len := 3) (cap := 3) (sz := 1) (i := (k : Nat)) k (by kernel_rfl) (by kernel_rfl) (by kernel_rfl) (by kernel_rfl) (by kernel_rfl) (hZ206.ok (by omega)) (by omega) (by omega) _) ?_
        refine LG.val 67 (.int .i64 (S204.getD k 0 : Nat)) w279 (by kernel_rfl) (by kernel_rfl) (Seg.run (hZ206.el k (by omega)) hs.g (Ext.refl _) (by kernel_rfl)) ?_
        cases hb282 : (decide (((c : Nat) : Int) < ((S204.getD k 0 : Nat) : Int)))
        ·
          have phb282 := of_decide_eq_false hb282
          refine LG.val 68 (.bool false) w279 (by kernel_rfl) (by kernel_rfl) (rb (by kernel_rfl) hb282) ?_
          refine LG.next (by kernel_rfl) ?_
          refine CG.to [(10, .pointer (some ⟨b1, 0, none⟩)), (11, .pointer (some ⟨b5, 0, none⟩)), (12, .slice (some ⟨b199, 0, none⟩) 3 3), (14, .pointer (some ⟨b210, 0, none⟩)), (15, .int .i64 (k + 1 : Nat)), (4, .int .i64 ((kindAt kd k).tdiv 3)), (16, .pointer (some ⟨b233, 0, none⟩)), (17, .int .i64 (j : Nat)), (19, .int .i64 (c : Nat)), (18, sr), (68, .bool false)] (by kernel_rfl) ?_
          refine CG.condF (by kernel_rfl) (by kernel_rfl) ?_
          refine CG.exit ?_
          show CG _ _ _ _ _ _ _ _
          refine CG.seq ?_
          refine CG.listed ?_
          refine LG.val 77 (.pointer (some ⟨b233, 1, none⟩)) w279 (by kernel_rfl) (by kernel_rfl) (by kernel_rfl) ?_
          refine LG.own 78 [(0, 1, 1)] (sW) hs (by kernel_rfl) (by kernel_rfl) (by kernel_rfl) (by kernel_rfl) ?_
          obtain ⟨a283, n284, c285, rfl⟩ := hgr.sl
          obtain ⟨hq286, hs, pw287, po288, hm289, hc290, hz291, sg292⟩ := Gro.pub3 hs hgr
          subst hm289
          replace hA := hA.gw pw287
          replace hZ22 := hZ22.gw pw287
          replace hZ206 := hZ206.gw pw287
          replace hN := hN.gw pw287
          replace hV := hV.gw pw287
          replace hTB := hTB.gw pw287
          replace hTr := hTr.gw pw287
          replace hg := hg.pubo po288 ((hap6).symm)
          replace hgW := hgW.pubo po288 ((hap4).symm)
          replace hgB := hgB.pubo po288 ((hap5).symm)
          have hA293 : SlO 3 rqc rqd hq286 a283 (tr) := SlO.of_pub (fun _ => rfl) hz291 sg292
          refine LG.val 79 (.slice a283 ((tr).length) c285) w279 (by kernel_rfl) (by kernel_rfl) (by kernel_rfl) ?_
          refine LG.row 80 34 1 ([.slice a283 ((tr).length) c285]) hs.g (by kernel_rfl) (by kernel_rfl) (by kernel_rfl) (fun b294 w295 h296 u297 hS298 => ?_)
          replace hs := hs.step u297
          replace hg := hg.up u297
          replace hgW := hgW.up u297
          replace hgB := hgB.up u297
          replace hA := hA.gw u297.gr.gw
          replace hZ22 := hZ22.gw u297.gr.gw
          replace hZ206 := hZ206.gw u297.gr.gw
          replace hN := hN.gw u297.gr.gw
          replace hV := hV.gw u297.gr.gw
          replace hTB := hTB.gw u297.gr.gw
          replace hTr := hTr.gw u297.gr.gw
          replace hA293 := hA293.gw u297.gr.gw
          refine LG.app 81 (x := .tmp 78) (y := .tmp 80) (ty := 93) (e := 34) (z := .slice none 0 0) (sz := 1) (bt := 24) (m := ((vW).length)) (m2 := 1) (c := 1) (b := b294) (v := sW) (cs := (vW).flatMap vc) (news := [.slice a283 ((tr).length) c285]) hs g hgW hS298 (by kernel_rfl) (by kernel_rfl) (by kernel_rfl) (by kernel_rfl) (by kernel_rfl) (by kernel_rfl) (by kernel_rfl) (by kernel_rfl) (by decide) (by kernel_rfl) (by kernel_rfl) (by omega) (by omega) (fun s299 w300 h301 gr302 gg303 hl_ hs hg304 => ?_)
          obtain ⟨s299A, s299n, s299c, rfl⟩ := hg304.sl
          replace hA := hA.gw gr302.gw
          replace hZ22 := hZ22.gw gr302.gw
          replace hZ206 := hZ206.gw gr302.gw
          replace hN := hN.gw gr302.gw
          replace hV := hV.gw gr302.gw
          replace hTB := hTB.gw gr302.gw
          replace hTr := hTr.gw gr302.gw
          replace hA293 := hA293.gw gr302.gw
          replace hS298 := hS298.gw gr302.gw
          have ap308 := Apart.grown (w := w295) hap2 hl_ (fun b hb => own_lt hg.own hb)
          replace hg := hg.app gg303 gr302 (hap2).symm
          have ap309 := Apart.grown (w := w295) hap1 hl_ (fun b hb => own_lt hgB.own hb)
          replace hgB := hgB.app gg303 gr302 (hap1).symm
          replace hg304 := Gro.snoc (l := vW) (f := vc) (x := (.slice a283 ((tr).length) c285 : Value)) hg304 (by kernel_rfl)
          refine LG.val 82 (.pointer (some ⟨b233, 1, none⟩)) w300 (by kernel_rfl) (by kernel_rfl) (by kernel_rfl) ?_
          refine LG.put 0 1 ([(.slice s299A s299n s299c)]) hs g (by kernel_rfl) (by kernel_rfl) (by kernel_rfl) (by kernel_rfl) (fun w310 pu hs => ?_)
          replace hg := hg.put pu (by simp [bxAt])
          replace hgB := hgB.put pu (by simp [bxAt])
          replace hg304 := hg304.put pu (by simp [bxAt])
          replace hs := hs.to [⟨b233, 95, [.int .i64 (pick (kindAt kd k) 3 + 1 : Nat), (.slice s299A s299n s299c), sB]⟩, ⟨b210, 29, [s]⟩, ⟨b5, 99, [.slice A zs.length cap, .int .i64 (at3 : Nat)]⟩, ⟨b1, 29, [.slice none 0 0]⟩] (by kernel_rfl)
          refine LG.next (by kernel_rfl) ?_
          refine CG.to [(10, .pointer (some ⟨b1, 0, none⟩)), (11, .pointer (some ⟨b5, 0, none⟩)), (12, .slice (some ⟨b199, 0, none⟩) 3 3), (14, .pointer (some ⟨b210, 0, none⟩)), (15, .int .i64 (k + 1 : Nat)), (4, .int .i64 ((kindAt kd k).tdiv 3)), (16, .pointer (some ⟨b233, 0, none⟩)), (17, .int .i64 (j : Nat))] (by kernel_rfl) ?_
          have hsr := hs
          have hg_r := hg
          have hgB_r := hgB
          have hg304_r := hg304
          refine CG.region (b5 :: sB.ownBlock.toList) 7 [] mixed (by kernel_rfl) hs.g al_nil (fun b hb => by
            rcases List.mem_cons.1 hb with e | e
            · rw [e]; exact lt_of_some (hs.jk _ (bxAt_mem (j := 2) (Nat.le_of_ble_eq_true (by kernel_rfl))))
            · exact hgB.lt (Option.mem_toList.1 e)) ?_
          refine Rg.pure 0 83 (.pointer (some ⟨b233, 2, none⟩)) (by kernel_rfl) (by kernel_rfl) (fun _ => by kernel_rfl) ?_
          refine Rg.own 1 84 [(0, 2, 1)] (sB) hs (by kernel_rfl) (by kernel_rfl) (fun p hp => by rw [List.mem_singleton] at hp; rw [hp]; exact notM_both hs hgB (i := 2) (by kernel_rfl) (by kernel_rfl) (by kernel_rfl)) (by kernel_rfl) (by kernel_rfl) ?_
          refine Rg.pure 2 85 (.pointer (some ⟨b5, 0, none⟩)) (by kernel_rfl) (by kernel_rfl) (fun _ => by kernel_rfl) ?_
          refine Rg.call 3 86 46 #[.pointer (some ⟨b5, 0, none⟩)] (by kernel_rfl) (by kernel_rfl) (fun _ => by kernel_rfl) (fun w314 h315 u316 => ?_)
          replace hs := hs.step u316
          replace hg := hg.up u316
          replace hgB := hgB.up u316
          replace hg304 := hg304.up u316
          replace hA := hA.gw u316.gr.gw
          replace hZ22 := hZ22.gw u316.gr.gw
          replace hZ206 := hZ206.gw u316.gr.gw
          replace hN := hN.gw u316.gr.gw
          replace hV := hV.gw u316.gr.gw
          replace hTB := hTB.gw u316.gr.gw
          replace hTr := hTr.gw u316.gr.gw
          replace hA293 := hA293.gw u316.gr.gw
          replace hS298 := hS298.gw u316.gr.gw
          refine (rNext A cap zs hl hz b5 at3 (by omega) w314 h315 hs.g (hs.own _ (bxAt_mem (j := 2) (Nat.le_of_ble_eq_true (by kernel_rfl)))) (hs.jk _ (bxAt_mem (j := 2) (Nat.le_of_ble_eq_true (by kernel_rfl)))) hA).mono ?_
          rintro _ w311 ⟨vu313, h312, rfl, u313, ⟨z3, atn3, rfl, hatn3, hzn3, hOn3⟩⟩
          refine ⟨_, h312, rfl, u313.weak (fun b hb => by rw [List.mem_singleton] at hb; rw [hb]; exact List.mem_cons_self), ?_⟩
          replace hs := (hs.stepM g (j := 2) (Nat.le_of_ble_eq_true (by kernel_rfl)) u313 hOn3).to [⟨b233, 95, [.int .i64 (pick (kindAt kd k) 3 + 1 : Nat), (.slice s299A s299n s299c), sB]⟩, ⟨b210, 29, [s]⟩, ⟨b5, 99, [.slice A zs.length cap, .int .i64 (atn3 : Nat)]⟩, ⟨b1, 29, [.slice none 0 0]⟩] (by kernel_rfl)
          replace hg := hg.upM u313 (by simp)
          replace hgB := hgB.upM u313 (by simp)
          replace hg304 := hg304.upM u313 (by simp)
          replace hA := hA.gw u313.gr.gw
          replace hZ22 := hZ22.gw u313.gr.gw
          replace hZ206 := hZ206.gw u313.gr.gw
          replace hN := hN.gw u313.gr.gw
          replace hV := hV.gw u313.gr.gw
          replace hTB := hTB.gw u313.gr.gw
          replace hTr := hTr.gw u313.gr.gw
          replace hA293 := hA293.gw u313.gr.gw
          replace hS298 := hS298.gw u313.gr.gw
          refine Rg.call 4 87 45 #[.int .i64 z3] (by kernel_rfl) (by kernel_rfl) (fun _ => by kernel_rfl) (fun w328 h329 u330 => ?_)
          replace hs := hs.step u330
          replace hg := hg.up u330
          replace hgB := hgB.up u330
          replace hg304 := hg304.up u330
          replace hA := hA.gw u330.gr.gw
          replace hZ22 := hZ22.gw u330.gr.gw
          replace hZ206 := hZ206.gw u330.gr.gw
          replace hN := hN.gw u330.gr.gw
          replace hV := hV.gw u330.gr.gw
          replace hTB := hTB.gw u330.gr.gw
          replace hTr := hTr.gw u330.gr.gw
          replace hA293 := hA293.gw u330.gr.gw
          replace hS298 := hS298.gw u330.gr.gw
          refine (mSmall z3 hzn3.1 hzn3.2 w328 h329 hs.g).mono ?_
          rintro _ w325 ⟨vu327, h326, rfl, u327, ⟨A317, c318, A321, c322, rfl, hc319, hc323, hA320, hA324⟩⟩
          refine ⟨_, h326, rfl, u327.m _, ?_⟩
          replace hs := hs.step u327
          replace hg := hg.up u327
          replace hgB := hgB.up u327
          replace hg304 := hg304.up u327
          replace hA := hA.gw u327.gr.gw
          replace hZ22 := hZ22.gw u327.gr.gw
          replace hZ206 := hZ206.gw u327.gr.gw
          replace hN := hN.gw u327.gr.gw
          replace hV := hV.gw u327.gr.gw
          replace hTB := hTB.gw u327.gr.gw
          replace hTr := hTr.gw u327.gr.gw
          replace hA293 := hA293.gw u327.gr.gw
          replace hS298 := hS298.gw u327.gr.gw
          refine Rg.row 5 88 105 1 ([.bool (ineg (smallq z3).num), .slice A317 ((lim (iabs (smallq z3).num)).length) c318, .slice A321 ((lim (smallq z3).den).length) c322]) (by kernel_rfl) (by kernel_rfl) (fun _ => by kernel_rfl) (fun b331 w332 h333 u334 hS335 => ?_)
          replace hs := hs.step u334
          replace hg := hg.up u334
          replace hgB := hgB.up u334
          replace hg304 := hg304.up u334
          replace hA := hA.gw u334.gr.gw
          replace hZ22 := hZ22.gw u334.gr.gw
          replace hZ206 := hZ206.gw u334.gr.gw
          replace hN := hN.gw u334.gr.gw
          replace hV := hV.gw u334.gr.gw
          replace hTB := hTB.gw u334.gr.gw
          replace hTr := hTr.gw u334.gr.gw
          replace hA293 := hA293.gw u334.gr.gw
          replace hS298 := hS298.gw u334.gr.gw
          replace hA320 := hA320.gw u334.gr.gw
          replace hA324 := hA324.gw u334.gr.gw
          refine Rg.app 6 89 (x := .tmp 84) (y := .tmp 88) (ty := 34) (e := 105) (z := .agg #[.bool false, .slice none 0 0, .slice none 0 0]) (sz := 3) (bt := 56) (m := ((tB).length)) (m2 := 1) (c := 1) (b := b331) (v := sB) (cs := (tB).flatMap rqc) (news := [.bool (ineg (smallq z3).num), .slice A317 ((lim (iabs (smallq z3).num)).length) c318, .slice A321 ((lim (smallq z3).den).length) c322]) hs g hgB hS335 (fun b hb => by simp [hb]) (by kernel_rfl) (by kernel_rfl) (by kernel_rfl) (by kernel_rfl) (by kernel_rfl) (by kernel_rfl) (by kernel_rfl) (by kernel_rfl) (by decide) (by kernel_rfl) (by kernel_rfl) (by omega) (by omega) (fun w342 h343 u344 s336 w337 h338 gr339 gg340 hl_ hs hg341 => ?_)
          have gr_ := u344.gr.trans gr339
          replace hg := hg.up u344
          replace hg304 := hg304.up u344
          obtain ⟨s336A, s336n, s336c, rfl⟩ := hg341.sl
          replace hA := hA.gw gr_.gw
          replace hZ22 := hZ22.gw gr_.gw
          replace hZ206 := hZ206.gw gr_.gw
          replace hN := hN.gw gr_.gw
          replace hV := hV.gw gr_.gw
          replace hTB := hTB.gw gr_.gw
          replace hTr := hTr.gw gr_.gw
          replace hA293 := hA293.gw gr_.gw
          replace hS298 := hS298.gw gr_.gw
          replace hA320 := hA320.gw gr_.gw
          replace hA324 := hA324.gw gr_.gw
          replace hS335 := hS335.gw gr_.gw
          have ap345 := Apart.grown (w := w342) hap3 hl_ (fun b hb => own_lt hg.own hb)
          replace hg := hg.app gg340 gr339 (hap3).symm
          have ap346 := Apart.grown (w := w342) (ap309).symm hl_ (fun b hb => own_lt hg304.own hb)
          replace hg304 := hg304.app gg340 gr339 ap309
          replace hg341 := Gro.snoc (l := tB) (f := rqc) (x := ((ineg (smallq z3).num, .slice A317 ((lim (iabs (smallq z3).num)).length) c318, .slice A321 ((lim (smallq z3).den).length) c322) : RT)) hg341 (by kernel_rfl)
          refine Rg.fin0 (by kernel_rfl) (fun w347 h348 u349 => ?_)
          replace hs := hs.step u349
          replace hg := hg.up u349
          replace hg304 := hg304.up u349
          replace hg341 := hg341.up u349
          replace hA := hA.gw u349.gr.gw
          replace hZ22 := hZ22.gw u349.gr.gw
          replace hZ206 := hZ206.gw u349.gr.gw
          replace hN := hN.gw u349.gr.gw
          replace hV := hV.gw u349.gr.gw
          replace hTB := hTB.gw u349.gr.gw
          replace hTr := hTr.gw u349.gr.gw
          replace hA293 := hA293.gw u349.gr.gw
          replace hS298 := hS298.gw u349.gr.gw
          replace hA320 := hA320.gw u349.gr.gw
          replace hA324 := hA324.gw u349.gr.gw
          replace hS335 := hS335.gw u349.gr.gw
          refine T.val 7 90 (.pointer (some ⟨b233, 2, none⟩)) w347 (by kernel_rfl) (by kernel_rfl) (by kernel_rfl) ?_
          refine T.put 8 0 2 ([(.slice s336A s336n s336c)]) hs g (by kernel_rfl) (by kernel_rfl) (by kernel_rfl) (by kernel_rfl) (fun w350 pu hs => ?_)
          replace hg := hg.put pu (by simp [bxAt])
          replace hg304 := hg304.put pu (by simp [bxAt])
          replace hg341 := hg341.put pu (by simp [bxAt])
          replace hs := hs.to [⟨b233, 95, [.int .i64 (pick (kindAt kd k) 3 + 1 : Nat), (.slice s299A s299n s299c), (.slice s336A s336n s336c)]⟩, ⟨b210, 29, [s]⟩, ⟨b5, 99, [.slice A zs.length cap, .int .i64 (atn3 : Nat)]⟩, ⟨b1, 29, [.slice none 0 0]⟩] (by kernel_rfl)
          refine T.next (by kernel_rfl) ?_
          refine CG.to [(10, .pointer (some ⟨b1, 0, none⟩)), (11, .pointer (some ⟨b5, 0, none⟩)), (12, .slice (some ⟨b199, 0, none⟩) 3 3), (14, .pointer (some ⟨b210, 0, none⟩)), (15, .int .i64 (k + 1 : Nat)), (4, .int .i64 ((kindAt kd k).tdiv 3)), (16, .pointer (some ⟨b233, 0, none⟩)), (17, .int .i64 (j : Nat))] (by kernel_rfl) ?_
          refine CG.listed ?_
          refine LG.val 60 (.int .i64 (j : Nat)) w350 (by kernel_rfl) (by kernel_rfl) (by kernel_rfl) ?_
          refine LG.val 61 (.int .i64 (j + 1 : Nat)) w350 (by kernel_rfl) (by kernel_rfl) (rint (ri64 (n := (j : Nat) + 1) (by kernel_rfl) (by omega) (by omega)) (by omega)) ?_
          refine LG.val 17 (.int .i64 (j + 1 : Nat)) w350 (by kernel_rfl) (by kernel_rfl) (by kernel_rfl) ?_
          refine LG.done (by kernel_rfl) ?_
          intro a_ ka
          refine ⟨_, _, ?_, ⟨j + 1, (.slice s299A s299n s299c), Wl ++ [qr], vW ++ [(.slice a283 ((tr).length) c285 : Value)], (.slice s336A s336n s336c), Bl ++ [smallq z3], tB ++ [((ineg (smallq z3).num, .slice A317 ((lim (iabs (smallq z3).num)).length) c318, .slice A321 ((lim (smallq z3).den).length) c322) : RT)], atn3, h348, rfl, rfl, hs.to _ (by kernel_rfl), hA, hZ22, hZ206, hN, hg, by omega, by simp; omega, by simp; omega, hatn3, (rows_snoc hWs (by omega) hQs), (Smalls.snoc hBs _), (RVs.snoc hV ⟨_, _, tr, rfl, hc290, hA293, hTr⟩), (RTs.snoc hTB ⟨_, _, _, _, rfl, hc319, hc323, hA320, hA324⟩), hg304, hg341, (ap346).symm, ap308, ap345⟩, ka.to [(10, .pointer (some ⟨b1, 0, none⟩)), (11, .pointer (some ⟨b5, 0, none⟩)), (12, .slice (some ⟨b199, 0, none⟩) 3 3), (14, .pointer (some ⟨b210, 0, none⟩)), (15, .int .i64 (k + 1 : Nat)), (4, .int .i64 ((kindAt kd k).tdiv 3)), (16, .pointer (some ⟨b233, 0, none⟩)), (17, .int .i64 ((j + 1) : Nat))] (by kernel_rfl)⟩
          omega
        ·
          have phb282 := of_decide_eq_true hb282
          refine LG.val 68 (.bool true) w279 (by kernel_rfl) (by kernel_rfl) (rb (by kernel_rfl) hb282) ?_
          refine LG.next (by kernel_rfl) ?_
          refine CG.to [(10, .pointer (some ⟨b1, 0, none⟩)), (11, .pointer (some ⟨b5, 0, none⟩)), (12, .slice (some ⟨b199, 0, none⟩) 3 3), (14, .pointer (some ⟨b210, 0, none⟩)), (15, .int .i64 (k + 1 : Nat)), (4, .int .i64 ((kindAt kd k).tdiv 3)), (16, .pointer (some ⟨b233, 0, none⟩)), (17, .int .i64 (j : Nat)), (19, .int .i64 (c : Nat)), (18, sr), (68, .bool true)] (by kernel_rfl) ?_
          refine CG.condT (by kernel_rfl) (by kernel_rfl) ?_
          refine CG.skipN ?_
          refine CG.seq ?_
          refine CG.block ?_
          refine CG.listed ?_
          refine LG.val 71 (sr) w279 (by kernel_rfl) (by kernel_rfl) (by kernel_rfl) ?_
          refine LG.val 72 (.pointer (some ⟨b5, 0, none⟩)) w279 (by kernel_rfl) (by kernel_rfl) (by kernel_rfl) ?_
          refine LG.call 73 46 #[.pointer (some ⟨b5, 0, none⟩)] (by kernel_rfl) (by kernel_rfl) (by kernel_rfl) ?_
          refine (rNext A cap zs hl hz b5 at3 (by omega) w279 h280 hs.g (hs.own _ (bxAt_mem (j := 2) (Nat.le_of_ble_eq_true (by kernel_rfl)))) (hs.jk _ (bxAt_mem (j := 2) (Nat.le_of_ble_eq_true (by kernel_rfl)))) hA).mono ?_
          rintro _ w351 ⟨vu353, h352, rfl, u353, ⟨z4, atn4, rfl, hatn4, hzn4, hOn4⟩⟩
          refine ⟨_, rfl, ?_⟩
          replace hs := (hs.stepM g (j := 2) (Nat.le_of_ble_eq_true (by kernel_rfl)) u353 hOn4).to [⟨b233, 95, [.int .i64 (pick (kindAt kd k) 3 + 1 : Nat), sW, sB]⟩, ⟨b210, 29, [s]⟩, ⟨b5, 99, [.slice A zs.length cap, .int .i64 (atn4 : Nat)]⟩, ⟨b1, 29, [.slice none 0 0]⟩] (by kernel_rfl)
          replace hg := hg.upM u353 (by simp)
          replace hgW := hgW.upM u353 (by simp)
          replace hgB := hgB.upM u353 (by simp)
          replace hgr := hgr.upM u353 (by simp)
          replace hA := hA.gw u353.gr.gw
          replace hZ22 := hZ22.gw u353.gr.gw
          replace hZ206 := hZ206.gw u353.gr.gw
          replace hN := hN.gw u353.gr.gw
          replace hV := hV.gw u353.gr.gw
          replace hTB := hTB.gw u353.gr.gw
          replace hTr := hTr.gw u353.gr.gw
          refine LG.call 74 45 #[.int .i64 z4] (by kernel_rfl) (by kernel_rfl) (by kernel_rfl) ?_
          refine (mSmall z4 hzn4.1 hzn4.2 w351 h352 hs.g).mono ?_
          rintro _ w362 ⟨vu364, h363, rfl, u364, ⟨A354, c355, A358, c359, rfl, hc356, hc360, hA357, hA361⟩⟩
          refine ⟨_, rfl, ?_⟩
          replace hs := hs.step u364
          replace hg := hg.up u364
          replace hgW := hgW.up u364
          replace hgB := hgB.up u364
          replace hgr := hgr.up u364
          replace hA := hA.gw u364.gr.gw
          replace hZ22 := hZ22.gw u364.gr.gw
          replace hZ206 := hZ206.gw u364.gr.gw
          replace hN := hN.gw u364.gr.gw
          replace hV := hV.gw u364.gr.gw
          replace hTB := hTB.gw u364.gr.gw
          replace hTr := hTr.gw u364.gr.gw
          refine LG.row 75 105 1 ([.bool (ineg (smallq z4).num), .slice A354 ((lim (iabs (smallq z4).num)).length) c355, .slice A358 ((lim (smallq z4).den).length) c359]) hs.g (by kernel_rfl) (by kernel_rfl) (by kernel_rfl) (fun b365 w366 h367 u368 hS369 => ?_)
          replace hs := hs.step u368
          replace hg := hg.up u368
          replace hgW := hgW.up u368
          replace hgB := hgB.up u368
          replace hgr := hgr.up u368
          replace hA := hA.gw u368.gr.gw
          replace hZ22 := hZ22.gw u368.gr.gw
          replace hZ206 := hZ206.gw u368.gr.gw
          replace hN := hN.gw u368.gr.gw
          replace hV := hV.gw u368.gr.gw
          replace hTB := hTB.gw u368.gr.gw
          replace hTr := hTr.gw u368.gr.gw
          replace hA357 := hA357.gw u368.gr.gw
          replace hA361 := hA361.gw u368.gr.gw
          refine LG.app 76 (x := .tmp 71) (y := .tmp 75) (ty := 34) (e := 105) (z := .agg #[.bool false, .slice none 0 0, .slice none 0 0]) (sz := 3) (bt := 56) (m := ((tr).length)) (m2 := 1) (c := 1) (b := b365) (v := sr) (cs := (tr).flatMap rqc) (news := [.bool (ineg (smallq z4).num), .slice A354 ((lim (iabs (smallq z4).num)).length) c355, .slice A358 ((lim (smallq z4).den).length) c359]) hs g hgr hS369 (by kernel_rfl) (by kernel_rfl) (by kernel_rfl) (by kernel_rfl) (by kernel_rfl) (by kernel_rfl) (by kernel_rfl) (by kernel_rfl) (by decide) (by kernel_rfl) (by kernel_rfl) (by omega) (by omega) (fun s370 w371 h372 gr373 gg374 hl_ hs hg375 => ?_)
          obtain ⟨s370A, s370n, s370c, rfl⟩ := hg375.sl
          replace hA := hA.gw gr373.gw
          replace hZ22 := hZ22.gw gr373.gw
          replace hZ206 := hZ206.gw gr373.gw
          replace hN := hN.gw gr373.gw
          replace hV := hV.gw gr373.gw
          replace hTB := hTB.gw gr373.gw
          replace hTr := hTr.gw gr373.gw
          replace hA357 := hA357.gw gr373.gw
          replace hA361 := hA361.gw gr373.gw
          replace hS369 := hS369.gw gr373.gw
          have ap379 := Apart.grown (w := w366) hap6 hl_ (fun b hb => own_lt hg.own hb)
          replace hg := hg.app gg374 gr373 (hap6).symm
          have ap380 := Apart.grown (w := w366) hap4 hl_ (fun b hb => own_lt hgW.own hb)
          replace hgW := hgW.app gg374 gr373 (hap4).symm
          have ap381 := Apart.grown (w := w366) hap5 hl_ (fun b hb => own_lt hgB.own hb)
          replace hgB := hgB.app gg374 gr373 (hap5).symm
          replace hg375 := Gro.snoc (l := tr) (f := rqc) (x := ((ineg (smallq z4).num, .slice A354 ((lim (iabs (smallq z4).num)).length) c355, .slice A358 ((lim (smallq z4).den).length) c359) : RT)) hg375 (by kernel_rfl)
          refine LG.val 18 ((.slice s370A s370n s370c)) w371 (by kernel_rfl) (by kernel_rfl) (by kernel_rfl) ?_
          refine LG.next (by kernel_rfl) ?_
          refine CG.to [(10, .pointer (some ⟨b1, 0, none⟩)), (11, .pointer (some ⟨b5, 0, none⟩)), (12, .slice (some ⟨b199, 0, none⟩) 3 3), (14, .pointer (some ⟨b210, 0, none⟩)), (15, .int .i64 (k + 1 : Nat)), (4, .int .i64 ((kindAt kd k).tdiv 3)), (16, .pointer (some ⟨b233, 0, none⟩)), (17, .int .i64 (j : Nat)), (19, .int .i64 (c : Nat)), (18, (.slice s370A s370n s370c))] (by kernel_rfl) ?_
          refine CG.listed ?_
          refine LG.val 69 (.int .i64 (c : Nat)) w371 (by kernel_rfl) (by kernel_rfl) (by kernel_rfl) ?_
          refine LG.val 70 (.int .i64 (c + 1 : Nat)) w371 (by kernel_rfl) (by kernel_rfl) (rint (ri64 (n := (c : Nat) + 1) (by kernel_rfl) (by omega) (by omega)) (by omega)) ?_
          refine LG.val 19 (.int .i64 (c + 1 : Nat)) w371 (by kernel_rfl) (by kernel_rfl) (by kernel_rfl) ?_
          refine LG.done (by kernel_rfl) ?_
          intro a_ ka
          refine ⟨_, _, ?_, ⟨c + 1, (.slice s370A s370n s370c), tr ++ [((ineg (smallq z4).num, .slice A354 ((lim (iabs (smallq z4).num)).length) c355, .slice A358 ((lim (smallq z4).den).length) c359) : RT)], qr ++ [smallq z4], atn4, h372, rfl, rfl, hs.to _ (by kernel_rfl), hA, hZ22, hZ206, hN, hV, hTB, hg, hgW, hgB, by omega, by simp; omega, hatn4, (Smalls.snoc hQs _), (RTs.snoc hTr ⟨_, _, _, _, rfl, hc356, hc360, hA357, hA361⟩), hg375, ap380, ap381, ap379⟩, ka.to [(10, .pointer (some ⟨b1, 0, none⟩)), (11, .pointer (some ⟨b5, 0, none⟩)), (12, .slice (some ⟨b199, 0, none⟩) 3 3), (14, .pointer (some ⟨b210, 0, none⟩)), (15, .int .i64 (k + 1 : Nat)), (4, .int .i64 ((kindAt kd k).tdiv 3)), (16, .pointer (some ⟨b233, 0, none⟩)), (17, .int .i64 (j : Nat)), (19, .int .i64 ((c + 1) : Nat)), (18, (.slice s370A s370n s370c))] (by kernel_rfl)⟩
          omega

end Go.Proofs.YtbhpcpkcjgkcpaaGreatDoor
