/- Contracts of make's raw.next, InNet, Net. -/
import Derived.Test.YtmkonbkdjmfjhaaGreatDoorNtC
import Derived.Test.YtmkonbkdjmfjhaaGreatDoorMod
namespace Go.Proofs.YtmkonbkdjmfjhaaGreatDoor
open Go.RowKit

set_option maxRecDepth 100000 in
set_option maxHeartbeats 600000 in
theorem rNext (A : Option Addr) (cap : Nat) (zs : List Int) (hl : zs.length ≤ 9223372036854775807) (hz : I64s zs) (rbk at_ : Nat) (ha : at_ ≤ zs.length) (w : World) (h : Hp) (g : G w h) (ho : Own w rbk 51 [.slice A zs.length cap, .int .i64 (at_ : Nat)]) (hj : h[rbk]? = some junk) (hA : SlO 1 i64c 0 h A zs) :
    Calls Tryz.prog 13 #[.pointer (some ⟨rbk, 0, none⟩)] w (RetM rbk w h fun v w' _ => ∃ (z : Int) (at2 : Nat), v = .int .i64 z ∧ at2 ≤ zs.length ∧ (-9223372036854775808 ≤ z ∧ z ≤ 9223372036854775807) ∧ Own w' rbk 51 [.slice A zs.length cap, .int .i64 (at2 : Nat)]) := by
  have hmo : UpM [rbk] w h w h := UpM.refl g
  obtain ⟨w0_, h0_, g0_, hs⟩ := St.at_ g ho hj
  replace g := g0_
  refine enter (n := 31) Tryz.func13 rfl rfl (Nat.le_of_ble_eq_true (by kernel_rfl)) [(0, .pointer (some ⟨rbk, 0, none⟩))] rfl ?_
  refine CG.seq ?_
  refine CG.listed ?_
  refine LG.val 2 (.int .i64 0) w (by kernel_rfl) (by kernel_rfl) (by kernel_rfl) ?_
  refine LG.next (by kernel_rfl) ?_
  refine CG.seq ?_
  refine CG.seq ?_
  have hsr := hs
  refine CG.region ⟨[], none⟩ 10 [] mixed (by kernel_rfl) hs.g al_nil (fun _ hb => by cases hb) ?_
  refine Rg.pure 0 3 (.pointer (some ⟨rbk, 0, none⟩)) (by kernel_rfl) (by kernel_rfl) (fun _ => by kernel_rfl) ?_
  refine Rg.pure 1 4 (.pointer (some ⟨rbk, 0, none⟩)) (by kernel_rfl) (by kernel_rfl) (fun _ => by kernel_rfl) ?_
  refine Rg.pure 2 5 (.pointer (some ⟨rbk, 1, none⟩)) (by kernel_rfl) (by kernel_rfl) (fun _ => by kernel_rfl) ?_
  refine Rg.own 3 6 [(0, 1, 1)] (.int .i64 (at_ : Nat)) hs (by kernel_rfl) (by kernel_rfl) (fun _ _ => List.not_mem_nil) (by kernel_rfl) (by kernel_rfl) ?_
  refine Rg.pure 4 7 (.pointer (some ⟨rbk, 0, none⟩)) (by kernel_rfl) (by kernel_rfl) (fun _ => by kernel_rfl) ?_
  refine Rg.pure 5 8 (.pointer (some ⟨rbk, 0, none⟩)) (by kernel_rfl) (by kernel_rfl) (fun _ => by kernel_rfl) ?_
  refine Rg.pure 6 9 (.pointer (some ⟨rbk, 0, none⟩)) (by kernel_rfl) (by kernel_rfl) (fun _ => by kernel_rfl) ?_
  refine Rg.own 7 10 [(0, 0, 1)] (.slice A zs.length cap) hs (by kernel_rfl) (by kernel_rfl) (fun _ _ => List.not_mem_nil) (by kernel_rfl) (by kernel_rfl) ?_
  refine Rg.pure 8 11 (.int .i64 (zs.length : Nat)) (by kernel_rfl) (by kernel_rfl) (fun _ => by kernel_rfl) ?_
  cases hb1 : (decide (((zs.length : Nat) : Int) ≤ ((at_ : Nat) : Int)))
  ·
    have phb1 := of_decide_eq_false hb1
    refine Rg.pure 9 12 (.bool false) (by kernel_rfl) (by kernel_rfl) (fun _ => rb (by kernel_rfl) hb1) ?_
    refine Rg.fin0 (by kernel_rfl) (fun w2 h3 u4 => ?_)
    replace hs := hs.step u4
    replace hA := hA.gw u4.gr.gw
    replace hmo := hmo.trans (u4.m _)
    refine T.next (by kernel_rfl) ?_
    refine CG.to [(0, .pointer (some ⟨rbk, 0, none⟩)), (2, .int .i64 0), (12, .bool false)] (by kernel_rfl) ?_
    refine CG.condF (by kernel_rfl) (by kernel_rfl) ?_
    refine CG.skipN ?_
    refine CG.seq ?_
    refine CG.listed ?_
    refine LG.val 13 (.pointer (some ⟨rbk, 0, none⟩)) w2 (by kernel_rfl) (by kernel_rfl) (by kernel_rfl) ?_
    refine LG.val 14 (.pointer (some ⟨rbk, 0, none⟩)) w2 (by kernel_rfl) (by kernel_rfl) (by kernel_rfl) ?_
    refine LG.val 15 (.pointer (some ⟨rbk, 1, none⟩)) w2 (by kernel_rfl) (by kernel_rfl) (by kernel_rfl) ?_
    refine LG.own 16 [(0, 1, 1)] (.int .i64 (at_ : Nat)) hs (by kernel_rfl) (by kernel_rfl) (by kernel_rfl) (by kernel_rfl) ?_
    refine LG.val 17 (.int .i64 (at_ + 1 : Nat)) w2 (by kernel_rfl) (by kernel_rfl) (rint (ri64 (n := (at_ : Nat) + 1) (by kernel_rfl) (by omega) (by omega)) (by omega)) ?_
    refine LG.val 18 (.pointer (some ⟨rbk, 0, none⟩)) w2 (by kernel_rfl) (by kernel_rfl) (by kernel_rfl) ?_
    refine LG.val 19 (.pointer (some ⟨rbk, 1, none⟩)) w2 (by kernel_rfl) (by kernel_rfl) (by kernel_rfl) ?_
    refine LG.put 0 1 ([.int .i64 (at_ + 1 : Nat)]) hs g (by kernel_rfl) (by kernel_rfl) (by kernel_rfl) (by kernel_rfl) (fun w5 pu hs => ?_)
    replace hmo := hmo.put pu (List.mem_singleton.2 rfl) hs.g
    refine LG.next (by kernel_rfl) ?_
    refine CG.to [(0, .pointer (some ⟨rbk, 0, none⟩)), (2, .int .i64 0)] (by kernel_rfl) ?_
    refine CG.seq ?_
    have hsr := hs
    refine CG.region ⟨[], none⟩ 11 [] mixed (by kernel_rfl) hs.g al_nil (fun _ hb => by cases hb) ?_
    refine Rg.pure 0 20 (.pointer (some ⟨rbk, 0, none⟩)) (by kernel_rfl) (by kernel_rfl) (fun _ => by kernel_rfl) ?_
    refine Rg.pure 1 21 (.pointer (some ⟨rbk, 0, none⟩)) (by kernel_rfl) (by kernel_rfl) (fun _ => by kernel_rfl) ?_
    refine Rg.pure 2 22 (.pointer (some ⟨rbk, 0, none⟩)) (by kernel_rfl) (by kernel_rfl) (fun _ => by kernel_rfl) ?_
    refine Rg.own 3 23 [(0, 0, 1)] (.slice A zs.length cap) hs (by kernel_rfl) (by kernel_rfl) (fun _ _ => List.not_mem_nil) (by kernel_rfl) (by kernel_rfl) ?_
    refine Rg.pure 4 24 (.pointer (some ⟨rbk, 0, none⟩)) (by kernel_rfl) (by kernel_rfl) (fun _ => by kernel_rfl) ?_
    refine Rg.pure 5 25 (.pointer (some ⟨rbk, 0, none⟩)) (by kernel_rfl) (by kernel_rfl) (fun _ => by kernel_rfl) ?_
    refine Rg.pure 6 26 (.pointer (some ⟨rbk, 1, none⟩)) (by kernel_rfl) (by kernel_rfl) (fun _ => by kernel_rfl) ?_
    refine Rg.own 7 27 [(0, 1, 1)] (.int .i64 (at_ + 1 : Nat)) hs (by kernel_rfl) (by kernel_rfl) (fun _ _ => List.not_mem_nil) (by kernel_rfl) (by kernel_rfl) ?_
    refine Rg.pure 8 28 (.int .i64 ((at_ + 1) - 1 : Nat)) (by kernel_rfl) (by kernel_rfl) (fun _ => rint (ri64 (n := (at_ + 1 : Nat) - 1) (by kernel_rfl) (by omega) (by omega)) (by omega)) ?_
    refine Rg.pure 9 29 (.pointer (some ⟨(aB A), aO A + ((at_ + 1) - 1) * 1, none⟩)) (by kernel_rfl) (by kernel_rfl) (fun _ => ixAddr (t := 22) (e := 3) (x := .tmp 23) (ix := .tmp 28) (A := A) (len := zs.length) (cap := cap) (sz := 1) (i := ((at_ + 1) - 1 : Nat)) ((at_ + 1) - 1) (by kernel_rfl) (by kernel_rfl) (by kernel_rfl) (by kernel_rfl) (by kernel_rfl) (hA.ok (by omega)) (by omega) (by omega) _) ?_
    refine Rg.load 10 30 (.int .i64 (zs.getD ((at_ + 1) - 1) 0)) (by kernel_rfl) (by kernel_rfl) (fun _ hx => Seg.run (hA.el ((at_ + 1) - 1) (by omega)) hs.g hx.ext (by kernel_rfl)) ?_
    refine Rg.fin0 (by kernel_rfl) (fun w6 h7 u8 => ?_)
    replace hs := hs.step u8
    replace hA := hA.gw u8.gr.gw
    replace hmo := hmo.trans (u8.m _)
    refine T.val 11 2 (.int .i64 (zs.getD ((at_ + 1) - 1) 0)) w6 (by kernel_rfl) (by kernel_rfl) (by kernel_rfl) ?_
    refine T.next (by kernel_rfl) ?_
    refine CG.to [(2, .int .i64 (zs.getD ((at_ + 1) - 1) 0))] (by kernel_rfl) ?_
    refine CG.ret ?_
    exact retM hs hmo [] (.int .i64 (zs.getD ((at_ + 1) - 1) 0)) (by kernel_rfl) (by kernel_rfl) ⟨zs.getD ((at_ + 1) - 1) 0, (at_ + 1), rfl, by omega, hz _, hs.own _ (List.mem_singleton.2 rfl)⟩
  ·
    have phb1 := of_decide_eq_true hb1
    refine Rg.pure 9 12 (.bool true) (by kernel_rfl) (by kernel_rfl) (fun _ => rb (by kernel_rfl) hb1) ?_
    refine Rg.fin0 (by kernel_rfl) (fun w9 h10 u11 => ?_)
    replace hs := hs.step u11
    replace hA := hA.gw u11.gr.gw
    replace hmo := hmo.trans (u11.m _)
    refine T.next (by kernel_rfl) ?_
    refine CG.to [(0, .pointer (some ⟨rbk, 0, none⟩)), (2, .int .i64 0), (12, .bool true)] (by kernel_rfl) ?_
    refine CG.condT (by kernel_rfl) (by kernel_rfl) ?_
    refine CG.seq ?_
    refine CG.listed ?_
    refine LG.val 2 (.int .i64 0) w9 (by kernel_rfl) (by kernel_rfl) (by kernel_rfl) ?_
    refine LG.next (by kernel_rfl) ?_
    refine CG.ret ?_
    exact retM hs hmo [] (.int .i64 0) (by kernel_rfl) (by kernel_rfl) ⟨0, at_, rfl, by omega, ⟨by decide, by decide⟩, hs.own _ (List.mem_singleton.2 rfl)⟩


/-- The cells ts are the layers ls, of the reference's. -/
structure RNetL (h : Hp) (ts : List LV) (ls : List Lay) : Prop where
  len : ts.length = ls.length
  at_ : ∀ i, i < ls.length → (ts.getD i lvd).1 = (ls.getD i lay0).k ∧ (∃ A c, ∃ us : List Value, (ts.getD i lvd).2.1 = .slice A us.length c ∧ us.length ≤ c ∧ SlO 1 vc undef h A us ∧ RVs h us (ls.getD i lay0).W) ∧
    (∃ A c, ∃ rs : List RT, (ts.getD i lvd).2.2 = .slice A rs.length c ∧ rs.length ≤ c ∧ SlO 3 rqc rqd h A rs ∧ RTs h rs (ls.getD i lay0).B)
theorem RNetL.gw {h h' : Hp} {ts : List LV} {ls : List Lay} (r : RNetL h ts ls) (u : Gw h h') : RNetL h' ts ls := ⟨r.len, fun i hi => by
  obtain ⟨h1, ⟨A, c, us, h2, h3, h4, h5⟩, ⟨D, e, rs, g2, g3, g4, g5⟩⟩ := r.at_ i hi
  exact ⟨h1, ⟨A, c, us, h2, h3, h4.gw u, h5.gw u⟩, ⟨D, e, rs, g2, g3, g4.gw u, g5.gw u⟩⟩⟩
theorem NetL.nil {h : Hp} : NetL h [] [] := ⟨rfl, fun i hi => by simp at hi⟩
theorem RNetL.nil {h : Hp} : RNetL h [] [] := ⟨rfl, fun i hi => by simp at hi⟩
theorem NetL.snoc {h : Hp} {ts : List LV} {ls : List Lay} (r : NetL h ts ls) {t : LV} {L : Lay} (hx : t.1 = L.k ∧ (∃ A c, ∃ us : List Value, t.2.1 = .slice A us.length c ∧ us.length ≤ c ∧ SlO 1 vc undef h A us ∧ QVs h us L.W) ∧ SlV 5 qc 0 h t.2.2 L.B) : NetL h (ts ++ [t]) (ls ++ [L]) := by
  refine ⟨by simp [r.len], fun i hi => ?_⟩
  rw [getD_snoc, getD_snoc, r.len]
  split
  · rename_i h1; exact r.at_ i h1
  · rename_i h1
    have : i = ls.length := by simp at hi; omega
    rw [if_pos this, if_pos this]; exact hx
theorem RNetL.snoc {h : Hp} {ts : List LV} {ls : List Lay} (r : RNetL h ts ls) {t : LV} {L : Lay} (hx : t.1 = L.k ∧ (∃ A c, ∃ us : List Value, t.2.1 = .slice A us.length c ∧ us.length ≤ c ∧ SlO 1 vc undef h A us ∧ RVs h us L.W) ∧
    (∃ A c, ∃ rs : List RT, t.2.2 = .slice A rs.length c ∧ rs.length ≤ c ∧ SlO 3 rqc rqd h A rs ∧ RTs h rs L.B)) : RNetL h (ts ++ [t]) (ls ++ [L]) := by
  refine ⟨by simp [r.len], fun i hi => ?_⟩
  rw [getD_snoc, getD_snoc, r.len]
  split
  · rename_i h1; exact r.at_ i h1
  · rename_i h1
    have : i = ls.length := by simp at hi; omega
    rw [if_pos this, if_pos this]; exact hx
/-- The numbers of a layer can be carried over. -/
structure LayFit (L : Lay) : Prop where
  rl : L.W.length ≤ 1000000
  rls : ∀ i, i < L.W.length → (L.W.getD i []).length ≤ 1000000
  rf : ∀ i, i < L.W.length → ∀ j, j < (L.W.getD i []).length → Fit ((L.W.getD i []).getD j 0)
  bl : L.B.length ≤ 1000000
  bf : ∀ i, i < L.B.length → Fit (L.B.getD i 0)

end Go.Proofs.YtmkonbkdjmfjhaaGreatDoor
