/- Contracts of make's raw.next, InNet, Net. -/
import Derived.Test.YtbhpcpkcjgkcpaaGreatDoorNtC
import Derived.Test.YtbhpcpkcjgkcpaaGreatDoorMod
namespace Go.Proofs.YtbhpcpkcjgkcpaaGreatDoor
open Go.RowKit

set_option maxRecDepth 100000 in
set_option maxHeartbeats 600000 in
theorem rNext (A : Option Addr) (cap : Nat) (zs : List Int) (hl : zs.length ≤ 9223372036854775807) (hz : I64s zs) (rbk at_ : Nat) (ha : at_ ≤ zs.length) (w : World) (h : Hp) (g : G w h) (ho : Own w rbk 99 [.slice A zs.length cap, .int .i64 (at_ : Nat)]) (hj : h[rbk]? = some junk) (hA : SlO 1 i64c 0 h A zs) :
    Calls Tryz.prog 46 #[.pointer (some ⟨rbk, 0, none⟩)] w (RetM rbk w h fun v w' _ => ∃ (z : Int) (at2 : Nat), v = .int .i64 z ∧ at2 ≤ zs.length ∧ (-9223372036854775808 ≤ z ∧ z ≤ 9223372036854775807) ∧ Own w' rbk 99 [.slice A zs.length cap, .int .i64 (at2 : Nat)]) := by
  have hmo : UpM [rbk] w h w h := UpM.refl g
  obtain ⟨w0_, h0_, g0_, hs⟩ := St.at_ g ho hj
  replace g := g0_
  refine enter (n := 31) Tryz.func46 rfl rfl (Nat.le_of_ble_eq_true (by kernel_rfl)) [(0, .pointer (some ⟨rbk, 0, none⟩))] rfl ?_
  refine CG.seq ?_
  refine CG.listed ?_
  refine LG.val 2 (.int .i64 0) w (by kernel_rfl) (by kernel_rfl) (by kernel_rfl) ?_
  refine LG.next (by kernel_rfl) ?_
  refine CG.seq ?_
  refine CG.seq ?_
  have hsr := hs
  refine CG.region [] 10 [] mixed (by kernel_rfl) hs.g al_nil (fun _ hb => by cases hb) ?_
  refine Rg.pure 0 3 (.pointer (some ⟨rbk, 0, none⟩)) (by kernel_rfl) (by kernel_rfl) (fun _ => by kernel_rfl) ?_
  refine Rg.pure 1 4 (.pointer (some ⟨rbk, 0, none⟩)) (by kernel_rfl) (by kernel_rfl) (fun _ => by kernel_rfl) ?_
  refine Rg.pure 2 5 (.pointer (some ⟨rbk, 1, none⟩)) (by kernel_rfl) (by kernel_rfl) (fun _ => by kernel_rfl) ?_
  refine Rg.own 3 6 [(0, 1, 1)] (.int .i64 (at_ : Nat)) hs (by kernel_rfl) (by kernel_rfl) (fun _ _ => List.not_mem_nil) (by kernel_rfl) (by kernel_rfl) ?_
  refine Rg.pure 4 7 (.pointer (some ⟨rbk, 0, none⟩)) (by kernel_rfl) (by kernel_rfl) (fun _ => by kernel_rfl) ?_
  refine Rg.pure 5 8 (.pointer (some ⟨rbk, 0, none⟩)) (by kernel_rfl) (by kernel_rfl) (fun _ => by kernel_rfl) ?_
  refine Rg.pure 6 9 (.pointer (some ⟨rbk, 0, none⟩)) (by kernel_rfl) (by kernel_rfl) (fun _ => by kernel_rfl) ?_
  refine Rg.own 7 10 [(0, 0, 1)] (.slice A zs.length cap) hs (by kernel_rfl) (by kernel_rfl) (fun _ _ => List.not_mem_nil) (by kernel_rfl) (by kernel_rfl) ?_
  refine Rg.pure 8 11 (.int .i64 (zs.length : Nat)) (by kernel_rfl) (by kernel_rfl) (fun _ => by kernel_rfl) ?_
  cases hb1 : (decide (((zs.length : Nat) : Int) ≤ ((at_ : Nat) : Int)))
  ·
    have phb1 := of_decide_eq_false hb1
    refine Rg.pure 9 12 (.bool false) (by kernel_rfl) (by kernel_rfl) (fun _ => rb (by kernel_rfl) hb1) ?_
    refine Rg.fin0 (by kernel_rfl) (fun w2 h3 u4 => ?_)
    replace hs := hs.step u4
    replace hA := hA.gw u4.gr.gw
    replace hmo := hmo.trans (u4.m _)
    refine T.next (by kernel_rfl) ?_
    refine CG.to [(0, .pointer (some ⟨rbk, 0, none⟩)), (2, .int .i64 0), (12, .bool false)] (by kernel_rfl) ?_
    refine CG.condF (by kernel_rfl) (by kernel_rfl) ?_
    refine CG.skipN ?_
    refine CG.seq ?_
    refine CG.listed ?_
    refine LG.val 13 (.pointer (some ⟨rbk, 0, none⟩)) w2 (by kernel_rfl) (by kernel_rfl) (by kernel_rfl) ?_
    refine LG.val 14 (.pointer (some ⟨rbk, 0, none⟩)) w2 (by kernel_rfl) (by kernel_rfl) (by kernel_rfl) ?_
    refine LG.val 15 (.pointer (some ⟨rbk, 1, none⟩)) w2 (by kernel_rfl) (by kernel_rfl) (by kernel_rfl) ?_
    refine LG.own 16 [(0, 1, 1)] (.int .i64 (at_ : Nat)) hs (by kernel_rfl) (by kernel_rfl) (by kernel_rfl) (by kernel_rfl) ?_
    refine LG.val 17 (.int .i64 (at_ + 1 : Nat)) w2 (by kernel_rfl) (by kernel_rfl) (rint (ri64 (n := (at_ : Nat) + 1) (by kernel_rfl) (by omega) (by omega)) (by omega)) ?_
    refine LG.val 18 (.pointer (some ⟨rbk, 0, none⟩)) w2 (by kernel_rfl) (by kernel_rfl) (by kernel_rfl) ?_
    refine LG.val 19 (.pointer (some ⟨rbk, 1, none⟩)) w2 (by kernel_rfl) (by kernel_rfl) (by kernel_rfl) ?_
    refine LG.put 0 1 ([.int .i64 (at_ + 1 : Nat)]) hs g (by kernel_rfl) (by kernel_rfl) (by kernel_rfl) (by kernel_rfl) (fun w5 pu hs => ?_)
    replace hmo := hmo.put pu (List.mem_singleton.2 rfl) hs.g
    refine LG.next (by kernel_rfl) ?_
    refine CG.to [(0, .pointer (some ⟨rbk, 0, none⟩)), (2, .int .i64 0)] (by kernel_rfl) ?_
    refine CG.seq ?_
    have hsr := hs
    refine CG.region [] 11 [] mixed (by kernel_rfl) hs.g al_nil (fun _ hb => by cases hb) ?_
    refine Rg.pure 0 20 (.pointer (some ⟨rbk, 0, none⟩)) (by kernel_rfl) (by kernel_rfl) (fun _ => by kernel_rfl) ?_
    refine Rg.pure 1 21 (.pointer (some ⟨rbk, 0, none⟩)) (by kernel_rfl) (by kernel_rfl) (fun _ => by kernel_rfl) ?_
    refine Rg.pure 2 22 (.pointer (some ⟨rbk, 0, none⟩)) (by kernel_rfl) (by kernel_rfl) (fun _ => by kernel_rfl) ?_
    refine Rg.own 3 23 [(0, 0, 1)] (.slice A zs.length cap) hs (by kernel_rfl) (by kernel_rfl) (fun _ _ => List.not_mem_nil) (by kernel_rfl) (by kernel_rfl) ?_
    refine Rg.pure 4 24 (.pointer (some ⟨rbk, 0, none⟩)) (by kernel_rfl) (by kernel_rfl) (fun _ => by kernel_rfl) ?_
    refine Rg.pure 5 25 (.pointer (some ⟨rbk, 0, none⟩)) (by kernel_rfl) (by kernel_rfl) (fun _ => by kernel_rfl) ?_
    refine Rg.pure 6 26 (.pointer (some ⟨rbk, 1, none⟩)) (by kernel_rfl) (by kernel_rfl) (fun _ => by kernel_rfl) ?_
    refine Rg.own 7 27 [(0, 1, 1)] (.int .i64 (at_ + 1 : Nat)) hs (by kernel_rfl) (by kernel_rfl) (fun _ _ => List.not_mem_nil) (by kernel_rfl) (by kernel_rfl) ?_
    refine Rg.pure 8 28 (.int .i64 ((at_ + 1) - 1 : Nat)) (by kernel_rfl) (by kernel_rfl) (fun _ => rint (ri64 (n := (at_ + 1 : Nat) - 1) (by kernel_rfl) (by omega) (by omega)) (by omega)) ?_
    refine Rg.pure 9 29 (.pointer (some ⟨(aB A), aO A + ((at_ + 1) - 1) * 1, none⟩)) (by kernel_rfl) (by kernel_rfl) (fun _ => ixAddr (t := 22) (e := 3) (x := .tmp 23) (ix := .tmp 28) (A := A) (len := zs.length) (cap := cap) (sz := 1) (i := ((at_ + 1) - 1 : Nat)) ((at_ + 1) - 1) (by kernel_rfl) (by kernel_rfl) (by kernel_rfl) (by kernel_rfl) (by kernel_rfl) (hA.ok (by omega)) (by omega) (by omega) _) ?_
    refine Rg.load 10 30 (.int .i64 (zs.getD ((at_ + 1) - 1) 0)) (by kernel_rfl) (by kernel_rfl) (fun _ hx => Seg.run (hA.el ((at_ + 1) - 1) (by omega)) hs.g hx.ext (by kernel_rfl)) ?_
    refine Rg.fin0 (by kernel_rfl) (fun w6 h7 u8 => ?_)
    replace hs := hs.step u8
    replace hA := hA.gw u8.gr.gw
    replace hmo := hmo.trans (u8.m _)
    refine T.val 11 2 (.int .i64 (zs.getD ((at_ + 1) - 1) 0)) w6 (by kernel_rfl) (by kernel_rfl) (by kernel_rfl) ?_
    refine T.next (by kernel_rfl) ?_
    refine CG.to [(2, .int .i64 (zs.getD ((at_ + 1) - 1) 0))] (by kernel_rfl) ?_
    refine CG.ret ?_
    exact retM hs hmo [] (.int .i64 (zs.getD ((at_ + 1) - 1) 0)) (by kernel_rfl) (by kernel_rfl) ⟨zs.getD ((at_ + 1) - 1) 0, (at_ + 1), rfl, by omega, hz _, hs.own _ (List.mem_singleton.2 rfl)⟩
  ·
    have phb1 := of_decide_eq_true hb1
    refine Rg.pure 9 12 (.bool true) (by kernel_rfl) (by kernel_rfl) (fun _ => rb (by kernel_rfl) hb1) ?_
    refine Rg.fin0 (by kernel_rfl) (fun w9 h10 u11 => ?_)
    replace hs := hs.step u11
    replace hA := hA.gw u11.gr.gw
    replace hmo := hmo.trans (u11.m _)
    refine T.next (by kernel_rfl) ?_
    refine CG.to [(0, .pointer (some ⟨rbk, 0, none⟩)), (2, .int .i64 0), (12, .bool true)] (by kernel_rfl) ?_
    refine CG.condT (by kernel_rfl) (by kernel_rfl) ?_
    refine CG.seq ?_
    refine CG.listed ?_
    refine LG.val 2 (.int .i64 0) w9 (by kernel_rfl) (by kernel_rfl) (by kernel_rfl) ?_
    refine LG.next (by kernel_rfl) ?_
    refine CG.ret ?_
    exact retM hs hmo [] (.int .i64 0) (by kernel_rfl) (by kernel_rfl) ⟨0, at_, rfl, by omega, ⟨by decide, by decide⟩, hs.own _ (List.mem_singleton.2 rfl)⟩


/-- The cells ts are the layers ls, of the reference's. -/
structure RNetL (h : Hp) (ts : List LV) (ls : List Lay) : Prop where
  len : ts.length = ls.length
  at_ : ∀ i, i < ls.length → (ts.getD i lvd).1 = (ls.getD i lay0).k ∧ (∃ A c, ∃ us : List Value, (ts.getD i lvd).2.1 = .slice A us.length c ∧ us.length ≤ c ∧ SlO 1 vc undef h A us ∧ RVs h us (ls.getD i lay0).W) ∧
    (∃ A c, ∃ rs : List RT, (ts.getD i lvd).2.2 = .slice A rs.length c ∧ rs.length ≤ c ∧ SlO 3 rqc rqd h A rs ∧ RTs h rs (ls.getD i lay0).B)
theorem RNetL.gw {h h' : Hp} {ts : List LV} {ls : List Lay} (r : RNetL h ts ls) (u : Gw h h') : RNetL h' ts ls := ⟨r.len, fun i hi => by
  obtain ⟨h1, ⟨A, c, us, h2, h3, h4, h5⟩, ⟨D, e, rs, g2, g3, g4, g5⟩⟩ := r.at_ i hi
  exact ⟨h1, ⟨A, c, us, h2, h3, h4.gw u, h5.gw u⟩, ⟨D, e, rs, g2, g3, g4.gw u, g5.gw u⟩⟩⟩
theorem NetL.nil {h : Hp} : NetL h [] [] := ⟨rfl, fun i hi => by simp at hi⟩
theorem RNetL.nil {h : Hp} : RNetL h [] [] := ⟨rfl, fun i hi => by simp at hi⟩
theorem NetL.snoc {h : Hp} {ts : List LV} {ls : List Lay} (r : NetL h ts ls) {t : LV} {L : Lay} (hx : t.1 = L.k ∧ (∃ A c, ∃ us : List Value, t.2.1 = .slice A us.length c ∧ us.length ≤ c ∧ SlO 1 vc undef h A us ∧ QVs h us L.W) ∧ SlV 5 qc 0 h t.2.2 L.B) : NetL h (ts ++ [t]) (ls ++ [L]) := by
  refine ⟨by simp [r.len], fun i hi => ?_⟩
  rw [getD_snoc, getD_snoc, r.len]
  split
  · rename_i h1; exact r.at_ i h1
  · rename_i h1
    have : i = ls.length := by simp at hi; omega
    rw [if_pos this, if_pos this]; exact hx
theorem RNetL.snoc {h : Hp} {ts : List LV} {ls : List Lay} (r : RNetL h ts ls) {t : LV} {L : Lay} (hx : t.1 = L.k ∧ (∃ A c, ∃ us : List Value, t.2.1 = .slice A us.length c ∧ us.length ≤ c ∧ SlO 1 vc undef h A us ∧ RVs h us L.W) ∧
    (∃ A c, ∃ rs : List RT, t.2.2 = .slice A rs.length c ∧ rs.length ≤ c ∧ SlO 3 rqc rqd h A rs ∧ RTs h rs L.B)) : RNetL h (ts ++ [t]) (ls ++ [L]) := by
  refine ⟨by simp [r.len], fun i hi => ?_⟩
  rw [getD_snoc, getD_snoc, r.len]
  split
  · rename_i h1; exact r.at_ i h1
  · rename_i h1
    have : i = ls.length := by simp at hi; omega
    rw [if_pos this, if_pos this]; exact hx
/-- The numbers of a layer can be carried over. -/
structure LayFit (L : Lay) : Prop where
  rl : L.W.length ≤ 1000000
  rls : ∀ i, i < L.W.length → (L.W.getD i []).length ≤ 1000000
  rf : ∀ i, i < L.W.length → ∀ j, j < (L.W.getD i []).length → Fit ((L.W.getD i []).getD j 0)
  bl : L.B.length ≤ 1000000
  bf : ∀ i, i < L.B.length → Fit (L.B.getD i 0)

set_option maxRecDepth 100000 in
set_option maxHeartbeats 600000 in
theorem mInNet (A : Option Addr) (cap : Nat) (ts : List LV) (ls : List Lay) (hn : ls.length ≤ 1000000) (hF : ∀ i, i < ls.length → LayFit (ls.getD i lay0)) (w : World) (h : Hp) (g : G w h) (hA : SlO 3 lvc lvd h A ts) (hN : RNetL h ts ls) :
    Calls Tryz.prog 9 #[.agg #[.slice A ts.length cap]] w (Ret w h fun v h => ∃ A c, ∃ us : List LV, v = .agg #[.slice A us.length c] ∧ us.length ≤ c ∧ SlO 3 lvc lvd h A us ∧ NetL h us ls) := by
  have hs := St.start g
  have hl := hN.len
  refine enter (n := 33) Tryz.func9 rfl rfl (Nat.le_of_ble_eq_true (by kernel_rfl)) [(0, .agg #[.slice A ts.length cap])] rfl ?_
  refine CG.seq ?_
  refine CG.listed ?_
  refine LG.var 1 29 ([.slice A ts.length cap]) hs (by kernel_rfl) (by kernel_rfl) (by kernel_rfl) (fun b1 w2 h3 nb_ u4 hs => ?_)
  replace hA := hA.gw u4.gr.gw
  replace hN := hN.gw u4.gr.gw
  refine LG.var 2 25 ([.slice none 0 0]) hs (by kernel_rfl) (by kernel_rfl) (by kernel_rfl) (fun b5 w6 h7 nb_ u8 hs => ?_)
  replace hA := hA.gw u8.gr.gw
  replace hN := hN.gw u8.gr.gw
  refine LG.next (by kernel_rfl) ?_
  refine CG.seq ?_
  refine CG.listed ?_
  refine LG.var 3 25 ([.slice none 0 0]) hs (by kernel_rfl) (by kernel_rfl) (by kernel_rfl) (fun b9 w10 h11 nb_ u12 hs => ?_)
  replace hA := hA.gw u12.gr.gw
  replace hN := hN.gw u12.gr.gw
  refine LG.next (by kernel_rfl) ?_
  refine CG.seq ?_
  refine CG.seq ?_
  refine CG.listed ?_
  refine LG.val 4 (.int .i64 0) w10 (by kernel_rfl) (by kernel_rfl) (by kernel_rfl) ?_
  refine LG.next (by kernel_rfl) ?_
  refine CG.block ?_
  refine CG.to [(1, .pointer (some ⟨b1, 0, none⟩)), (2, .pointer (some ⟨b5, 0, none⟩)), (3, .pointer (some ⟨b9, 0, none⟩)), (4, .int .i64 0)] (by kernel_rfl) ?_
  refine CG.loop (fun μ_ Γ w_ => ∃ (k : Nat) (s : Value) (us : List LV) (h_ : Hp), μ_ = ls.length - k ∧ Γ = [(1, .pointer (some ⟨b1, 0, none⟩)), (2, .pointer (some ⟨b5, 0, none⟩)), (3, .pointer (some ⟨b9, 0, none⟩)), (4, .int .i64 (k : Nat))] ∧ St w h w_ h_ [⟨b9, 25, [s]⟩, ⟨b5, 25, [.slice none 0 0]⟩, ⟨b1, 29, [.slice A ts.length cap]⟩] ∧ (SlO 3 lvc lvd h_ A ts) ∧ (RNetL h_ ts ls) ∧ (k ≤ ls.length) ∧ (NetL h_ us (ls.take k)) ∧ (Gro h [b9, b5, b1] w_ h_ 57 3 s ((us).length) ((us).flatMap lvc))) _ ⟨0, (.slice none 0 0), [], h11, rfl, rfl, hs.to _ (by kernel_rfl), hA, hN, Nat.zero_le _, NetL.nil, Gro.nil⟩ ?_
  rintro _ _ w13 ⟨k, s, us, h14, hm15, rfl, hs, hA, hN, hk, hU, hg⟩
  have hlU := hU.len
  have htk : (ls.take k).length = k := by simp; omega
  -- round
  refine CG.seq ?_
  refine CG.seq ?_
  refine CG.listed ?_
  refine LG.val 6 (.int .i64 (k : Nat)) w13 (by kernel_rfl) (by kernel_rfl) (by kernel_rfl) ?_
  refine LG.val 7 (.pointer (some ⟨b1, 0, none⟩)) w13 (by kernel_rfl) (by kernel_rfl) (by kernel_rfl) ?_
  refine LG.own 8 [(2, 0, 1)] (.slice A ts.length cap) hs (by kernel_rfl) (by kernel_rfl) (by kernel_rfl) (by kernel_rfl) ?_
  refine LG.val 9 (.int .i64 (ts.length : Nat)) w13 (by kernel_rfl) (by kernel_rfl) (by kernel_rfl) ?_
  cases hb16 : (decide (((k : Nat) : Int) < ((ts.length : Nat) : Int)))
  ·
    have phb16 := of_decide_eq_false hb16
    refine LG.val 10 (.bool false) w13 (by kernel_rfl) (by kernel_rfl) (rb (by kernel_rfl) hb16) ?_
    refine LG.next (by kernel_rfl) ?_
    refine CG.condF (by kernel_rfl) (by kernel_rfl) ?_
    refine CG.exit ?_
    show CG _ _ _ _ _ _ _ _
    refine CG.to [(2, .pointer (some ⟨b5, 0, none⟩)), (3, .pointer (some ⟨b9, 0, none⟩))] (by kernel_rfl) ?_
    refine CG.seq ?_
    refine CG.listed ?_
    obtain ⟨a17, n18, c19, rfl⟩ := hg.sl
    obtain ⟨hq20, hs, pw21, po22, hm23, hc24, hz25, sg26⟩ := Gro.pub3 hs hg
    subst hm23
    replace hA := hA.gw pw21
    replace hN := hN.gw pw21
    replace hU := hU.gw pw21
    have hA27 : SlO 3 lvc lvd hq20 a17 (us) := SlO.of_pub (fun _ => rfl) hz25 sg26
    refine LG.own 32 [(0, 0, 1)] (.agg #[.slice a17 ((us).length) c19]) hs (by kernel_rfl) (by kernel_rfl) (by kernel_rfl) (by kernel_rfl) ?_
    refine LG.put 1 0 ([.slice a17 ((us).length) c19]) hs g (by kernel_rfl) (by kernel_rfl) (by kernel_rfl) (by kernel_rfl) (fun w28 pu hs => ?_)
    refine LG.next (by kernel_rfl) ?_
    refine CG.ret ?_
    have hkq : ls.take k = ls := List.take_of_length_le (by omega)
    rw [hkq] at hU
    exact retP hs [(1, 0, 1)] (.agg #[.slice a17 ((us).length) c19]) (by kernel_rfl) (by kernel_rfl) ⟨_, _, us, rfl, hc24, hA27, hU⟩
  ·
    have phb16 := of_decide_eq_true hb16
    refine LG.val 10 (.bool true) w13 (by kernel_rfl) (by kernel_rfl) (rb (by kernel_rfl) hb16) ?_
    refine LG.next (by kernel_rfl) ?_
    refine CG.condT (by kernel_rfl) (by kernel_rfl) ?_
    refine CG.skipN ?_
    refine CG.seq ?_
    refine CG.block ?_
    refine CG.seq ?_
    refine CG.listed ?_
    refine LG.val 13 (.pointer (some ⟨b1, 0, none⟩)) w13 (by kernel_rfl) (by kernel_rfl) (by kernel_rfl) ?_
    refine LG.own 14 [(2, 0, 1)] (.slice A ts.length cap) hs (by kernel_rfl) (by kernel_rfl) (by kernel_rfl) (by kernel_rfl) ?_
    refine LG.val 15 (.int .i64 (k : Nat)) w13 (by kernel_rfl) (by kernel_rfl) (by kernel_rfl) ?_
    refine LG.val 16 (.pointer (some ⟨(aB A), aO A + k * 3, none⟩)) w13 (by kernel_rfl) (by kernel_rfl) (ixAddr (t := 27) (e := 95) (x := .tmp 14) (ix := .tmp 15) (A := A) (len := ts.length) (cap := cap) (sz := 3) (i := (k : Nat)) k (by kernel_rfl) (by kernel_rfl) (by kernel_rfl) (by kernel_rfl) (by kernel_rfl) (hA.ok (by omega)) (by omega) (by omega) _) ?_
    obtain ⟨ekx, ⟨AWx, cWx, usx, eWx, hcWx, hAWx, hTWx⟩, ⟨ABx, cBx, rsx, eBx, hcBx, hABx, hTBx⟩⟩ := hN.at_ k (by omega)
    have hF_ := hF k (by omega)
    refine LG.val 17 (.agg #[.int .i64 ((ls.getD k lay0).k), .slice AWx usx.length cWx, .slice ABx rsx.length cBx]) w13 (by kernel_rfl) (by kernel_rfl) (rval (v := .agg #[.int .i64 ((ts.getD k lvd).1), (ts.getD k lvd).2.1, (ts.getD k lvd).2.2]) (Seg.run (hA.el k (by omega)) hs.g (Ext.refl _) (by kernel_rfl)) (by rw [ekx, eWx, eBx])) ?_
    refine LG.var 5 95 ([.int .i64 0, .slice none 0 0, .slice none 0 0]) hs (by kernel_rfl) (by kernel_rfl) (by kernel_rfl) (fun b29 w30 h31 nb_ u32 hs => ?_)
    replace hg := (hg.up u32).new b29 (fun c hc e => Nat.lt_irrefl c (Nat.lt_of_lt_of_le (hg.lt hc) (by rw [e]; exact nb_)))
    replace hA := hA.gw u32.gr.gw
    replace hN := hN.gw u32.gr.gw
    replace hU := hU.gw u32.gr.gw
    replace hAWx := hAWx.gw u32.gr.gw
    replace hTWx := hTWx.gw u32.gr.gw
    replace hABx := hABx.gw u32.gr.gw
    replace hTBx := hTBx.gw u32.gr.gw
    refine LG.put 0 0 ([.int .i64 ((ls.getD k lay0).k), .slice AWx usx.length cWx, .slice ABx rsx.length cBx]) hs g (by kernel_rfl) (by kernel_rfl) (by kernel_rfl) (by kernel_rfl) (fun w33 pu hs => ?_)
    replace hg := hg.put pu (by simp [bxAt])
    replace hs := hs.to [⟨b29, 95, [.int .i64 ((ls.getD k lay0).k), .slice AWx usx.length cWx, .slice ABx rsx.length cBx]⟩, ⟨b9, 25, [s]⟩, ⟨b5, 25, [.slice none 0 0]⟩, ⟨b1, 29, [.slice A ts.length cap]⟩] (by kernel_rfl)
    refine LG.next (by kernel_rfl) ?_
    refine CG.to [(1, .pointer (some ⟨b1, 0, none⟩)), (2, .pointer (some ⟨b5, 0, none⟩)), (3, .pointer (some ⟨b9, 0, none⟩)), (4, .int .i64 (k : Nat)), (5, .pointer (some ⟨b29, 0, none⟩))] (by kernel_rfl) ?_
    have hsr := hs
    have hg_r := hg
    refine CG.region (s.ownBlock.toList) 13 [] mixed (by kernel_rfl) hs.g al_nil (fun b hb => hg.lt (Option.mem_toList.1 hb)) ?_
    refine Rg.pure 0 18 (.pointer (some ⟨b9, 0, none⟩)) (by kernel_rfl) (by kernel_rfl) (fun _ => by kernel_rfl) ?_
    refine Rg.own 1 19 [(1, 0, 1)] (s) hs (by kernel_rfl) (by kernel_rfl) (fun p hp => by rw [List.mem_singleton] at hp; rw [hp]; exact notM_row hg (by kernel_rfl)) (by kernel_rfl) (by kernel_rfl) ?_
    refine Rg.pure 2 20 (.pointer (some ⟨b29, 0, none⟩)) (by kernel_rfl) (by kernel_rfl) (fun _ => by kernel_rfl) ?_
    refine Rg.own 3 21 [(0, 0, 1)] (.int .i64 ((ls.getD k lay0).k)) hs (by kernel_rfl) (by kernel_rfl) (fun p hp => by rw [List.mem_singleton] at hp; rw [hp]; exact notM_row hg (by kernel_rfl)) (by kernel_rfl) (by kernel_rfl) ?_
    refine Rg.pure 4 22 (.pointer (some ⟨b29, 1, none⟩)) (by kernel_rfl) (by kernel_rfl) (fun _ => by kernel_rfl) ?_
    refine Rg.own 5 23 [(0, 1, 1)] (.slice AWx usx.length cWx) hs (by kernel_rfl) (by kernel_rfl) (fun p hp => by rw [List.mem_singleton] at hp; rw [hp]; exact notM_row hg (by kernel_rfl)) (by kernel_rfl) (by kernel_rfl) ?_
    refine Rg.pure 7 25 (.pointer (some ⟨b29, 2, none⟩)) (by kernel_rfl) (by kernel_rfl) (fun _ => by kernel_rfl) ?_
    refine Rg.own 8 26 [(0, 2, 1)] (.slice ABx rsx.length cBx) hs (by kernel_rfl) (by kernel_rfl) (fun p hp => by rw [List.mem_singleton] at hp; rw [hp]; exact notM_row hg (by kernel_rfl)) (by kernel_rfl) (by kernel_rfl) ?_
    refine Rg.call 6 24 44 #[.slice AWx usx.length cWx] (by kernel_rfl) (by kernel_rfl) (fun _ => by kernel_rfl) (fun w37 h38 u39 => ?_)
    replace hs := hs.step u39
    replace hg := hg.up u39
    replace hA := hA.gw u39.gr.gw
    replace hN := hN.gw u39.gr.gw
    replace hU := hU.gw u39.gr.gw
    replace hAWx := hAWx.gw u39.gr.gw
    replace hTWx := hTWx.gw u39.gr.gw
    replace hABx := hABx.gw u39.gr.gw
    replace hTBx := hTBx.gw u39.gr.gw
    refine (hInRows AWx cWx usx (ls.getD k lay0).W (hF_.rl) (hF_.rls) (hF_.rf) hcWx w37 h38 hs.g hAWx hTWx).mono ?_
    rintro _ w34 ⟨vu36, h35, rfl, u36, ⟨Au, cu, uu, rfl, hcu, hAu, hQu⟩⟩
    refine ⟨_, h35, rfl, u36.m _, ?_⟩
    replace hs := hs.step u36
    replace hg := hg.up u36
    replace hA := hA.gw u36.gr.gw
    replace hN := hN.gw u36.gr.gw
    replace hU := hU.gw u36.gr.gw
    replace hAWx := hAWx.gw u36.gr.gw
    replace hTWx := hTWx.gw u36.gr.gw
    replace hABx := hABx.gw u36.gr.gw
    replace hTBx := hTBx.gw u36.gr.gw
    refine Rg.call 9 27 12 #[.slice ABx rsx.length cBx] (by kernel_rfl) (by kernel_rfl) (fun _ => by kernel_rfl) (fun w43 h44 u45 => ?_)
    replace hs := hs.step u45
    replace hg := hg.up u45
    replace hA := hA.gw u45.gr.gw
    replace hN := hN.gw u45.gr.gw
    replace hU := hU.gw u45.gr.gw
    replace hAWx := hAWx.gw u45.gr.gw
    replace hTWx := hTWx.gw u45.gr.gw
    replace hABx := hABx.gw u45.gr.gw
    replace hTBx := hTBx.gw u45.gr.gw
    replace hAu := hAu.gw u45.gr.gw
    replace hQu := hQu.gw u45.gr.gw
    refine (hInRow ABx cBx rsx (ls.getD k lay0).B hF_.bl hF_.bf hcBx w43 h44 hs.g hABx hTBx).mono ?_
    rintro _ w40 ⟨vu42, h41, rfl, u42, ⟨Ab, cb, rfl, hcb, hAb⟩⟩
    refine ⟨_, h41, rfl, u42.m _, ?_⟩
    replace hs := hs.step u42
    replace hg := hg.up u42
    replace hA := hA.gw u42.gr.gw
    replace hN := hN.gw u42.gr.gw
    replace hU := hU.gw u42.gr.gw
    replace hAWx := hAWx.gw u42.gr.gw
    replace hTWx := hTWx.gw u42.gr.gw
    replace hABx := hABx.gw u42.gr.gw
    replace hTBx := hTBx.gw u42.gr.gw
    replace hAu := hAu.gw u42.gr.gw
    replace hQu := hQu.gw u42.gr.gw
    refine Rg.pure 10 28 (.agg #[.int .i64 ((ls.getD k lay0).k), .slice Au uu.length cu, .slice Ab ((ls.getD k lay0).B.length) cb]) (by kernel_rfl) (by kernel_rfl) (fun _ => by kernel_rfl) ?_
    refine Rg.row 11 29 57 1 ([.int .i64 ((ls.getD k lay0).k), .slice Au uu.length cu, .slice Ab ((ls.getD k lay0).B.length) cb]) (by kernel_rfl) (by kernel_rfl) (fun _ => by kernel_rfl) (fun b46 w47 h48 u49 hS50 => ?_)
    replace hs := hs.step u49
    replace hg := hg.up u49
    replace hA := hA.gw u49.gr.gw
    replace hN := hN.gw u49.gr.gw
    replace hU := hU.gw u49.gr.gw
    replace hAWx := hAWx.gw u49.gr.gw
    replace hTWx := hTWx.gw u49.gr.gw
    replace hABx := hABx.gw u49.gr.gw
    replace hTBx := hTBx.gw u49.gr.gw
    replace hAu := hAu.gw u49.gr.gw
    replace hQu := hQu.gw u49.gr.gw
    replace hAb := hAb.gw u49.gr.gw
    refine Rg.app 12 30 (x := .tmp 19) (y := .tmp 29) (ty := 23) (e := 57) (z := .agg #[.int .i64 0, .slice none 0 0, .slice none 0 0]) (sz := 3) (bt := 56) (m := ((us).length)) (m2 := 1) (c := 1) (b := b46) (v := s) (cs := (us).flatMap lvc) (news := [.int .i64 ((ls.getD k lay0).k), .slice Au uu.length cu, .slice Ab ((ls.getD k lay0).B.length) cb]) hs g hg hS50 (fun b hb => by simp [hb]) (by kernel_rfl) (by kernel_rfl) (by kernel_rfl) (by kernel_rfl) (by kernel_rfl) (by kernel_rfl) (by kernel_rfl) (by kernel_rfl) (by decide) (by kernel_rfl) (by kernel_rfl) (by omega) (by omega) (fun w57 h58 u59 s51 w52 h53 gr54 gg55 hl_ hs hg56 => ?_)
    have gr_ := u59.gr.trans gr54
    obtain ⟨s51A, s51n, s51c, rfl⟩ := hg56.sl
    replace hA := hA.gw gr_.gw
    replace hN := hN.gw gr_.gw
    replace hU := hU.gw gr_.gw
    replace hAWx := hAWx.gw gr_.gw
    replace hTWx := hTWx.gw gr_.gw
    replace hABx := hABx.gw gr_.gw
    replace hTBx := hTBx.gw gr_.gw
    replace hAu := hAu.gw gr_.gw
    replace hQu := hQu.gw gr_.gw
    replace hAb := hAb.gw gr_.gw
    replace hS50 := hS50.gw gr_.gw
    replace hg56 := Gro.snoc (l := us) (f := lvc) (x := (((ls.getD k lay0).k, .slice Au uu.length cu, .slice Ab ((ls.getD k lay0).B.length) cb) : LV)) hg56 (by kernel_rfl)
    refine Rg.fin0 (by kernel_rfl) (fun w60 h61 u62 => ?_)
    replace hs := hs.step u62
    replace hg56 := hg56.up u62
    replace hA := hA.gw u62.gr.gw
    replace hN := hN.gw u62.gr.gw
    replace hU := hU.gw u62.gr.gw
    replace hAWx := hAWx.gw u62.gr.gw
    replace hTWx := hTWx.gw u62.gr.gw
    replace hABx := hABx.gw u62.gr.gw
    replace hTBx := hTBx.gw u62.gr.gw
    replace hAu := hAu.gw u62.gr.gw
    replace hQu := hQu.gw u62.gr.gw
    replace hAb := hAb.gw u62.gr.gw
    replace hS50 := hS50.gw u62.gr.gw
    refine T.val 13 31 (.pointer (some ⟨b9, 0, none⟩)) w60 (by kernel_rfl) (by kernel_rfl) (by kernel_rfl) ?_
    refine T.put 14 1 0 ([(.slice s51A s51n s51c)]) hs g (by kernel_rfl) (by kernel_rfl) (by kernel_rfl) (by kernel_rfl) (fun w63 pu hs => ?_)
    replace hg56 := hg56.put pu (by simp [bxAt])
    replace hs := hs.to [⟨b29, 95, [.int .i64 ((ls.getD k lay0).k), .slice AWx usx.length cWx, .slice ABx rsx.length cBx]⟩, ⟨b9, 25, [(.slice s51A s51n s51c)]⟩, ⟨b5, 25, [.slice none 0 0]⟩, ⟨b1, 29, [.slice A ts.length cap]⟩] (by kernel_rfl)
    refine T.next (by kernel_rfl) ?_
    refine CG.to [(1, .pointer (some ⟨b1, 0, none⟩)), (2, .pointer (some ⟨b5, 0, none⟩)), (3, .pointer (some ⟨b9, 0, none⟩)), (4, .int .i64 (k : Nat))] (by kernel_rfl) ?_
    refine CG.listed ?_
    refine LG.val 11 (.int .i64 (k : Nat)) w63 (by kernel_rfl) (by kernel_rfl) (by kernel_rfl) ?_
    refine LG.val 12 (.int .i64 (k + 1 : Nat)) w63 (by kernel_rfl) (by kernel_rfl) (rint (ri64 (n := (k : Nat) + 1) (by kernel_rfl) (by omega) (by omega)) (by omega)) ?_
    refine LG.val 4 (.int .i64 (k + 1 : Nat)) w63 (by kernel_rfl) (by kernel_rfl) (by kernel_rfl) ?_
    refine LG.done (by kernel_rfl) ?_
    intro a_ ka
    replace hs := hs.drop 1
    replace hg56 := hg56.sub [b9, b5, b1] (by simp)
    refine ⟨_, _, ?_, ⟨k + 1, (.slice s51A s51n s51c), us ++ [(((ls.getD k lay0).k, .slice Au uu.length cu, .slice Ab ((ls.getD k lay0).B.length) cb) : LV)], h61, rfl, rfl, hs.to _ (by kernel_rfl), hA, hN, by omega, (by rw [take_snoc' lay0 (by omega)]; exact hU.snoc ⟨rfl, ⟨Au, cu, uu, rfl, hcu, hAu, hQu⟩, ⟨Ab, cb, rfl, hcb, hAb⟩⟩), hg56⟩, ka.to [(1, .pointer (some ⟨b1, 0, none⟩)), (2, .pointer (some ⟨b5, 0, none⟩)), (3, .pointer (some ⟨b9, 0, none⟩)), (4, .int .i64 ((k + 1) : Nat))] (by kernel_rfl)⟩
    omega

end Go.Proofs.YtbhpcpkcjgkcpaaGreatDoor
