/- law30.NetStays answers true. -/
import Derived.Test.YtbhpcpkcjgkcpaaGreatDoorNsC
import Derived.Test.YtbhpcpkcjgkcpaaGreatDoorStr
namespace Go.Proofs.YtbhpcpkcjgkcpaaGreatDoor
open Go.RowKit


/-- A block of fractions of the zone. -/
def Q5 (Y : List Bx) (b : Nat) : Prop := ∃ cs, (⟨b, 45, cs⟩ : Bx) ∈ Y ∧ 5 ≤ cs.length
/-- A net's shape in the zone: layers at b, each with a first row and a B that hold a fraction. -/
def ZnL (Y : List Bx) (cs : List Value) (i : Nat) : Prop := ∃ bW nW cW bB nB cB, cs[0 + i * 3 + 1]? = some (.slice (some ⟨bW, 0, none⟩) nW cW) ∧ 0 < nW ∧ cs[0 + i * 3 + 2]? = some (.slice (some ⟨bB, 0, none⟩) nB cB) ∧ 0 < nB ∧
  (∃ us br nr cr, (⟨bW, 32, us⟩ : Bx) ∈ Y ∧ us[0 + 0 * 1]? = some (.slice (some ⟨br, 0, none⟩) nr cr) ∧ 0 < nr ∧ Q5 Y br) ∧ Q5 Y bB
structure Zn (Y : List Bx) (b n : Nat) : Prop where
  nd : (Y.map (·.b)).Nodup
  ex : ∃ cs, (⟨b, 57, cs⟩ : Bx) ∈ Y ∧ n * 3 ≤ cs.length ∧ ∀ i, i < n → ZnL Y cs i
theorem ne_of_ty {Y : List Bx} (nd : (Y.map (·.b)).Nodup) {b b' : Nat} {t t' : TypeId} {vs vs' : List Value} (h : (⟨b, t, vs⟩ : Bx) ∈ Y) (h' : (⟨b', t', vs'⟩ : Bx) ∈ Y) (ht : t ≠ t') : b ≠ b' := fun e => ht (congrArg Bx.t (nd_eq nd h h' e))
theorem Q5.set {Y : List Bx} (nd : (Y.map (·.b)).Nodup) {b c : Nat} {t : TypeId} {vs vs' : List Value} (h : Q5 Y b) (hc : (⟨c, t, vs⟩ : Bx) ∈ Y) (hl : vs'.length = vs.length) : Q5 (setY Y c vs') b := by
  obtain ⟨cs, h1, h2⟩ := h
  by_cases e : b = c
  · subst e
    have := nd_eq nd h1 hc rfl
    injection this with _ ht hv
    subst ht hv
    exact ⟨vs', setY_eq h1, by omega⟩
  · exact ⟨cs, setY_ne h1 e, h2⟩
theorem ZnL.set {Y : List Bx} (nd : (Y.map (·.b)).Nodup) {cs cs' : List Value} {i c : Nat} {t : TypeId} {vs vs' : List Value} (h : ZnL Y cs i) (hc : (⟨c, t, vs⟩ : Bx) ∈ Y) (ht : t ≠ 32) (hl : vs'.length = vs.length) (h1 : cs'[0 + i * 3 + 1]? = cs[0 + i * 3 + 1]?) (h2 : cs'[0 + i * 3 + 2]? = cs[0 + i * 3 + 2]?) : ZnL (setY Y c vs') cs' i := by
  obtain ⟨bW, nW, cW, bB, nB, cB, e1, p1, e2, p2, ⟨us, br, nr, cr, m1, e3, p3, q5⟩, q6⟩ := h
  exact ⟨bW, nW, cW, bB, nB, cB, h1.trans e1, p1, h2.trans e2, p2, ⟨us, br, nr, cr, setY_ne m1 (ne_of_ty nd m1 hc (Ne.symm ht)), e3, p3, q5.set nd hc hl⟩, q6.set nd hc hl⟩
theorem Zn.kind {Y : List Bx} {b n : Nat} (z : Zn Y b n) {cs : List Value} (hcs : (⟨b, 57, cs⟩ : Bx) ∈ Y) (k : Nat) (hk : k < n) (hl : n * 3 ≤ cs.length) (hat : ∀ i, i < n → ZnL Y cs i) (v : Value) : Zn (setY Y b (putAt cs (0 + k * 3) [v])) b n := by
  refine ⟨by rw [setY_b]; exact z.nd, _, setY_eq hcs, by rw [putAt_len]; exact hl, fun i hi => (hat i hi).set z.nd hcs (by decide) (putAt_len _ _ _) ?_ ?_⟩
  · show (cs.set (0 + k * 3) v)[_]? = _; rw [List.getElem?_set_ne (by omega)]
  · show (cs.set (0 + k * 3) v)[_]? = _; rw [List.getElem?_set_ne (by omega)]
theorem Zn.putq {Y : List Bx} {b n : Nat} (z : Zn Y b n) {c : Nat} {cs cs' : List Value} (hcs : (⟨c, 45, cs⟩ : Bx) ∈ Y) (_h5 : 5 ≤ cs.length) (hl : cs'.length = cs.length) : Zn (setY Y c cs') b n := by
  obtain ⟨ls, h1, h2, h3⟩ := z.ex
  exact ⟨by rw [setY_b]; exact z.nd, ls, setY_ne h1 (ne_of_ty z.nd h1 hcs (by decide)), h2, fun i hi => (h3 i hi).set z.nd hcs (by decide) hl rfl rfl⟩
theorem SlN.q5 {K : Nat} {h : Hp} {Y : List Bx} {v : Value} {l : List Rat} (hmem : ∀ b t vs, Nw K h b t vs → t ∈ [57, 32, 45] → (⟨b, t, vs⟩ : Bx) ∈ Y) (x : SlN K 45 qc h v l) (hl : 0 < l.length) : ∃ b n c, v = .slice (some ⟨b, 0, none⟩) n c ∧ 0 < n ∧ Q5 Y b := by
  obtain ⟨b, c, sp, e, _, nw⟩ := x
  refine ⟨b, _, c, e, hl, _, hmem _ _ _ nw (by decide), ?_⟩
  rw [List.length_append, len_flat (sz := 5) (fun _ => rfl)]; omega
theorem flat_cell {l : List LV} {sp : List Value} {i : Nat} (h : i < l.length) (j : Nat) (hj : j < 3) : (l.flatMap lvc ++ sp)[0 + i * 3 + j]? = (lvc (l.getD i lvd))[j]? := by
  have hlen : (l.flatMap lvc).length = l.length * 3 := len_flat (f := lvc) (sz := 3) (fun _ => rfl) l
  rw [List.getElem?_append_left (by omega), ← drop_flat (f := lvc) (sz := 3) (fun _ => rfl) lvd l i h, List.getElem?_take_of_lt hj, List.getElem?_drop]
  congr 1; omega
theorem zn_of {K : Nat} {h : Hp} {Y : List Bx} {bL : Nat} {sp : List Value} {us : List LV} {zs : List Lay} {d : Nat → Nat} (nd : (Y.map (·.b)).Nodup) (hmem : ∀ b t vs, Nw K h b t vs → t ∈ [57, 32, 45] → (⟨b, t, vs⟩ : Bx) ∈ Y) (hL : Nw K h bL 57 (us.flatMap lvc ++ sp)) (hN : NNew K h us zs) (o : Net3 zs d) : Zn Y bL us.length := by
  refine ⟨nd, _, hmem _ _ _ hL (by decide), ?_, fun i hi => ?_⟩
  · rw [List.length_append, len_flat (sz := 3) (fun _ => rfl)]; omega
  · have hl := hN.len
    obtain ⟨_, ⟨vs, hW, hvl, hQ⟩, hB⟩ := hN.at_ i (by omega)
    obtain ⟨m, hb, _, _⟩ := o.lay i (by omega)
    have hr := m.rows
    have hp := m.rpos
    have hcp := m.cpos
    obtain ⟨bB, nB, cB, eB, pB, qB⟩ := hB.q5 hmem (by omega)
    obtain ⟨br, nr, cr, er, pr, qr⟩ := (hQ 0 (by omega)).q5 hmem (by rw [m.row 0 hp]; exact hcp)
    obtain ⟨bW, cW, spW, eW, _, nW⟩ := hW
    refine ⟨bW, vs.length, cW, bB, nB, cB, ?_, by omega, ?_, pB, ⟨_, br, nr, cr, hmem _ _ _ nW (by decide), ?_, pr, qr⟩, qB⟩
    · rw [flat_cell hi 1 (by omega), ← eW]; rfl
    · rw [flat_cell hi 2 (by omega), ← eB]; rfl
    · have h0 : 0 < vs.length := by omega
      cases vs with
      | nil => simp at h0
      | cons v vs => simp only [List.getD_cons_zero] at er; rw [← er]; rfl
theorem NetMk.net3 {ls : List Lay} {i m o kd : Int} (h : NetMk ls (netSizes i m o) kd) : Net3 ls (fun k => (netSizes i m o).getD k 0) := by
  have hl := h.len
  refine ⟨by rcases sizes_len i m o with e | e <;> omega, by have := sizes_le i m o 0; omega, fun k hk => ?_⟩
  have L := h.lay k hk
  have h2 := sizes_le i m o (k + 1)
  refine ⟨⟨L.rows, sizes_pos i m o _ (by omega), sizes_pos i m o _ (by omega), fun r hr => (L.row _ (getD_mem (by rw [L.rows]; exact hr))).1⟩, L.bl, by omega, ?_⟩
  have := L.k
  have hp := pick_lt (kindAt kd k) 3 (by omega)
  omega

set_option maxRecDepth 100000 in
set_option maxHeartbeats 600000 in
theorem lStays (A0 : Option Addr) (c0 : Nat) (zl : List Int) (i_ m_ o_ kd : Int) (hl0 : zl.length ≤ 9223372036854775807) (hz0 : I64s zl) (hkd : -9223372036854775808 ≤ kd ∧ kd ≤ 9223372036854775807) (w : World) (h : Hp) (g : G w h) (hA0 : SlO 1 i64c 0 h A0 zl) :
    Calls Tryz.prog 4 #[.slice A0 zl.length c0, .int .i64 i_, .int .i64 m_, .int .i64 o_, .int .i64 kd] w (Ret w h fun v _ => v = .bool true) := by
  have hs := SS.start g
  replace hs := (hs.a_SlO hA0)
  refine go Tryz.func4 [(0, .slice A0 zl.length c0), (1, .int .i64 i_), (2, .int .i64 m_), (3, .int .i64 o_), (4, .int .i64 kd)] rfl ?_
  refine cSL ?_
  refine lS hs [(10, .bool false, [])] ?_
  refine lN ?_
  refine cSL ?_
  refine lS hs [(16, .slice A0 zl.length c0, []), (17, .int .i64 i_, []), (18, .int .i64 m_, []), (19, .int .i64 o_, []), (20, .int .i64 kd, [])] ?_
  refine lC 21 hs (mNet A0 c0 zl hl0 hz0 i_ m_ o_ kd hkd _ _ hs.g (hs.f.1)) ?_
  rintro _ w1 h2 hs ⟨An, cn, uo, ls, rfl, hcn, hAn, hNr, hln, hMk0⟩
  replace hs := ((hs.a_SlO hAn).add (K := fun h_ => RNetL h_ uo ls) hNr)
  have hMk : NetMk ls (netSizes i_ m_ o_) kd := ⟨hln, hMk0⟩
  have hl3 : ls.length ≤ 2 := by rcases sizes_len i_ m_ o_ with e | e <;> omega
  have hluo := (hs.f.1).len
  refine lA 11 29 ([.slice none 0 0]) hs (fun b3 w4 h5 hs => ?_)
  refine lP 0 0 ([.slice An uo.length cn]) hs (fun w6 hs => ?_)
  refine lN ?_
  refine cSL ?_
  refine lS hs [(22, .agg #[.slice An uo.length cn], [(0, 0, 1)])] ?_
  refine lC 23 hs (mInNet An cn uo ls (by omega) hMk.fit _ _ hs.g (hs.f.2.1) (hs.f.1)) ?_
  rintro _ w7 h8 hs ⟨Ap, cp, up, rfl, hcp, hAp, hN⟩
  replace hs := ((hs.a_SlO hAp).add (K := fun h_ => NetL h_ up ls) hN)
  refine lA 12 25 ([.slice none 0 0]) hs (fun b9 w10 h11 hs => ?_)
  refine lP 0 0 ([.slice Ap up.length cp]) hs (fun w12 hs => ?_)
  refine lN ?_
  refine cTo [(10, .bool false), (11, .pointer (some ⟨b3, 0, none⟩)), (12, .pointer (some ⟨b9, 0, none⟩))] ?_
  refine CG.seq ?_
  have hsr := hs
  refine cR 8 [⟨7, 13, .cells (List.toArray [.slice none 0 0]) 25 (0, 0)⟩] mixed hs (al_cons (alOk (by kernel_rfl) (fun _ _ => by kernel_rfl)) al_nil) ?_
  have hR := hs
  replace hs := hs.add (K := fun h_ => Gw h11 h_) (Gw.refl _)
  refine eO 0 25 [(0, 0, 1)] (.agg #[.slice Ap up.length cp]) hs ?_
  refine eO 1 26 [(0, 0, 1)] (.agg #[.slice Ap up.length cp]) hs ?_
  refine eC 2 27 hs (fun _ _ hs => nFlat Ap cp up ls (fun k => (netSizes i_ m_ o_).getD k 0) hMk.net3 _ _ hs.g (hs.f.2.2.1) (hs.f.2.1)) ?_
  rintro _ _ _ w13 h14 hs ⟨bq, cq, spq, rfl, hcq, hNq⟩
  replace hNq := SlO.of_flat (sz := 5) (f := qc) (d := 0) (fun _ => rfl) hNq.seg
  replace hs := (hs.a_SlO hNq)
  refine eC 3 28 hs (fun _ _ hs => nWithK h11.size Ap cp up ls (fun k => (netSizes i_ m_ o_).getD k 0) hMk.net3 (some ⟨bq, 0, none⟩) cq (flatq ls) rfl hcq _ _ hs.g (hs.f.2.2.2.1) (hs.f.2.2.1) (hs.f.1) (hs.f.2.1).size) ?_
  rintro _ _ _ w15 h16 hs ⟨zs, hz0, hz1, hz2, hz3, bL, cL, sp, us, rfl, hcL, hLN, hNN⟩
  replace hs := ((hs.add (K := fun h_ => Nw h11.size h_ bL 57 (us.flatMap lvc ++ sp)) hLN).add (K := fun h_ => NNew h11.size h_ us zs) hNN)
  have hlus := (hs.f.1).len
  refine eV 4 24 (.tuple #[.agg #[.slice (some ⟨bL, 0, none⟩) us.length cL], .int .i64 0]) ?_
  refine eV 5 29 (.agg #[.slice (some ⟨bL, 0, none⟩) us.length cL]) ?_
  refine eV 6 30 (.int .i64 0) ?_
  refine eD1p [] hsr hs 25 [.slice none 0 0] (fun w17 h18 b19 hs => ?_)
  refine tP 8 0 0 ([.slice (some ⟨bL, 0, none⟩) us.length cL]) hs (fun w20 hs => ?_)
  refine tV 9 14 (.int .i64 0) ?_
  refine tN ?_
  refine CG.seq ?_
  refine cSL ?_
  have hLN_ := (hs.f.2.1)
  have hNN_ := (hs.f.1)
  obtain ⟨Y, hy, hs, hmem, hnd⟩ := hs.retake h11 [57, 32, 45] hR.f hR.mo (hs.f.2.2.2.1) hR.st.sz
  replace hs := hs.to ([⟨b19, 25, [.slice (some ⟨bL, 0, none⟩) us.length cL]⟩, ⟨b9, 25, [.slice Ap up.length cp]⟩, ⟨b3, 29, [.slice An uo.length cn]⟩] ++ Y) []
  have hZ : Zn Y bL us.length := zn_of hnd hmem hLN_ hNN_ hz1
  refine lS hs [(31, .int .i64 0, []), (32, .bool false, []), (33, .bool false, []), (34, .pointer (some ⟨b19, 0, none⟩), []), (35, .slice (some ⟨bL, 0, none⟩) us.length cL, [(0, 0, 1)]), (36, .int .i64 (us.length : Nat), []), (37, .pointer (some ⟨b3, 0, none⟩), []), (38, .slice An uo.length cn, [(2, 0, 1)]), (39, .int .i64 (uo.length : Nat), [])] ?_
  have hb21 : (((us.length : Nat) : Int) != ((uo.length : Nat) : Int)) = false := bneF (by omega)
  have phb21 := eqOfBne hb21
  refine lB 40 hb21 ?_
  refine lS hs [(41, .bool false, [])] ?_
  refine lN ?_
  refine cTo [(10, .bool false), (11, .pointer (some ⟨b3, 0, none⟩)), (12, .pointer (some ⟨b9, 0, none⟩)), (13, .pointer (some ⟨b19, 0, none⟩)), (41, .bool false)] ?_
  refine cIF ?_
  refine CG.skipN ?_
  refine CG.seq ?_
  refine cSL ?_
  refine lS hs [(15, .int .i64 0, [])] ?_
  refine lN ?_
  refine CG.block ?_
  refine cTo [(10, .bool false), (11, .pointer (some ⟨b3, 0, none⟩)), (12, .pointer (some ⟨b9, 0, none⟩)), (13, .pointer (some ⟨b19, 0, none⟩)), (15, .int .i64 0)] ?_
  refine CG.loop (fun μ_ Γ w_ => ∃ (k : Nat) (Y : List Bx) (h_ : Hp), μ_ = us.length - k ∧ Γ = [(10, .bool false), (11, .pointer (some ⟨b3, 0, none⟩)), (12, .pointer (some ⟨b9, 0, none⟩)), (13, .pointer (some ⟨b19, 0, none⟩)), (15, .int .i64 (k : Nat))] ∧ SS w h w_ h_ ([⟨b19, 25, [.slice (some ⟨bL, 0, none⟩) us.length cL]⟩, ⟨b9, 25, [.slice Ap up.length cp]⟩, ⟨b3, 29, [.slice An uo.length cn]⟩] ++ Y) [] [fun h_ => NetL h_ up ls, fun h_ => SlO 3 lvc lvd h_ Ap up, fun h_ => RNetL h_ uo ls, fun h_ => SlO 3 lvc lvd h_ An uo, fun h_ => SlO 1 i64c 0 h_ A0 zl] ∧ (k ≤ us.length) ∧ (Zn Y bL us.length)) _ ⟨0, Y, hy, rfl, rfl, hs.to _ _, Nat.zero_le _, hZ⟩ ?_
  rintro _ _ w22 ⟨k, Y, h23, hm24, rfl, hs, hk, hZ⟩
  refine CG.seq ?_
  refine cSL ?_
  refine lS hs [(42, .int .i64 (k : Nat), []), (43, .pointer (some ⟨b19, 0, none⟩), []), (44, .slice (some ⟨bL, 0, none⟩) us.length cL, [(0, 0, 1)]), (45, .int .i64 (us.length : Nat), [])] ?_
  cases hb25 : (decide (((k : Nat) : Int) < ((us.length : Nat) : Int)))
  ·
    have phb25 := of_decide_eq_false hb25
    refine lB 46 hb25 ?_
    refine lN ?_
    refine cIF ?_
    refine CG.exit ?_
    show CG _ _ _ _ _ _ _ _
    refine cSL ?_
    refine lC 72 hs (lKnown _ _ hs.g) ?_
    rintro _ w26 h27 hs rfl
    refine lS hs [(73, .bool true, []), (74, .agg #[.slice Ap up.length cp], [(1, 0, 1)]), (75, .agg #[.slice An uo.length cn], [(2, 0, 1)])] ?_
    refine lC 76 hs (mSameNet Ap cp up An cn uo ls (by omega) hMk.fit _ _ hs.g (hs.f.2.1) (hs.f.1) (hs.f.2.2.2.1) (hs.f.2.2.1)) ?_
    rintro _ w28 h29 hs rfl
    refine lS hs [(77, .bool true, []), (10, .bool true, [])] ?_
    refine lN ?_
    refine cTo [(10, .bool true)] ?_
    refine CG.ret ?_
    exact hs.ret [] (.bool true) rfl
  ·
    have phb25 := of_decide_eq_true hb25
    refine lB 46 hb25 ?_
    refine lN ?_
    refine cIT ?_
    refine CG.skipN ?_
    refine CG.seq ?_
    refine CG.block ?_
    refine cSL ?_
    refine lS hs [(49, .pointer (some ⟨b19, 0, none⟩), []), (50, .slice (some ⟨bL, 0, none⟩) us.length cL, [(0, 0, 1)]), (51, .int .i64 (k : Nat), [])] ?_
    refine lX 52 (some ⟨bL, 0, none⟩) us.length cL 3 (k : Nat) k rfl ?_
    refine lS hs [(53, .pointer (some ⟨bL, 0 + k * 3, none⟩), [])] ?_
    obtain ⟨cs1, hcs1, hcl1, hat1⟩ := hZ.ex
    refine lPZx (Zp := fun Y => Zn Y bL us.length) (Y := Y) (B := [⟨b19, 25, [.slice (some ⟨bL, 0, none⟩) us.length cL]⟩, ⟨b9, 25, [.slice Ap up.length cp]⟩, ⟨b3, 29, [.slice An uo.length cn]⟩]) (0 + k * 3) [.int .i64 9] hs hcs1 (by show 0 + k * 3 + 1 ≤ _; omega) (hZ.kind hcs1 k (by omega) hcl1 hat1 _) (fun Y30 w31 hs hZ => ?_)
    refine lN ?_
    refine CG.seq ?_
    refine cR 9 [] mixed hs al_nil ?_
    refine eV 0 54 (.pointer (some ⟨b19, 0, none⟩)) ?_
    refine eO 1 55 [(0, 0, 1)] (.slice (some ⟨bL, 0, none⟩) us.length cL) hs ?_
    refine eV 2 56 (.int .i64 (k : Nat)) ?_
    refine eX 3 57 (some ⟨bL, 0, none⟩) us.length cL 3 (k : Nat) k rfl ?_
    refine eV 4 58 (.pointer (some ⟨bL, 0 + k * 3 + 1, none⟩)) ?_
    obtain ⟨csa, hcsa, hcla, hata⟩ := hZ.ex
    obtain ⟨bWa, nWa, cWa, bBa, nBa, cBa, e1a, p1a, e2a, p2a, ⟨vsa, bra, nra, cra, m1a, e3a, p3a, q5a⟩, q6a⟩ := hata k (by omega)
    refine eZ 5 59 (.slice (some ⟨bWa, 0, none⟩) nWa cWa) [.slice (some ⟨bWa, 0, none⟩) nWa cWa] (o := 0 + k * 3 + 1) hs (List.mem_append_right _ hcsa) (cell1 e1a) ?_
    refine eX 6 60 (some ⟨bWa, 0, none⟩) nWa cWa 1 0 0 rfl ?_
    refine eZ 7 61 (.slice (some ⟨bra, 0, none⟩) nra cra) [.slice (some ⟨bra, 0, none⟩) nra cra] (o := 0 + 0 * 1) hs (List.mem_append_right _ m1a) (cell1 e3a) ?_
    refine eC 8 62 hs (fun _ _ hs => Ret.of_ext hs.g (cOf (77) (by decide) (by decide) _)) ?_
    rintro _ _ _ w32 h33 hs rfl
    refine eD0 hs (fun w34 h35 hs => ?_)
    refine tX 9 63 (some ⟨bra, 0, none⟩) nra cra 5 0 0 rfl ?_
    obtain ⟨cq77, mq77, lq77⟩ := q5a
    refine tPZx (Zp := fun Y => Zn Y bL us.length) (Y := Y30) (B := [⟨b19, 25, [.slice (some ⟨bL, 0, none⟩) us.length cL]⟩, ⟨b9, 25, [.slice Ap up.length cp]⟩, ⟨b3, 29, [.slice An uo.length cn]⟩]) 10 (0 + 0 * 5) (qc ((77 : Int) : Rat)) hs mq77 (by show 0 + 0 * 5 + 5 ≤ _; omega) (hZ.putq mq77 lq77 (putAt_len _ _ _)) (fun Y36 w37 hs hZ => ?_)
    refine tN ?_
    refine cTo [(10, .bool false), (11, .pointer (some ⟨b3, 0, none⟩)), (12, .pointer (some ⟨b9, 0, none⟩)), (13, .pointer (some ⟨b19, 0, none⟩)), (15, .int .i64 (k : Nat))] ?_
    refine cR 7 [] mixed hs al_nil ?_
    refine eV 0 64 (.pointer (some ⟨b19, 0, none⟩)) ?_
    refine eO 1 65 [(0, 0, 1)] (.slice (some ⟨bL, 0, none⟩) us.length cL) hs ?_
    refine eV 2 66 (.int .i64 (k : Nat)) ?_
    refine eX 3 67 (some ⟨bL, 0, none⟩) us.length cL 3 (k : Nat) k rfl ?_
    refine eV 4 68 (.pointer (some ⟨bL, 0 + k * 3 + 2, none⟩)) ?_
    obtain ⟨csc, hcsc, hclc, hatc⟩ := hZ.ex
    obtain ⟨bWc, nWc, cWc, bBc, nBc, cBc, e1c, p1c, e2c, p2c, ⟨vsc, brc, nrc, crc, m1c, e3c, p3c, q5c⟩, q6c⟩ := hatc k (by omega)
    refine eZ 5 69 (.slice (some ⟨bBc, 0, none⟩) nBc cBc) [.slice (some ⟨bBc, 0, none⟩) nBc cBc] (o := 0 + k * 3 + 2) hs (List.mem_append_right _ hcsc) (cell1 e2c) ?_
    refine eC 6 70 hs (fun _ _ hs => Ret.of_ext hs.g (cOf (78) (by decide) (by decide) _)) ?_
    rintro _ _ _ w38 h39 hs rfl
    refine eD0 hs (fun w40 h41 hs => ?_)
    refine tX 7 71 (some ⟨bBc, 0, none⟩) nBc cBc 5 0 0 rfl ?_
    obtain ⟨cq78, mq78, lq78⟩ := q6c
    refine tPZx (Zp := fun Y => Zn Y bL us.length) (Y := Y36) (B := [⟨b19, 25, [.slice (some ⟨bL, 0, none⟩) us.length cL]⟩, ⟨b9, 25, [.slice Ap up.length cp]⟩, ⟨b3, 29, [.slice An uo.length cn]⟩]) 8 (0 + 0 * 5) (qc ((78 : Int) : Rat)) hs mq78 (by show 0 + 0 * 5 + 5 ≤ _; omega) (hZ.putq mq78 lq78 (putAt_len _ _ _)) (fun Y42 w43 hs hZ => ?_)
    refine tN ?_
    refine CG.listed ?_
    refine lS hs [(47, .int .i64 (k : Nat), [])] ?_
    refine lIn 48 ((k : Nat) + 1) (k + 1) ?_
    refine lS hs [(15, .int .i64 (k + 1 : Nat), [])] ?_
    refine lD ?_
    intro a_ ka
    have q44 : (k + 1) ≤ us.length := by omega
    have q45 : Zn Y42 bL us.length := hZ
    refine ⟨_, _, ?_, ⟨k + 1, Y42, h41, rfl, rfl, hs.to _ _, q44, q45⟩, ka.to [(10, .bool false), (11, .pointer (some ⟨b3, 0, none⟩)), (12, .pointer (some ⟨b9, 0, none⟩)), (13, .pointer (some ⟨b19, 0, none⟩)), (15, .int .i64 ((k + 1) : Nat))] (by kernel_rfl)⟩
    omega

end Go.Proofs.YtbhpcpkcjgkcpaaGreatDoor
