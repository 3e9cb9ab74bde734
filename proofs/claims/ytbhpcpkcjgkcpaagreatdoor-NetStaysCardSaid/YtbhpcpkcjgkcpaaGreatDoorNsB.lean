/- Contracts of slices.Clone, net.filled, With. -/
import Derived.Test.YtbhpcpkcjgkcpaaGreatDoorNsA
namespace Go.Proofs.YtbhpcpkcjgkcpaaGreatDoor
open Go.RowKit

set_option maxRecDepth 100000 in
set_option maxHeartbeats 600000 in
theorem sClone0 (b o c : Nat) (l : List Rat) (hpos : 0 < l.length) (hl : l.length ≤ 1000000) (w : World) (h : Hp) (g : G w h) (hA : SlO 5 qc 0 h (some ⟨b, o, none⟩) l) :
    Calls Tryz.prog 110 #[.slice (some ⟨b, o, none⟩) l.length c] w (Ret w h fun v h1 => SlN h.size 45 qc h1 v l) := by
  have hs := SS.start g
  replace hs := (hs.a_SlO hA)
  have hnil : ([] : List Rat).length = 0 := rfl
  refine go Tryz.func110 [(0, .slice (some ⟨b, o, none⟩) l.length c)] rfl ?_
  refine cSL ?_
  refine lS hs [(2, .slice none 0 0, [])] ?_
  refine lN ?_
  refine CG.seq ?_
  refine cSL ?_
  refine lS hs [(3, .slice (some ⟨b, o, none⟩) l.length c, []), (4, .bool false, [])] ?_
  refine lN ?_
  refine cIF ?_
  refine CG.skipN ?_
  refine cSL ?_
  refine lRw 5 45 5 qc ([] : List Rat) hs (fun b1 w2 h3 hs => ?_)
  refine lS hs [(6, .slice (some ⟨b, o, none⟩) l.length c, [])] ?_
  refine lYs 7 0 45 5 ((([] : List Rat)).length) (some ⟨b1, 0, none⟩) ([] : List Rat) qc 0 (some ⟨b, o, none⟩) l c 56 (.agg #[.bool false, .int .u64 0, .string (⟨#[]⟩), .int .u64 0, .string (⟨#[]⟩)]) hs (hs.f.1) (by omega) (fun A6 c7 w8 h9 hs => ?_)
  refine lS hs [(2, .slice A6 (([] : List Rat) ++ l).length c7, [])] ?_
  refine lN ?_
  refine CG.ret ?_
  obtain ⟨hq, bq, spq, hs, hbq, hcq⟩ := hs.pubn 0 (A := A6) (c := c7) (ty := 45) (sz := 5) (l := ([] : List Rat) ++ l) (f := qc) (by simpa using hpos)
  subst hbq
  exact hs.ret [] (.slice (some ⟨bq, 0, none⟩) l.length c7) (⟨bq, _, spq, rfl, hcq, hs.f.1⟩)


theorem sClone (A : Option Addr) (n c : Nat) (l : List Rat) (hn : l.length = n) (hpos : 0 < n) (hl : n ≤ 1000000) (w : World) (h : Hp) (g : G w h) (hA : SlO 5 qc 0 h A l) : Calls Tryz.prog 110 #[.slice A n c] w (Ret w h fun v h1 => SlN h.size 45 qc h1 v l) := by
  subst hn
  have e := hA.ok hpos
  rw [e] at hA ⊢
  exact sClone0 _ _ c l hpos hl w h g hA

set_option maxRecDepth 100000 in
set_option maxHeartbeats 600000 in
theorem nNext (m rb c : Nat) (A : Option Addr) (l : List Rat) (hm0 : 0 < m) (hm : m ≤ l.length) (hl : l.length ≤ 1000000) (hc : l.length ≤ c) (w : World) (h : Hp) (g : G w h) (ho : Own w rb 32 [.slice A l.length c]) (hj : h[rb]? = some junk) (hA : SlO 5 qc 0 h A l) :
    Calls Tryz.prog 109 #[.int .i64 (m : Nat), .pointer (some ⟨rb, 0, none⟩)] w (RetM rb w h fun v w' h1 => SlN h.size 45 qc h1 v (l.take m) ∧ ∃ A2 c2, Own w' rb 32 [.slice A2 (l.drop m).length c2] ∧ (l.drop m).length ≤ c2 ∧ SlO 5 qc 0 h1 A2 (l.drop m)) := by
  have hmo : UpM [rb] w h w h := UpM.refl g
  obtain ⟨wz, hz, hs⟩ := SS.at_ g ho hj
  replace hs := (hs.a_SlO hA)
  refine go Tryz.func109 [(0, .int .i64 (m : Nat)), (1, .pointer (some ⟨rb, 0, none⟩))] rfl ?_
  refine cSL ?_
  refine lS hs [(3, .slice none 0 0, [])] ?_
  refine lN ?_
  refine cSL ?_
  refine lS hs [(5, .slice A l.length c, [(0, 0, 1)]), (6, .int .i64 (m : Nat), [])] ?_
  refine lT 7 A l.length c 5 (m : Nat) m ?_
  have hsz := hmo.gr.size
  refine lCu 8 (sClone A m c (l.take m) (by rw [List.length_take]; omega) hm0 (by omega) _ _ hs.g ((hs.f.1).take m)) ?_
  rintro _ w1 h2 u3 ⟨bq, cq, spq, rfl, hcq, hNq⟩
  replace hmo := hmo.trans (u3.m _)
  replace hs := hs.step u3
  replace hNq := hNq.mono hsz
  replace hs := (hs.add (K := fun h_ => Nw h.size h_ bq 45 ((l.take m).flatMap qc ++ spq)) hNq)
  refine lS hs [(4, .slice (some ⟨bq, 0, none⟩) ((l.take m).length) cq, [])] ?_
  refine lN ?_
  refine cSL ?_
  refine lS hs [(9, .slice A l.length c, [(0, 0, 1)]), (10, .int .i64 (m : Nat), [])] ?_
  refine lF 11 A l.length c 5 (m : Nat) m ?_
  refine lPu 0 0 ([.slice (if c = m then A else A.map (·.add (m * 5))) (l.length - m) (c - m)]) hs (fun w4 pu hs => ?_)
  replace hmo := hmo.put pu (List.mem_singleton.2 rfl) hs.g
  refine lN ?_
  refine cSL ?_
  refine lS hs [(12, .slice (some ⟨bq, 0, none⟩) ((l.take m).length) cq, []), (3, .slice (some ⟨bq, 0, none⟩) ((l.take m).length) cq, [])] ?_
  refine lN ?_
  refine CG.ret ?_
  exact hs.retM hmo [] (.slice (some ⟨bq, 0, none⟩) ((l.take m).length) cq) ⟨⟨bq, cq, spq, rfl, hcq, (hs.f.1)⟩, _, _, by rw [List.length_drop]; exact hs.own 0, by rw [List.length_drop]; omega, (hs.f.2.1).drop m c hc⟩


/-- Rows, a layer, a net, all new. -/
def QNs (K : Nat) (h : Hp) (us : List Value) (W : List (List Rat)) : Prop := ∀ j, j < W.length → SlN K 45 qc h (us.getD j undef) (W.getD j [])
theorem QNs.gw {K : Nat} {h h' : Hp} {us : List Value} {W : List (List Rat)} (x : QNs K h us W) (u : Gw h h') : QNs K h' us W := fun j hj => (x j hj).gw u
theorem QNs.nil {K : Nat} {h : Hp} {us : List Value} : QNs K h us [] := fun j hj => by simp at hj
theorem QNs.snoc {K : Nat} {h : Hp} {us : List Value} {W : List (List Rat)} {v : Value} {l : List Rat} {i : Nat} (x : QNs K h us W) (hi : W.length = i) (hl : i < us.length) (hv : SlN K 45 qc h v l) : QNs K h (us.set i v) (W ++ [l]) := by
  subst hi
  intro j hj
  rw [List.length_append, List.length_singleton] at hj
  rw [getD_snoc]
  by_cases e : j = W.length
  · subst e
    rw [if_neg (by omega), if_pos rfl, List.getD_eq_getElem?_getD, List.getElem?_set_self hl]
    exact hv
  · rw [if_pos (by omega), List.getD_eq_getElem?_getD, List.getElem?_set_ne (Ne.symm e), ← List.getD_eq_getElem?_getD]
    exact x j (by omega)
def LNew (K : Nat) (h : Hp) (t : LV) (L : Lay) : Prop := t.1 = L.k ∧ (∃ us, SlN K 32 vc h t.2.1 us ∧ us.length = L.W.length ∧ QNs K h us L.W) ∧ SlN K 45 qc h t.2.2 L.B
theorem LNew.gw {K : Nat} {h h' : Hp} {t : LV} {L : Lay} (x : LNew K h t L) (u : Gw h h') : LNew K h' t L := by
  obtain ⟨h1, ⟨us, h2, h3, h4⟩, h5⟩ := x
  exact ⟨h1, ⟨us, h2.gw u, h3, h4.gw u⟩, h5.gw u⟩
structure NNew (K : Nat) (h : Hp) (ts : List LV) (ls : List Lay) : Prop where
  len : ts.length = ls.length
  at_ : ∀ i, i < ls.length → LNew K h (ts.getD i lvd) (ls.getD i lay0)
theorem NNew.gw {K : Nat} {h h' : Hp} {ts : List LV} {ls : List Lay} (x : NNew K h ts ls) (u : Gw h h') : NNew K h' ts ls := ⟨x.len, fun i hi => (x.at_ i hi).gw u⟩
theorem NNew.nil {K : Nat} {h : Hp} : NNew K h [] [] := ⟨rfl, fun i hi => by simp at hi⟩
theorem NNew.snoc {K : Nat} {h : Hp} {ts : List LV} {ls : List Lay} {t : LV} {L : Lay} (x : NNew K h ts ls) (hx : LNew K h t L) : NNew K h (ts ++ [t]) (ls ++ [L]) := by
  have hl := x.len
  refine ⟨by simp [hl], fun i hi => ?_⟩
  rw [List.length_append, List.length_singleton] at hi
  rw [getD_snoc, getD_snoc, hl]
  by_cases e : i < ls.length
  · rw [if_pos e, if_pos e]; exact x.at_ i e
  · rw [if_neg e, if_neg e, if_pos (by omega), if_pos (by omega)]; exact hx
theorem NNew.mono {K K' : Nat} {h : Hp} {ts : List LV} {ls : List Lay} (x : NNew K' h ts ls) (k : K ≤ K') : NNew K h ts ls := ⟨x.len, fun i hi => by
  obtain ⟨h1, ⟨us, h2, h3, h4⟩, h5⟩ := x.at_ i hi
  exact ⟨h1, ⟨us, h2.mono k, h3, fun j hj => (h4 j hj).mono k⟩, h5.mono k⟩⟩
/-- How many numbers the first k layers have. -/
def nums (d : Nat → Nat) : Nat → Nat
  | 0 => 0
  | k + 1 => nums d k + d (k + 1) * d k + d (k + 1)
theorem nums_mono (d : Nat → Nat) {k n : Nat} (h : k ≤ n) : nums d k ≤ nums d n := by
  induction h with
  | refl => exact Nat.le_refl _
  | step _ ih => exact Nat.le_trans ih (by show nums d _ ≤ nums d _ + _ + _; omega)
def Shp (d : Nat → Nat) (zs : List Lay) : Prop := ∀ i, i < zs.length → Mat (zs.getD i lay0).W (d (i + 1)) (d i) ∧ (zs.getD i lay0).B.length = d (i + 1)
theorem net_shp {ls : List Lay} {d : Nat → Nat} (o : Net3 ls d) : Shp d ls := fun i hi => ⟨(o.lay i hi).1, (o.lay i hi).2.1⟩
theorem Shp.take {d : Nat → Nat} {zs : List Lay} (s : Shp d zs) (k : Nat) (hk : k ≤ zs.length) : (flatq (zs.take k)).length = nums d k := by
  induction k with
  | zero => simp [flatq, nums]
  | succ k ih =>
    obtain ⟨m, hb⟩ := s k (by omega)
    rw [flatq_take (by omega), List.length_append, List.length_append, ih (by omega), flat_len m.mem, m.rows, hb]; rfl
theorem Shp.size {d : Nat → Nat} {zs : List Lay} (s : Shp d zs) : (flatq zs).length = nums d zs.length := by
  have := s.take zs.length (Nat.le_refl _)
  rwa [List.take_length] at this
theorem Shp.nil {d : Nat → Nat} : Shp d [] := fun i hi => by simp at hi
theorem Shp.snoc {d : Nat → Nat} {zs : List Lay} {L : Lay} (s : Shp d zs) (m : Mat L.W (d (zs.length + 1)) (d zs.length)) (hb : L.B.length = d (zs.length + 1)) : Shp d (zs ++ [L]) := fun i hi => by
  rw [List.length_append, List.length_singleton] at hi
  rw [getD_snoc]
  by_cases e : i < zs.length
  · rw [if_pos e]; exact s i e
  · have : i = zs.length := by omega
    subst this
    rw [if_neg e, if_pos rfl]; exact ⟨m, hb⟩
theorem fill_end {d : Nat → Nat} {zs : List Lay} {xs rs : List Rat} (s : Shp d zs) (h : flatq zs ++ rs = xs) (hx : xs.length = nums d zs.length) : flatq zs = xs := by
  have h1 := s.size
  have h2 := congrArg List.length h
  rw [List.length_append] at h2
  have : rs = [] := List.eq_nil_of_length_eq_zero (by omega)
  rw [← h, this, List.append_nil]
theorem rest_len {d : Nat → Nat} {zs : List Lay} {W : List (List Rat)} {xs rs : List Rat} (s : Shp d zs) (hW : ∀ r ∈ W, r.length = d zs.length) (h : flatq zs ++ W.flatten ++ rs = xs) : rs.length + (nums d zs.length + W.length * d zs.length) = xs.length := by
  have h1 := s.size
  have h2 := congrArg List.length h
  rw [List.length_append, List.length_append, flat_len hW] at h2
  omega
theorem mat_of {W : List (List Rat)} {r c : Nat} (h : W.length = r) (hr : 0 < r) (hc : 0 < c) (hW : ∀ x ∈ W, x.length = c) : Mat W r c := ⟨h, hr, hc, fun i hi => hW _ (by
  rw [List.getD_eq_getElem?_getD, List.getElem?_eq_getElem (by omega)]; exact List.getElem_mem _)⟩
theorem rows_snoc' {W : List (List Rat)} {n : Nat} (h : ∀ r ∈ W, r.length = n) {q : List Rat} (hl : q.length = n) : ∀ r ∈ W ++ [q], r.length = n := fun r hr => by
  rcases List.mem_append.1 hr with hr | hr
  · exact h r hr
  · rw [List.mem_singleton.1 hr]; exact hl
theorem kind_snoc {zs ls : List Lay} {L : Lay} (h : ∀ i, i < zs.length → (zs.getD i lay0).k = (ls.getD i lay0).k) (hL : L.k = (ls.getD zs.length lay0).k) : ∀ i, i < (zs ++ [L]).length → ((zs ++ [L]).getD i lay0).k = (ls.getD i lay0).k := fun i hi => by
  rw [List.length_append, List.length_singleton] at hi
  rw [getD_snoc]
  by_cases e : i < zs.length
  · rw [if_pos e]; exact h i e
  · have : i = zs.length := by omega
    subst this
    rw [if_neg e, if_pos rfl]; exact hL
theorem take_cut {a l : List Rat} {m : Nat} : a ++ l.take m ++ l.drop m = a ++ l := by rw [List.append_assoc, List.take_append_drop]

set_option maxRecDepth 100000 in
set_option maxHeartbeats 600000 in
theorem nFilled (A : Option Addr) (cap : Nat) (ts : List LV) (ls : List Lay) (d : Nat → Nat) (hO : Net3 ls d) (X : Option Addr) (c0 : Nat) (xs : List Rat) (hx : xs.length = (flatq ls).length) (hc0 : xs.length ≤ c0) (w : World) (h : Hp) (g : G w h) (hA : SlO 3 lvc lvd h A ts) (hN : NetL h ts ls) (hX : SlO 5 qc 0 h X xs) :
    Calls Tryz.prog 67 #[.agg #[.slice A ts.length cap], .slice X xs.length c0] w (Ret w h fun v h1 => ∃ zs, zs.length = ls.length ∧ Net3 zs d ∧ (∀ i, i < ls.length → (zs.getD i lay0).k = (ls.getD i lay0).k) ∧ flatq zs = xs ∧ ∃ bL c sp, ∃ us : List LV, v = .agg #[.slice (some ⟨bL, 0, none⟩) us.length c] ∧ us.length ≤ c ∧ Nw h.size h1 bL 57 (us.flatMap lvc ++ sp) ∧ NNew h.size h1 us zs) := by
  have hs := SS.start g
  replace hs := (((hs.a_SlO hA).add (K := fun h_ => NetL h_ ts ls) hN).a_SlO hX)
  have hl := (hs.f.2.1).len
  obtain ⟨o1, o2⟩ := hO.len
  have o3 := hO.first
  have hfq := flatq_len hO ls.length (Nat.le_refl _)
  rw [List.take_length] at hfq
  refine go Tryz.func67 [(0, .agg #[.slice A ts.length cap]), (1, .slice X xs.length c0)] rfl ?_
  refine cSL ?_
  refine lA 2 25 ([.slice A ts.length cap]) hs (fun b1 w2 h3 hs => ?_)
  refine lA 3 32 ([.slice X xs.length c0]) hs (fun b4 w5 h6 hs => ?_)
  refine lA 4 25 ([.slice none 0 0]) hs (fun b7 w8 h9 hs => ?_)
  refine lN ?_
  refine cSL ?_
  refine lS hs [(12, .func (.func 109) #[] #[.pointer (some ⟨b4, 0, none⟩)], []), (5, .func (.func 109) #[] #[.pointer (some ⟨b4, 0, none⟩)], [])] ?_
  refine lN ?_
  refine cSL ?_
  refine lA 6 25 ([.slice none 0 0]) hs (fun b10 w11 h12 hs => ?_)
  refine lN ?_
  refine CG.seq ?_
  refine cSL ?_
  refine lS hs [(13, .pointer (some ⟨b1, 0, none⟩), []), (14, .slice A ts.length cap, [(3, 0, 1)]), (15, .int .i64 (ts.length : Nat), []), (16, .int .i64 0, [])] ?_
  refine lN ?_
  refine CG.block ?_
  replace hs := hs.nil 57 3
  refine cTo [(4, .pointer (some ⟨b7, 0, none⟩)), (5, .func (.func 109) #[] #[.pointer (some ⟨b4, 0, none⟩)]), (6, .pointer (some ⟨b10, 0, none⟩)), (14, .slice A ts.length cap), (15, .int .i64 (ts.length : Nat)), (16, .int .i64 0)] ?_
  replace hs := hs.add (K := fun h_ => NNew h.size h_ ([]) ([])) (NNew.nil)
  replace hs := hs.add (K := fun h_ => SlO 5 qc 0 h_ X xs) ((hs.f.2.1))
  refine CG.loop (fun μ_ Γ w_ => ∃ (k : Nat) (sA : Option Addr) (sc : Nat) (us : List LV) (zs : List Lay) (rs : List Rat) (Ar : Option Addr) (cr : Nat) (h_ : Hp), μ_ = ls.length - k ∧ Γ = [(4, .pointer (some ⟨b7, 0, none⟩)), (5, .func (.func 109) #[] #[.pointer (some ⟨b4, 0, none⟩)]), (6, .pointer (some ⟨b10, 0, none⟩)), (14, .slice A ts.length cap), (15, .int .i64 (ts.length : Nat)), (16, .int .i64 (k : Nat))] ∧ SS w h w_ h_ [⟨b10, 25, [.slice sA (us).length sc]⟩, ⟨b7, 25, [.slice none 0 0]⟩, ⟨b4, 32, [.slice Ar rs.length cr]⟩, ⟨b1, 25, [.slice A ts.length cap]⟩] [⟨57, 3, sA, sc, (us).length, (us).flatMap lvc⟩] [fun h_ => SlO 5 qc 0 h_ Ar rs, fun h_ => NNew h.size h_ us zs, fun h_ => SlO 5 qc 0 h_ X xs, fun h_ => NetL h_ ts ls, fun h_ => SlO 3 lvc lvd h_ A ts] ∧ (k ≤ ls.length) ∧ (zs.length = k) ∧ (Shp d zs) ∧ (∀ i, i < zs.length → (zs.getD i lay0).k = (ls.getD i lay0).k) ∧ (flatq zs ++ rs = xs) ∧ (rs.length ≤ cr) ∧ (us.length = k)) _ ⟨0, none, 0, [], [], xs, X, c0, h12, rfl, rfl, hs.to _ _, Nat.zero_le _, rfl, Shp.nil, fun i hi => by simp at hi, rfl, hc0, rfl⟩ ?_
  rintro _ _ w13 ⟨k, sA, sc, us, zs, rs, Ar, cr, h14, hm15, rfl, hs, hk, hzl, hZs, hZk, hflat, hcr0, hul⟩
  have hsm := fun h0 => hO.small k h0
  have hnm := fun h0 => nums_mono d (show k + 1 ≤ ls.length from h0)
  have hxn : xs.length = nums d ls.length := by rw [hx, (net_shp hO).size]
  have hnk : nums d (k + 1) = nums d k + d (k + 1) * d k + d (k + 1) := rfl
  refine cSL ?_
  cases hb16 : (decide (((k : Nat) : Int) < ((ts.length : Nat) : Int)))
  ·
    have phb16 := of_decide_eq_false hb16
    refine lB 17 hb16 ?_
    refine lN ?_
    refine CG.seq ?_
    refine cIF ?_
    refine CG.exit ?_
    show CG _ _ _ _ _ _ _ _
    refine cSL ?_
    refine lS hs [(57, .agg #[.slice sA (us).length sc], [(0, 0, 1)])] ?_
    refine lP 1 0 ([.slice sA (us).length sc]) hs (fun w17 hs => ?_)
    refine lN ?_
    refine CG.ret ?_
    have hkn : k = ls.length := by omega
    subst hkn
    obtain ⟨hq, bq, spq, hs, hbq, hcq⟩ := hs.pubn 0 (A := sA) (c := sc) (ty := 57) (sz := 3) (l := us) (f := lvc) (by omega)
    subst hbq
    exact hs.ret [(1, 0, 1)] (.agg #[.slice (some ⟨bq, 0, none⟩) us.length sc]) ⟨zs, hzl, ⟨⟨by omega, by omega⟩, o3, fun i hi => by have h1 := hZs i hi; have h2 := hZk i (by omega); have h3 := hO.lay i (by omega); exact ⟨h1.1, h1.2, h3.2.2.1, by rw [h2]; exact h3.2.2.2⟩⟩, fun i hi => hZk i (by omega), fill_end hZs hflat (by rw [hx, (net_shp hO).size, hzl]), bq, _, spq, us, rfl, hcq, (hs.f.1), (hs.f.2.2.1)⟩
  ·
    have phb16 := of_decide_eq_true hb16
    refine lB 17 hb16 ?_
    refine lN ?_
    refine CG.seq ?_
    refine cIT ?_
    refine CG.skipN ?_
    refine CG.seq ?_
    refine CG.block ?_
    refine cSL ?_
    refine lX 18 A ts.length cap 3 (k : Nat) k ((hs.f.2.2.2.2.1).ok (by omega)) ?_
    obtain ⟨ekx, ⟨AWx, cWx, usx, eWx, hcWx, hAWx, hUx⟩, ⟨ABx, cBx, eBx, hcBx, hABx⟩⟩ := (hs.f.2.2.2.1).at_ k (by omega)
    obtain ⟨mtx, lbx, r12x, kdx⟩ := hO.lay k (by omega)
    have lux := hUx.len; have mrx := mtx.rows; have mpx := mtx.rpos; have mcx := mtx.cpos; have m0x := mtx.row 0 (by omega)
    replace hs := (((hs.a_SlO hAWx).add (K := fun h_ => QVs h_ usx (ls.getD k lay0).W) hUx).a_SlO hABx)
    refine lHe 19 (.agg #[.int .i64 ((ts.getD k lvd).1), (ts.getD k lvd).2.1, (ts.getD k lvd).2.2]) hs ((hs.f.2.2.2.2.2.2.2.1).el k (by omega)) (by rw [ekx, eWx, eBx]) ?_
    refine lA 8 57 ([.int .i64 0, .slice none 0 0, .slice none 0 0]) hs (fun b18 w19 h20 hs => ?_)
    refine lP 0 0 ([.int .i64 ((ls.getD k lay0).k), .slice AWx usx.length cWx, .slice ABx ((ls.getD k lay0).B.length) cBx]) hs (fun w21 hs => ?_)
    refine lN ?_
    refine CG.seq ?_
    have hsr := hs
    refine cR 8 [⟨7, 9, .cells (List.toArray [.int .i64 0, .slice none 0 0, .slice none 0 0]) 57 (0, 0)⟩] mixed hs (al_cons (alOk (by kernel_rfl) (fun _ _ => by kernel_rfl)) al_nil) ?_
    refine eV 0 20 (.pointer (some ⟨b18, 0, none⟩)) ?_
    refine eO 1 21 [(0, 0, 1)] (.int .i64 ((ls.getD k lay0).k)) hs ?_
    refine eV 2 22 (.pointer (some ⟨b18, 1, none⟩)) ?_
    refine eO 3 23 [(0, 1, 1)] (.slice AWx usx.length cWx) hs ?_
    refine eV 4 24 (.int .i64 (usx.length : Nat)) ?_
    refine eK 5 25 32 usx.length 1 24 (.slice none 0 0) vc (.slice none 0 0 : Value) hs (fun b22 w23 h24 hs => ?_)
    have hl25 : (List.replicate usx.length (.slice none 0 0 : Value)).length = usx.length := by simp
    refine eV 6 26 (.agg #[.int .i64 ((ls.getD k lay0).k), .slice (some ⟨b22, 0, none⟩) usx.length usx.length, .slice none 0 0]) ?_
    refine eD1p [⟨b22, 32, (List.replicate usx.length (.slice none 0 0 : Value)).flatMap vc⟩] hsr hs 57 [.int .i64 0, .slice none 0 0, .slice none 0 0] (fun w26 h27 b28 hs => ?_)
    refine tP 8 0 0 ([.int .i64 ((ls.getD k lay0).k), .slice (some ⟨b22, 0, none⟩) usx.length usx.length, .slice none 0 0]) hs (fun w29 hs => ?_)
    refine tN ?_
    refine CG.seq ?_
    refine cSL ?_
    refine lS hs [(27, .pointer (some ⟨b18, 1, none⟩), []), (28, .slice AWx usx.length cWx, [(2, 1, 1)]), (29, .int .i64 (usx.length : Nat), []), (30, .int .i64 0, [])] ?_
    refine lN ?_
    refine CG.block ?_
    refine cTo [(4, .pointer (some ⟨b7, 0, none⟩)), (5, .func (.func 109) #[] #[.pointer (some ⟨b4, 0, none⟩)]), (6, .pointer (some ⟨b10, 0, none⟩)), (14, .slice A ts.length cap), (15, .int .i64 (ts.length : Nat)), (16, .int .i64 (k : Nat)), (8, .pointer (some ⟨b18, 0, none⟩)), (9, .pointer (some ⟨b28, 0, none⟩)), (28, .slice AWx usx.length cWx), (29, .int .i64 (usx.length : Nat)), (30, .int .i64 0)] ?_
    replace hs := hs.add (K := fun h_ => QNs h.size h_ (List.replicate usx.length (.slice none 0 0 : Value)) ([])) (QNs.nil)
    replace hs := hs.add (K := fun h_ => SlO 5 qc 0 h_ Ar rs) ((hs.f.2.2.2.2.1))
    refine CG.loop (fun μ_ Γ w_ => ∃ (i : Nat) (ul : List Value) (Wd : List (List Rat)) (rr : List Rat) (A2 : Option Addr) (c2 : Nat) (h_ : Hp), μ_ = usx.length - i ∧ Γ = [(4, .pointer (some ⟨b7, 0, none⟩)), (5, .func (.func 109) #[] #[.pointer (some ⟨b4, 0, none⟩)]), (6, .pointer (some ⟨b10, 0, none⟩)), (14, .slice A ts.length cap), (15, .int .i64 (ts.length : Nat)), (16, .int .i64 (k : Nat)), (8, .pointer (some ⟨b18, 0, none⟩)), (9, .pointer (some ⟨b28, 0, none⟩)), (28, .slice AWx usx.length cWx), (29, .int .i64 (usx.length : Nat)), (30, .int .i64 (i : Nat))] ∧ SS w h w_ h_ [⟨b28, 57, [.int .i64 ((ls.getD k lay0).k), .slice (some ⟨b22, 0, none⟩) usx.length usx.length, .slice none 0 0]⟩, ⟨b22, 32, (ul).flatMap vc⟩, ⟨b18, 57, [.int .i64 ((ls.getD k lay0).k), .slice AWx usx.length cWx, .slice ABx ((ls.getD k lay0).B.length) cBx]⟩, ⟨b10, 25, [.slice sA (us).length sc]⟩, ⟨b7, 25, [.slice none 0 0]⟩, ⟨b4, 32, [.slice A2 rr.length c2]⟩, ⟨b1, 25, [.slice A ts.length cap]⟩] [⟨57, 3, sA, sc, (us).length, (us).flatMap lvc⟩] [fun h_ => SlO 5 qc 0 h_ A2 rr, fun h_ => QNs h.size h_ ul Wd, fun h_ => SlO 5 qc 0 h_ ABx (ls.getD k lay0).B, fun h_ => QVs h_ usx (ls.getD k lay0).W, fun h_ => SlO 1 vc undef h_ AWx usx, fun h_ => SlO 5 qc 0 h_ Ar rs, fun h_ => NNew h.size h_ us zs, fun h_ => SlO 5 qc 0 h_ X xs, fun h_ => NetL h_ ts ls, fun h_ => SlO 3 lvc lvd h_ A ts] ∧ (i ≤ usx.length) ∧ (ul.length = usx.length) ∧ (Wd.length = i) ∧ (∀ r ∈ Wd, r.length = d k) ∧ (flatq zs ++ Wd.flatten ++ rr = xs) ∧ (rr.length ≤ c2)) _ ⟨0, List.replicate usx.length (.slice none 0 0 : Value), [], rs, Ar, cr, h27, rfl, rfl, hs.to _ _, Nat.zero_le _, hl25, rfl, fun r hr => by simp at hr, by rw [List.flatten_nil, List.append_nil]; exact hflat, hcr0⟩ ?_
    rintro _ _ w30 ⟨i, ul, Wd, rr, A2, c2, h31, hm32, rfl, hs, hi, hlul, hWl, hWr, hfl2, hcr⟩
    have hrl := rest_len hZs (by rw [hzl]; exact hWr) hfl2
    rw [hzl, hWl] at hrl
    have hid : i * d k ≤ d (k + 1) * d k := Nat.mul_le_mul_right _ (by omega)
    have hid2 := fun h0 : i < d (k + 1) => Nat.mul_le_mul_right (d k) (show i + 1 ≤ d (k + 1) from h0)
    rw [Nat.add_mul, Nat.one_mul] at hid2
    have hmr := fun h0 => mtx.row i h0
    have hMt := fun h0 : i = d (k + 1) => mat_of (hWl.trans h0) mpx mcx hWr
    refine cSL ?_
    cases hb33 : (decide (((i : Nat) : Int) < ((usx.length : Nat) : Int)))
    ·
      have phb33 := of_decide_eq_false hb33
      refine lB 31 hb33 ?_
      refine lN ?_
      refine CG.seq ?_
      refine cIF ?_
      refine CG.exit ?_
      show CG _ _ _ _ _ _ _ _
      refine cSL ?_
      refine lS hs [(44, .func (.func 109) #[] #[.pointer (some ⟨b4, 0, none⟩)], []), (45, .pointer (some ⟨b18, 2, none⟩), []), (46, .slice ABx ((ls.getD k lay0).B.length) cBx, [(2, 2, 1)]), (47, .int .i64 ((ls.getD k lay0).B.length : Nat), [])] ?_
      refine lCm 48 (nNext (((ls.getD k lay0).B.length)) b4 c2 A2 (rr) (by omega) (by omega) (by omega) hcr _ _ hs.g (hs.own 5) (hs.jk 5) (hs.f.1)) ?_
      rintro _ w34 h35 u36 ⟨⟨bq1_, cq1_, sp1_, rfl, hcq1_, hNq1_⟩, A1_, c1_, hO1, hc1_, hSl1_⟩
      replace hNq1_ := hNq1_.mono hs.st.sz
      replace hs := (hs.stepM 5 u36 hO1).to [⟨b28, 57, [.int .i64 ((ls.getD k lay0).k), .slice (some ⟨b22, 0, none⟩) usx.length usx.length, .slice none 0 0]⟩, ⟨b22, 32, (ul).flatMap vc⟩, ⟨b18, 57, [.int .i64 ((ls.getD k lay0).k), .slice AWx usx.length cWx, .slice ABx ((ls.getD k lay0).B.length) cBx]⟩, ⟨b10, 25, [.slice sA (us).length sc]⟩, ⟨b7, 25, [.slice none 0 0]⟩, ⟨b4, 32, [.slice A1_ (((rr).drop (((ls.getD k lay0).B.length))).length) c1_]⟩, ⟨b1, 25, [.slice A ts.length cap]⟩] [⟨57, 3, sA, sc, (us).length, (us).flatMap lvc⟩]
      replace hs := ((hs.a_SlO hSl1_).add (K := fun h_ => Nw h.size h_ bq1_ 45 (((rr).take (((ls.getD k lay0).B.length))).flatMap qc ++ sp1_)) hNq1_)
      refine lS hs [(49, .pointer (some ⟨b28, 2, none⟩), [])] ?_
      refine lP 0 2 ([.slice (some ⟨bq1_, 0, none⟩) (((rr).take (((ls.getD k lay0).B.length))).length) cq1_]) hs (fun w37 hs => ?_)
      refine lN ?_
      refine CG.listed ?_
      obtain ⟨h38, hs, sg39, lo40, bc41⟩ := hs.pub 1
      replace hs := (hs.to [⟨b28, 57, [.int .i64 ((ls.getD k lay0).k), .slice (some ⟨b22, 0, none⟩) usx.length usx.length, .slice (some ⟨bq1_, 0, none⟩) (((rr).take (((ls.getD k lay0).B.length))).length) cq1_]⟩, ⟨b18, 57, [.int .i64 ((ls.getD k lay0).k), .slice AWx usx.length cWx, .slice ABx ((ls.getD k lay0).B.length) cBx]⟩, ⟨b10, 25, [.slice sA (us).length sc]⟩, ⟨b7, 25, [.slice none 0 0]⟩, ⟨b4, 32, [.slice A1_ (((rr).drop (((ls.getD k lay0).B.length))).length) c1_]⟩, ⟨b1, 25, [.slice A ts.length cap]⟩] [⟨57, 3, sA, sc, (us).length, (us).flatMap lvc⟩]).a_SlO (SlO.of_flat (sz := 1) (f := vc) (d := undef) (b := b22) (o := 0) (l := ul) (fun _ => rfl) sg39)
      replace hs := hs.add (K := fun h_ => SlN h.size 32 vc h_ (.slice (some ⟨b22, 0, none⟩) usx.length usx.length) (ul)) (⟨b22, usx.length, [], by rw [hlul], Nat.le_of_eq hlul, ⟨lo40, by decide, by rw [List.append_nil]; exact bc41⟩⟩)
      replace hs := hs.add (K := fun h_ => LNew h.size h_ ((ls.getD k lay0).k, .slice (some ⟨b22, 0, none⟩) usx.length usx.length, .slice (some ⟨bq1_, 0, none⟩) (((rr).take (((ls.getD k lay0).B.length))).length) cq1_) (Lay.mk (ls.getD k lay0).k Wd ((rr).take (((ls.getD k lay0).B.length))))) (⟨rfl, ⟨_, (hs.f.1), by show (ul).length = Wd.length; omega, (hs.f.2.2.2.2.2.1)⟩, ⟨bq1_, cq1_, sp1_, rfl, hcq1_, (hs.f.2.2.1)⟩⟩)
      refine lS hs [(50, .pointer (some ⟨b10, 0, none⟩), []), (51, .slice sA (us).length sc, [(2, 0, 1)]), (52, .agg #[.int .i64 ((ls.getD k lay0).k), .slice (some ⟨b22, 0, none⟩) usx.length usx.length, .slice (some ⟨bq1_, 0, none⟩) (((rr).take (((ls.getD k lay0).B.length))).length) cq1_], [(0, 0, 3)])] ?_
      refine lR 53 57 1 ([.int .i64 ((ls.getD k lay0).k), .slice (some ⟨b22, 0, none⟩) usx.length usx.length, .slice (some ⟨bq1_, 0, none⟩) (((rr).take (((ls.getD k lay0).B.length))).length) cq1_]) hs (fun b43 w44 h45 hs => ?_)
      refine lY 54 0 57 3 sc sA us lvc (((ls.getD k lay0).k, .slice (some ⟨b22, 0, none⟩) usx.length usx.length, .slice (some ⟨bq1_, 0, none⟩) (((rr).take (((ls.getD k lay0).B.length))).length) cq1_) : LV) 56 b43 (.agg #[.int .i64 0, .slice none 0 0, .slice none 0 0]) hs (hs.f.1) (fun A47 c48 w49 h50 hs => ?_)
      refine lS hs [(55, .pointer (some ⟨b10, 0, none⟩), [])] ?_
      refine lP 2 0 ([.slice A47 (us ++ [(((ls.getD k lay0).k, .slice (some ⟨b22, 0, none⟩) usx.length usx.length, .slice (some ⟨bq1_, 0, none⟩) (((rr).take (((ls.getD k lay0).B.length))).length) cq1_) : LV)]).length c48]) hs (fun w52 hs => ?_)
      refine lN ?_
      refine cTo [(4, .pointer (some ⟨b7, 0, none⟩)), (5, .func (.func 109) #[] #[.pointer (some ⟨b4, 0, none⟩)]), (6, .pointer (some ⟨b10, 0, none⟩)), (14, .slice A ts.length cap), (15, .int .i64 (ts.length : Nat)), (16, .int .i64 (k : Nat))] ?_
      refine CG.listed ?_
      refine lIn 56 ((k : Nat) + 1) (k + 1) ?_
      refine lS hs [(16, .int .i64 (k + 1 : Nat), [])] ?_
      refine lD ?_
      intro a_ ka
      have q53 : SlO 5 qc 0 h50 A1_ ((rr).drop (((ls.getD k lay0).B.length))) := (hs.f.2.2.2.2.2.1)
      have q54 : NNew h.size h50 (us ++ [(((ls.getD k lay0).k, .slice (some ⟨b22, 0, none⟩) usx.length usx.length, .slice (some ⟨bq1_, 0, none⟩) (((rr).take (((ls.getD k lay0).B.length))).length) cq1_) : LV)]) (zs ++ [Lay.mk (ls.getD k lay0).k Wd ((rr).take (((ls.getD k lay0).B.length)))]) := ((hs.f.2.2.2.2.2.2.2.2.2.2.2.2.1).snoc (hs.f.2.1))
      have q55 : (k + 1) ≤ ls.length := by omega
      have q56 : (zs ++ [Lay.mk (ls.getD k lay0).k Wd ((rr).take (((ls.getD k lay0).B.length)))]).length = (k + 1) := by simp; omega
      have q57 : Shp d (zs ++ [Lay.mk (ls.getD k lay0).k Wd ((rr).take (((ls.getD k lay0).B.length)))]) := Shp.snoc hZs (by rw [hzl]; exact hMt (by omega)) (by rw [hzl]; show (List.take _ _).length = _; rw [List.length_take]; omega)
      have q58 : ∀ i, i < (zs ++ [Lay.mk (ls.getD k lay0).k Wd ((rr).take (((ls.getD k lay0).B.length)))]).length → ((zs ++ [Lay.mk (ls.getD k lay0).k Wd ((rr).take (((ls.getD k lay0).B.length)))]).getD i lay0).k = (ls.getD i lay0).k := kind_snoc hZk (by rw [hzl])
      have q59 : flatq (zs ++ [Lay.mk (ls.getD k lay0).k Wd ((rr).take (((ls.getD k lay0).B.length)))]) ++ ((rr).drop (((ls.getD k lay0).B.length))) = xs := by rw [flatq_snoc]; show flatq zs ++ Wd.flatten ++ List.take _ _ ++ List.drop _ _ = _; rw [take_cut]; exact hfl2
      have q60 : ((rr).drop (((ls.getD k lay0).B.length))).length ≤ c1_ := hc1_
      have q61 : (us ++ [(((ls.getD k lay0).k, .slice (some ⟨b22, 0, none⟩) usx.length usx.length, .slice (some ⟨bq1_, 0, none⟩) (((rr).take (((ls.getD k lay0).B.length))).length) cq1_) : LV)]).length = (k + 1) := by simp; omega
      replace hs := ((hs.tl.tl.tl.tl.tl.tl.tl.tl.tl.tl.tl.tl.tl.add (K := fun h_ => NNew h.size h_ (us ++ [(((ls.getD k lay0).k, .slice (some ⟨b22, 0, none⟩) usx.length usx.length, .slice (some ⟨bq1_, 0, none⟩) (((rr).take (((ls.getD k lay0).B.length))).length) cq1_) : LV)]) (zs ++ [Lay.mk (ls.getD k lay0).k Wd ((rr).take (((ls.getD k lay0).B.length)))])) q54).add (K := fun h_ => SlO 5 qc 0 h_ A1_ ((rr).drop (((ls.getD k lay0).B.length)))) q53)
      replace hs := hs.drop 2 0
      refine ⟨_, _, ?_, ⟨k + 1, A47, c48, us ++ [(((ls.getD k lay0).k, .slice (some ⟨b22, 0, none⟩) usx.length usx.length, .slice (some ⟨bq1_, 0, none⟩) (((rr).take (((ls.getD k lay0).B.length))).length) cq1_) : LV)], zs ++ [Lay.mk (ls.getD k lay0).k Wd ((rr).take (((ls.getD k lay0).B.length)))], (rr).drop (((ls.getD k lay0).B.length)), A1_, c1_, h50, rfl, rfl, hs.to _ _, q55, q56, q57, q58, q59, q60, q61⟩, ka.to [(4, .pointer (some ⟨b7, 0, none⟩)), (5, .func (.func 109) #[] #[.pointer (some ⟨b4, 0, none⟩)]), (6, .pointer (some ⟨b10, 0, none⟩)), (14, .slice A ts.length cap), (15, .int .i64 (ts.length : Nat)), (16, .int .i64 ((k + 1) : Nat))] (by kernel_rfl)⟩
      omega
    ·
      have phb33 := of_decide_eq_true hb33
      refine lB 31 hb33 ?_
      refine lN ?_
      refine CG.seq ?_
      refine cIT ?_
      refine CG.skipN ?_
      refine CG.seq ?_
      refine CG.block ?_
      refine cSL ?_
      refine lS hs [(32, .int .i64 (i : Nat), [])] ?_
      refine lX 33 AWx usx.length cWx 1 (i : Nat) i ((hs.f.2.2.2.2.1).ok (by omega)) ?_
      obtain ⟨Arp, crp, erp, hcrp, hRrp⟩ := (hs.f.2.2.2.1).at_ i (by omega)
      replace hs := (hs.a_SlO hRrp)
      refine lHe 34 (usx.getD i undef) hs ((hs.f.2.2.2.2.2.1).el i (by omega)) erp ?_
      refine lS hs [(10, .int .i64 (i : Nat), []), (11, .slice Arp ((((ls.getD k lay0).W).getD i []).length) crp, [])] ?_
      refine lN ?_
      refine CG.region [b4] 7 [] mixed (by kernel_rfl) hs.g al_nil (fun _ hb => by rw [List.mem_singleton.1 hb]; exact lt_of_some (hs.jk 5)) ?_
      refine eV 0 35 (.pointer (some ⟨b28, 1, none⟩)) ?_
      refine eO 1 36 [(0, 1, 1)] (.slice (some ⟨b22, 0, none⟩) usx.length usx.length) hs ?_ (hM := fun p hp => by obtain rfl := List.mem_singleton.1 hp; exact fun hm => bx_ne hs.st (i := 0) (j := 5) (by kernel_rfl) (by kernel_rfl) (by kernel_rfl) (List.mem_singleton.1 hm))
      refine eV 2 37 (.int .i64 (i : Nat)) ?_
      refine eV 3 38 (.func (.func 109) #[] #[.pointer (some ⟨b4, 0, none⟩)]) ?_
      refine eV 4 39 (.slice Arp ((((ls.getD k lay0).W).getD i []).length) crp) ?_
      refine eV 5 40 (.int .i64 ((((ls.getD k lay0).W).getD i []).length : Nat)) ?_
      refine eCm 6 41 hs (List.mem_singleton.2 rfl) (fun _ _ hs => nNext (((((ls.getD k lay0).W).getD i []).length : Nat)) b4 c2 A2 (rr) (by omega) (by omega) (by omega) hcr _ _ hs.g (hs.own 5) (hs.jk 5) (hs.f.2.1)) ?_
      rintro _ _ _ w62 h63 hs u64 ⟨⟨bq2_, cq2_, sp2_, rfl, hcq2_, hNq2_⟩, A2_, c2_, hO2, hc2_, hSl2_⟩
      replace hNq2_ := hNq2_.mono hs.st.sz
      replace hs := (hs.stepM 5 u64 hO2).to [⟨b28, 57, [.int .i64 ((ls.getD k lay0).k), .slice (some ⟨b22, 0, none⟩) usx.length usx.length, .slice none 0 0]⟩, ⟨b22, 32, (ul).flatMap vc⟩, ⟨b18, 57, [.int .i64 ((ls.getD k lay0).k), .slice AWx usx.length cWx, .slice ABx ((ls.getD k lay0).B.length) cBx]⟩, ⟨b10, 25, [.slice sA (us).length sc]⟩, ⟨b7, 25, [.slice none 0 0]⟩, ⟨b4, 32, [.slice A2_ (((rr).drop (((((ls.getD k lay0).W).getD i []).length : Nat))).length) c2_]⟩, ⟨b1, 25, [.slice A ts.length cap]⟩] [⟨57, 3, sA, sc, (us).length, (us).flatMap lvc⟩]
      replace hs := ((hs.a_SlO hSl2_).add (K := fun h_ => Nw h.size h_ bq2_ 45 (((rr).take (((((ls.getD k lay0).W).getD i []).length : Nat))).flatMap qc ++ sp2_)) hNq2_)
      refine eD0 hs (fun w65 h66 hs => ?_)
      refine tX 7 42 (some ⟨b22, 0, none⟩) usx.length usx.length 1 (i : Nat) i rfl ?_
      refine tW 8 1 ul vc 1 i (.slice (some ⟨bq2_, 0, none⟩) (((rr).take (((((ls.getD k lay0).W).getD i []).length : Nat))).length) cq2_ : Value) hs (by omega) (fun w67 hs => ?_)
      have hl68 : ((ul).set i (.slice (some ⟨bq2_, 0, none⟩) (((rr).take (((((ls.getD k lay0).W).getD i []).length : Nat))).length) cq2_ : Value)).length = usx.length := by rw [List.length_set]; exact hlul
      replace hs := hs.to [⟨b28, 57, [.int .i64 ((ls.getD k lay0).k), .slice (some ⟨b22, 0, none⟩) usx.length usx.length, .slice none 0 0]⟩, ⟨b22, 32, ((ul).set i (.slice (some ⟨bq2_, 0, none⟩) (((rr).take (((((ls.getD k lay0).W).getD i []).length : Nat))).length) cq2_ : Value)).flatMap vc⟩, ⟨b18, 57, [.int .i64 ((ls.getD k lay0).k), .slice AWx usx.length cWx, .slice ABx ((ls.getD k lay0).B.length) cBx]⟩, ⟨b10, 25, [.slice sA (us).length sc]⟩, ⟨b7, 25, [.slice none 0 0]⟩, ⟨b4, 32, [.slice A2_ (((rr).drop (((((ls.getD k lay0).W).getD i []).length : Nat))).length) c2_]⟩, ⟨b1, 25, [.slice A ts.length cap]⟩] [⟨57, 3, sA, sc, (us).length, (us).flatMap lvc⟩]
      refine tN ?_
      refine cTo [(4, .pointer (some ⟨b7, 0, none⟩)), (5, .func (.func 109) #[] #[.pointer (some ⟨b4, 0, none⟩)]), (6, .pointer (some ⟨b10, 0, none⟩)), (14, .slice A ts.length cap), (15, .int .i64 (ts.length : Nat)), (16, .int .i64 (k : Nat)), (8, .pointer (some ⟨b18, 0, none⟩)), (9, .pointer (some ⟨b28, 0, none⟩)), (28, .slice AWx usx.length cWx), (29, .int .i64 (usx.length : Nat)), (30, .int .i64 (i : Nat))] ?_
      refine CG.listed ?_
      refine lIn 43 ((i : Nat) + 1) (i + 1) ?_
      refine lS hs [(30, .int .i64 (i + 1 : Nat), [])] ?_
      refine lD ?_
      intro a_ ka
      have q69 : SlO 5 qc 0 h66 A2_ ((rr).drop (((((ls.getD k lay0).W).getD i []).length : Nat))) := (hs.f.2.1)
      have q70 : QNs h.size h66 ((ul).set i (.slice (some ⟨bq2_, 0, none⟩) (((rr).take (((((ls.getD k lay0).W).getD i []).length : Nat))).length) cq2_ : Value)) (Wd ++ [rr.take ((ls.getD k lay0).W.getD i []).length]) := (QNs.snoc (hs.f.2.2.2.2.1) hWl (by omega) ⟨bq2_, cq2_, sp2_, rfl, hcq2_, (hs.f.1)⟩)
      have q71 : (i + 1) ≤ usx.length := by omega
      have q72 : ((ul).set i (.slice (some ⟨bq2_, 0, none⟩) (((rr).take (((((ls.getD k lay0).W).getD i []).length : Nat))).length) cq2_ : Value)).length = usx.length := hl68
      have q73 : (Wd ++ [rr.take ((ls.getD k lay0).W.getD i []).length]).length = (i + 1) := by simp; omega
      have q74 : ∀ r ∈ (Wd ++ [rr.take ((ls.getD k lay0).W.getD i []).length]), r.length = d k := (rows_snoc' hWr (by rw [List.length_take]; omega))
      have q75 : flatq zs ++ (Wd ++ [rr.take ((ls.getD k lay0).W.getD i []).length]).flatten ++ ((rr).drop (((((ls.getD k lay0).W).getD i []).length : Nat))) = xs := by rw [List.flatten_append, List.flatten_singleton, ← List.append_assoc, take_cut]; exact hfl2
      have q76 : ((rr).drop (((((ls.getD k lay0).W).getD i []).length : Nat))).length ≤ c2_ := hc2_
      replace hs := ((hs.tl.tl.tl.tl.tl.add (K := fun h_ => QNs h.size h_ ((ul).set i (.slice (some ⟨bq2_, 0, none⟩) (((rr).take (((((ls.getD k lay0).W).getD i []).length : Nat))).length) cq2_ : Value)) (Wd ++ [rr.take ((ls.getD k lay0).W.getD i []).length])) q70).add (K := fun h_ => SlO 5 qc 0 h_ A2_ ((rr).drop (((((ls.getD k lay0).W).getD i []).length : Nat)))) q69)
      refine ⟨_, _, ?_, ⟨i + 1, (ul).set i (.slice (some ⟨bq2_, 0, none⟩) (((rr).take (((((ls.getD k lay0).W).getD i []).length : Nat))).length) cq2_ : Value), Wd ++ [rr.take ((ls.getD k lay0).W.getD i []).length], (rr).drop (((((ls.getD k lay0).W).getD i []).length : Nat)), A2_, c2_, h66, rfl, rfl, hs.to _ _, q71, q72, q73, q74, q75, q76⟩, ka.to [(4, .pointer (some ⟨b7, 0, none⟩)), (5, .func (.func 109) #[] #[.pointer (some ⟨b4, 0, none⟩)]), (6, .pointer (some ⟨b10, 0, none⟩)), (14, .slice A ts.length cap), (15, .int .i64 (ts.length : Nat)), (16, .int .i64 (k : Nat)), (8, .pointer (some ⟨b18, 0, none⟩)), (9, .pointer (some ⟨b28, 0, none⟩)), (28, .slice AWx usx.length cWx), (29, .int .i64 (usx.length : Nat)), (30, .int .i64 ((i + 1) : Nat))] (by kernel_rfl)⟩
      omega

end Go.Proofs.YtbhpcpkcjgkcpaaGreatDoor
