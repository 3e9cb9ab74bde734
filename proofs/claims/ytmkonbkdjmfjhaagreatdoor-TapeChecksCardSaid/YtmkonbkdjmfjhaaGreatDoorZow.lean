/- The engine: elements of a row of the function's own, read and written by their number. No program in sight. -/
import Derived.Test.YtmkonbkdjmfjhaaGreatDoorZoz
namespace Go.Proofs.YtmkonbkdjmfjhaaGreatDoor
open Go.RowKit

theorem row_el {α : Type} {f : α → List Value} {sz : Nat} (hf : ∀ x, (f x).length = sz) (d : α) (l : List α) (k : Nat) (hk : k < l.length) : ((l.flatMap f).drop (0 + k * sz)).take (f (l.getD k d)).length = f (l.getD k d) := by
  rw [Nat.zero_add, hf]; exact drop_flat hf d l k hk
theorem row_part {α : Type} {f : α → List Value} {sz : Nat} (hf : ∀ x, (f x).length = sz) (d : α) (l : List α) (k : Nat) (hk : k < l.length) (o n : Nat) (ho : o + n ≤ sz) : ((l.flatMap f).drop (0 + k * sz + o)).take n = ((f (l.getD k d)).drop o).take n := by
  rw [Nat.zero_add, ← drop_flat hf d l k hk, List.drop_take, List.take_take, List.drop_drop, Nat.min_eq_left (by omega)]
section row
variable {P : Program} {n : Nat} {N R : Po} {X : Nat → Po} {ops : Array Oper} {k : Nat} {Γ : Env} {w : World} {h : Hp} {w0 : World} {h0 : Hp} {B : List Bx} {Rs : List Rw} {F : List (Hp → Prop)}
/-- A part of element e of row j is written. -/
theorem lRs {α : Type} (j e fo : Nat) (ds : List Value) (l : List α) (f : α → List Value) (sz : Nat) (d x : α) {ty : TypeId} {c b : Nat} (s : SS w0 h0 w h B Rs F) (hk : e < l.length) (H : ∀ w', SS w0 h0 w' h B (Rs.set j ⟨ty, sz, some ⟨b, 0, none⟩, c, l.length, (l.set e x).flatMap f⟩) F → LG P n N R X ops (k + 1) Γ w')
    (hx : putAt (f (l.getD e d)) fo ds = f x := by rfl) (hf : ∀ x, (f x).length = sz := by intro _; rfl) (ho : Nat.ble (fo + ds.length) sz = true := by kernel_rfl) (hr' : Rs.getD j default = ⟨ty, sz, some ⟨b, 0, none⟩, c, l.length, l.flatMap f⟩ := by kernel_rfl) (hj : decide (j < Rs.length) = true := by kernel_rfl) (hc : cS ops Γ k = true := by kernel_rfl)
    (he : evalW P (execOp (ev Γ) (opAt ops k)) = some (.skip, mkl b (0 + e * sz + fo) ds) := by kernel_rfl) : LG P n N R X ops k Γ w := by
  have hle := Nat.le_of_ble_eq_true ho
  refine lRp j (0 + e * sz + fo) ds s ?_ (fun w' s' => H w' ?_) hr' hj hc he
  · rw [len_flat hf, Nat.zero_add]
    have : (e + 1) * sz ≤ l.length * sz := Nat.mul_le_mul_right _ hk
    rw [Nat.add_mul, Nat.one_mul] at this
    omega
  · rw [Nat.zero_add, putAt_part hf d l e x hk hle hx] at s'
    exact s'
end row
section rb
variable {w0 : World} {h0 : Hp} {w : World} {h : Hp} {B : List Bx} {R : List Rw} {F : List (Hp → Prop)}
/-- A variable and a row that a drawn region may write. -/
theorem SS.rb_jk (s : SS w0 h0 w h B R F) (i j : Nat) {rb : Nat} {ty : TypeId} {sz c m : Nat} {A : Option Addr} {cs : List Value} (hi : decide (i < B.length) = true := by kernel_rfl) (e : (bxAt B i).b = rb := by kernel_rfl) (hr : R.getD j default = ⟨ty, sz, A, c, m, cs⟩ := by kernel_rfl) (hj : decide (j < R.length) = true := by kernel_rfl) : ∀ b ∈ rb :: (Value.slice A m c).ownBlock.toList, h[b]? = some junk := fun b hb => by
  have hj' := of_decide_eq_true hj
  have r := s.ro _ (List.getElem_mem hj')
  rw [rw_get hr hj'] at r
  rcases List.mem_cons.1 hb with h1 | h1
  · rw [h1, ← e]; exact s.st.jk _ (bxAt_mem (of_decide_eq_true hi))
  · exact r.jk b (Option.mem_toList.1 h1)
theorem SS.rb_lt (s : SS w0 h0 w h B R F) (i j : Nat) {rb : Nat} {ty : TypeId} {sz c m : Nat} {A : Option Addr} {cs : List Value} (hi : decide (i < B.length) = true := by kernel_rfl) (e : (bxAt B i).b = rb := by kernel_rfl) (hr : R.getD j default = ⟨ty, sz, A, c, m, cs⟩ := by kernel_rfl) (hj : decide (j < R.length) = true := by kernel_rfl) : ∀ b ∈ rb :: (Value.slice A m c).ownBlock.toList, b < h.size := fun b hb => lt_of_some (s.rb_jk i j hi e hr hj b hb)
theorem SS.rb_ne (s : SS w0 h0 w h B R F) (q i j : Nat) {rb : Nat} {ty : TypeId} {sz c m : Nat} {A : Option Addr} {cs : List Value} (hq : decide (q < B.length) = true := by kernel_rfl) (hi : decide (i < B.length) = true := by kernel_rfl) (hne : (q == i) = false := by kernel_rfl) (e : (bxAt B i).b = rb := by kernel_rfl) (hr : R.getD j default = ⟨ty, sz, A, c, m, cs⟩ := by kernel_rfl) (hj : decide (j < R.length) = true := by kernel_rfl) : (bxAt B q).b ∉ rb :: (Value.slice A m c).ownBlock.toList := fun hb => by
  have hj' := of_decide_eq_true hj
  have r := s.ro _ (List.getElem_mem hj')
  rw [rw_get hr hj'] at r
  rcases List.mem_cons.1 hb with h1 | h1
  · rw [← e] at h1; exact bx_ne s.st hq hi hne h1
  · exact r.ap _ (Option.mem_toList.1 h1) (List.mem_map.2 ⟨_, bxAt_mem (of_decide_eq_true hq), rfl⟩)
end rb
/-! ### append to an empty slice without room -/
theorem append_zero {P : Program} (w : World) (t ty e : TypeId) (i : TypeInfo) (z : Value) (ht : P.underlying t = some (.slice e)) (hi : P.info? e = some i) (hz : i.zero = some z) (a0 a : Addr) (m c : Nat) (news : List Value) (hl : news.length = m * i.size) (hnews : ∀ j u, news[j]? = some u → w.cell? (a.add j) = some u) (hm : 0 < m) (h63 : m ≤ 1099511627776) (hb : m * i.bytes ≤ 140737488355328) :
    (Builtin.append_ #[t, t] ty #[.slice (some a0) 0 0, .slice (some a) m c]).run P w = (Builtin.append_ #[t, t] ty #[.slice none 0 0, .slice (some a) m c]).run P w := by
  rw [run_append_grow (P := P) w t ty e i z ht hi hz a0 0 0 [] (by simp) (by simp) a m c news hl hnews (by omega) (by omega) (growslice_fits (by omega) (by simpa using hb)),
    run_append_nil (P := P) w t ty e i z ht hi hz a m c news hl hnews (by omega) (by omega) (by omega)]
  simp
section app
variable {M : Ms} {P : Program} {n : Nat} {N R : Po} {X : Nat → Po} {ops : Array Oper} {k k0 : Nat} {hr : Hp} {AL : List Al} {L : Array Bool} {Γ : Env} {w : World} {h : Hp} {w0 : World} {h0 : Hp} {B : List Bx} {Rs : List Rw} {F : List (Hp → Prop)}
theorem app_runE {o : Oper} {x y : Operand} {t e : TypeId} {z : Value} {sz bt m2 c : Nat} {news : List Value} {a0 a : Addr} (ho : o.op = .call { callee := .builtin .append, args := #[x, y], argTypes := #[t, t] })
    (hx : ev Γ x = .slice (some a0) 0 0) (hy : ev Γ y = .slice (some a) m2 c) (hu : P.underlying t = some (.slice e)) (hi : (P.info? e).map (fun i => (i.zero, i.size, i.bytes)) = some (some z, sz, bt)) (hzs : z.cells.size = sz) (hpos : 0 < sz)
    (s : St w0 h0 w h B) (hl : news.length = m2 * sz) (hnews : ∀ j u, news[j]? = some u → w.cell? (a.add j) = some u) (h1 : ∀ u ∈ news, u.oneCell' = true) (hm0 : 0 < m2)
    (hm : m2 ≤ 1099511627776) (hb : m2 * bt ≤ 140737488355328) :
    ∃ v' w', (execOp (ev Γ) o).run P w = .ok (.value v') w' ∧ w'.ownsRow h0.size e sz v' (0 + m2) ([] ++ news) ∧ w.grownBy w' (Value.slice none 0 0).ownBlock ∧ (v'.ownBlock = (Value.slice none 0 0).ownBlock ∨ v'.ownBlock = some w.heap.size) := by
  cases hinf : P.info? e with
  | none => rw [hinf] at hi; cases hi
  | some inf =>
    rw [hinf] at hi
    simp only [Option.map_some, Option.some.injEq, Prod.mk.injEq] at hi
    obtain ⟨i1, i2, i3⟩ := hi
    obtain ⟨v', w', hrun, h2, h3, h4, h5⟩ := run_append_own_at (P := P) w h0.size t o.type e inf z sz bt hu hinf i1 i2 i3 hzs hpos (.slice none 0 0) 0 [] (World.ownsRow_nil _ _ _ _) a m2 c news hl hnews h1 (by unfold maxLen; omega) (by rw [Nat.zero_add]; exact hb) (by rw [s.g.size]; exact s.sz)
    refine ⟨v', w', ?_, h2, h3, h5⟩
    rw [← append_zero (P := P) w t o.type e inf z hu hinf i1 a0 a m2 c news (by rw [i2]; exact hl) hnews hm0 hm (by rw [i3]; exact hb)] at hrun
    unfold execOp
    simp only [ho, resolve, invoke, builtin, Sem.run_bind, Sem.run_pure, Result.andThen_ok, List.map_toArray, List.map_cons, List.map_nil, hx, hy, hrun]
theorem SS.appE (s : SS w0 h0 w h B Rs F) {o : Oper} {ty : TypeId} {sz bt c2 b0 : Nat} {z : Value} {α : Type} {f : α → List Value} {d : α} {A2 : Option Addr} {m : List α} (he : apE P (ev Γ) o = some (.slice (some ⟨b0, 0, none⟩) 0 0, .slice A2 m.length c2, ty, z, sz, bt)) (so : SlO sz f d h A2 m) (hm0 : 0 < m.length) (h1 : ∀ x ∈ m, (f x).all (·.oneCell') = true) (hf : ∀ x, (f x).length = sz) (hzs : z.cells.size = sz) (hpos : 0 < sz) (hm : m.length ≤ 1099511627776) (hb : m.length * bt ≤ 140737488355328) :
    ∃ A' c' w' h', (execOp (ev Γ) o).run P w = .ok (.value (.slice A' m.length c')) w' ∧ Up w h w' h' ∧ SS w0 h0 w' h' B (⟨ty, sz, A', c', m.length, m.flatMap f⟩ :: Rs) F := by
  rw [so.ok hm0] at he
  obtain ⟨x', y, ty', ho, hx, hy, hu, hi⟩ := apE_op he
  obtain ⟨v', w', hrun, ow, gr, hloc⟩ := app_runE (P := P) ho hx hy hu hi hzs hpos s.st (len_flat hf m) (seg_newsO s.g (so.flat hf)) (fun u hu => by
    obtain ⟨x, hx', hx⟩ := List.mem_flatMap.1 hu
    exact (List.all_eq_true.1 (h1 x hx')) u hx) hm0 hm hb
  obtain ⟨h', A', c', rfl, e2, s'⟩ := (s.nil ty sz).grown (j := 0) (by simp) (w' := w') (v' := v') (m2 := m.length) (news := m.flatMap f) ow gr hloc
  refine ⟨A', c', w', h', ?_, ⟨⟨gr.os, gr.tape, gr.output, gr.size, fun c hc => gr.block c hc (by simp [Value.ownBlock])⟩, e2, s'.g⟩, ?_⟩
  · rw [hrun]; simp
  · simpa using s'
theorem lYz {α : Type} (t : Nat) (ty : TypeId) (sz : Nat) (f : α → List Value) (d : α) (b0 : Nat) (A2 : Option Addr) (m : List α) (c2 bt : Nat) (z : Value) (s : SS w0 h0 w h B Rs F) (so : SlO sz f d h A2 m) (hm0 : 0 < m.length) (h1 : ∀ x ∈ m, (f x).all (·.oneCell') = true)
    (H : ∀ A' c' w' h', SS w0 h0 w' h' B (⟨ty, sz, A', c', m.length, m.flatMap f⟩ :: Rs) F → LG P n N R X ops (k + 1) ((t, .slice A' m.length c') :: Γ) w')
    (hc : cL ops Γ k t n = true := by kernel_rfl) (he : apE P (ev Γ) (opAt ops k) = some (.slice (some ⟨b0, 0, none⟩) 0 0, .slice A2 m.length c2, ty, z, sz, bt) := by kernel_rfl) (hf : ∀ x, (f x).length = sz := by intro _; rfl) (hzs : z.cells.size = sz := by kernel_rfl) (hpos : 0 < sz := by decide) (hm : m.length ≤ 1099511627776 := by omega) (hb : m.length * bt ≤ 140737488355328 := by omega) : LG P n N R X ops k Γ w := by
  obtain ⟨A', c', w', h', hrun, _, s'⟩ := s.appE (P := P) he so hm0 h1 hf hzs hpos hm hb
  exact LG.val t _ w' (cL_1 hc).1 (cL_1 hc).2 hrun (H A' c' w' h' s')
/-- A value of an operation that is no event of its own, but is drawn as one. -/
theorem eVe (i t : Nat) (v : Value) (s : SS w0 h0 w h B Rs F) (H : ∀ w' h', SS w0 h0 w' h' B Rs F → EG M P n N R X ops k0 hr AL (L.setIfInBounds i true) ((t, v) :: Γ) w' h') (hc : cEv n ops k0 AL L Γ i t = true := by kernel_rfl) (hv : ∀ w, (execOp (ev Γ) (opAt ops i)).run P w = .ok (.value v) w := by intro _; kernel_rfl) : EG M P n N R X ops k0 hr AL L Γ w h :=
  Rg.event i t (cEv_1 hc).1 (cEv_1 hc).2 (fun w1 h1 u => .inl ⟨v, w1, h1, hv w1, UpM.refl u.g, H w1 h1 (s.step u)⟩)
theorem eYz {α : Type} (i t : Nat) (ty : TypeId) (sz : Nat) (f : α → List Value) (d : α) (b0 : Nat) (A2 : Option Addr) (m : List α) (c2 bt : Nat) (z : Value) (s : SS w0 h0 w h B Rs F) (so : ∀ h, AllF F h → SlO sz f d h A2 m) (hm0 : 0 < m.length) (h1 : ∀ x ∈ m, (f x).all (·.oneCell') = true)
    (H : ∀ A' c' w' h', SS w0 h0 w' h' B (⟨ty, sz, A', c', m.length, m.flatMap f⟩ :: Rs) F → EG M P n N R X ops k0 hr AL (L.setIfInBounds i true) ((t, .slice A' m.length c') :: Γ) w' h')
    (hc : cEv n ops k0 AL L Γ i t = true := by kernel_rfl) (he : apE P (ev Γ) (opAt ops i) = some (.slice (some ⟨b0, 0, none⟩) 0 0, .slice A2 m.length c2, ty, z, sz, bt) := by kernel_rfl) (hf : ∀ x, (f x).length = sz := by intro _; rfl) (hzs : z.cells.size = sz := by kernel_rfl) (hpos : 0 < sz := by decide) (hm : m.length ≤ 1099511627776 := by omega) (hb : m.length * bt ≤ 140737488355328 := by omega) : EG M P n N R X ops k0 hr AL L Γ w h := by
  refine Rg.event i t (cEv_1 hc).1 (cEv_1 hc).2 (fun w1 h1' u => ?_)
  have s1 := s.step u
  obtain ⟨A', c', w', h', hrun, u2, s'⟩ := s1.appE (P := P) he (so _ s1.f) hm0 h1 hf hzs hpos hm hb
  exact .inl ⟨_, w', h', hrun, u2.m M.l, H A' c' w' h' s'⟩
end app
section fin
variable {M : Ms} {P : Program} {n : Nat} {N R : Po} {X : Nat → Po} {ops : Array Oper} {k0 : Nat} {hr : Hp} {AL : List Al} {L : Array Bool} {Γ : Env} {w : World} {h : Hp} {w0 : World} {h0 : Hp} {B : List Bx} {Rs : List Rw} {F : List (Hp → Prop)}
/-- A new variable of a drawn region in which variables and rows were made. -/
theorem SS.blkq {F1 : List (Hp → Prop)} {wr : World} {x : Al} {b : Nat} (pre : List Bx) (preR : List Rw) (sr : SS w0 h0 wr hr B Rs F1) (s : SS w0 h0 w h (pre ++ B) (preR ++ Rs) F) (k : Blk hr w h (x, b)) (t : TypeId) (vs : List Value) (ho : x.o = .cells vs.toArray t (0, 0)) (hp : pre.all (fun y => y.t != t) = true) (hq : preR.all (fun y => y.ty != t) = true) : SS w0 h0 w h (⟨b, t, vs⟩ :: (pre ++ B)) (preR ++ Rs) F :=
  ⟨s.g0, St.new sr.st s.st (fun y hy => by
    rcases List.mem_append.1 hy with hy | hy
    · right
      intro e
      have h1 := s.st.own y (List.mem_append_left _ hy)
      have h2 : w.heap[b]? = some x.o := k.1
      unfold Own at h1
      rw [e, h2, ho] at h1
      injection h1 with h1
      injection h1 with _ h3
      have := (List.all_eq_true.1 hp) y hy
      simp only [bne_iff_ne, ne_eq] at this
      exact this h3.symm
    · exact .inl (lt_of_some (sr.st.jk y hy))) k t vs ho, fun r hr' => (s.ro r hr').new b (fun c hc e => by
    rcases List.mem_append.1 hr' with hy | hy
    · have h2 : w.heap[b]? = some x.o := k.1
      have ro := s.ro r hr'
      rcases ro.own with ⟨_, ⟨e1, _⟩ | ⟨g, cap, cur, e1, _, hg, _⟩⟩
      · rw [e1] at hc; simp [Value.ownBlock] at hc
      · rw [e1] at hc
        simp [Value.ownBlock] at hc
        rw [hc, e, h2, ho] at hg
        injection hg with hg
        injection hg with _ h3
        have := (List.all_eq_true.1 hq) r hy
        simp only [bne_iff_ne, ne_eq] at this
        exact this h3.symm
    · have h1 := (sr.ro r hy).lt hc
      have h2 : hr.size ≤ b := k.2.2
      omega), s.ap, s.mo, s.f⟩
theorem eD1q {F1 : List (Hp → Prop)} {wr : World} {x : Al} (pre : List Bx) (preR : List Rw) (sr : SS w0 h0 wr hr B Rs F1) (s : SS w0 h0 w h (pre ++ B) (preR ++ Rs) F) (t : TypeId) (vs : List Value) (H : ∀ w' h' b, SS w0 h0 w' h' (⟨b, t, vs⟩ :: (pre ++ B)) (preR ++ Rs) F → AG M P n N R X ops k0 (L.setIfInBounds x.i true) ((x.t, .pointer (some ⟨b, 0, none⟩)) :: Γ) w') (hc : (chkFin ops [x] L && decide (x.t < n)) = true := by kernel_rfl) (ho : x.o = .cells vs.toArray t (0, 0) := by kernel_rfl) (hp : pre.all (fun y => y.t != t) = true := by kernel_rfl) (hq : preR.all (fun y => y.ty != t) = true := by kernel_rfl) : EG M P n N R X ops k0 hr [x] L Γ w h :=
  Rg.fin1 hc (fun w' h' b u k => H w' h' b (SS.blkq pre preR sr (s.step u) k t vs ho hp hq))
end fin
end Go.Proofs.YtmkonbkdjmfjhaaGreatDoor
