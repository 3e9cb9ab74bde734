/- The engine: slices of the function's own that grow by append. No program in sight. -/
import Derived.Test.YtmkonbkdjmfjhaaGreatDoorSlE
import Derived.Maps.AppendAt
namespace Go.Proofs.YtmkonbkdjmfjhaaGreatDoor
open Go.RowKit

/-- A slice of the function's own that grows: n elements, their cells cs; it lies apart from the function's variables B. -/
structure Gro (h0 : Hp) (B : List Nat) (w : World) (h : Hp) (ty : TypeId) (sz : Nat) (v : Value) (n : Nat) (cs : List Value) : Prop where
  own : w.ownsRow h0.size ty sz v n cs
  jk : ∀ b, v.ownBlock = some b → h[b]? = some junk
  ap : ∀ b, v.ownBlock = some b → b ∉ B
section gro
variable {h0 : Hp} {B : List Nat} {w : World} {h : Hp} {ty : TypeId} {sz : Nat} {v : Value} {n : Nat} {cs : List Value}
theorem Gro.nil : Gro h0 B w h ty sz (.slice none 0 0) 0 [] := ⟨World.ownsRow_nil _ _ _ _, fun b hb => by simp [Value.ownBlock] at hb, fun b hb => by simp [Value.ownBlock] at hb⟩
theorem own_block {base : Nat} (o : w.ownsRow base ty sz v n cs) {w' : World} (hb : ∀ b, v.ownBlock = some b → w'.heap[b]? = w.heap[b]?) : w'.ownsRow base ty sz v n cs := by
  rcases o with ⟨h1, h2 | ⟨g, cap, cur, hv, hb', hg, hn, hm, hs, ht⟩⟩
  · exact ⟨h1, .inl h2⟩
  · exact ⟨h1, .inr ⟨g, cap, cur, hv, hb', (hb g (by rw [hv]; rfl)).trans hg, hn, hm, hs, ht⟩⟩
theorem Gro.lt (r : Gro h0 B w h ty sz v n cs) {b : Nat} (hb : v.ownBlock = some b) : b < h.size := lt_of_some (r.jk b hb)
theorem own_lt {base : Nat} (o : w.ownsRow base ty sz v n cs) {b : Nat} (hb : v.ownBlock = some b) : b < w.heap.size := by
  rcases o with ⟨_, ⟨rfl, _⟩ | ⟨g, cap, cur, rfl, _, hg, _⟩⟩
  · simp [Value.ownBlock] at hb
  · simp [Value.ownBlock] at hb
    subst hb
    rcases Nat.lt_or_ge g w.heap.size with hl | hl
    · exact hl
    · rw [Array.getElem?_eq_none hl] at hg; cases hg
theorem Gro.up (r : Gro h0 B w h ty sz v n cs) {w' : World} {h' : Hp} (u : Up w h w' h') : Gro h0 B w' h' ty sz v n cs :=
  ⟨own_block r.own (fun b hb => Below.block u.ext b (own_lt r.own hb)), fun b hb => (u.gr.blk b (r.lt hb)).trans (r.jk b hb), r.ap⟩
theorem Gro.put (r : Gro h0 B w h ty sz v n cs) {w' : World} {b : Nat} (p : Put b w w') (hb : b ∈ B) : Gro h0 B w' h ty sz v n cs :=
  ⟨own_block r.own (fun c hc => p.blk c (fun e => r.ap c hc (e ▸ hb))), r.jk, r.ap⟩
/-- A new variable of the function's own, newer than hr. -/
theorem Gro.new (r : Gro h0 B w h ty sz v n cs) (b : Nat) (hb : ∀ c, v.ownBlock = some c → c ≠ b) : Gro h0 (b :: B) w h ty sz v n cs :=
  ⟨r.own, r.jk, fun c hc hm => by
    rcases List.mem_cons.1 hm with e | e
    · exact hb c hc e
    · exact r.ap c hc e⟩
theorem Gro.to (r : Gro h0 B w h ty sz v n cs) (B' : List Nat) (e : B = B') : Gro h0 B' w h ty sz v n cs := e ▸ r
theorem Gro.drop (r : Gro h0 B w h ty sz v n cs) (k : Nat) : Gro h0 (B.drop k) w h ty sz v n cs := ⟨r.own, r.jk, fun b hb hm => r.ap b hb (List.mem_of_mem_drop hm)⟩
theorem Gro.sub (r : Gro h0 B w h ty sz v n cs) (B' : List Nat) (hs : ∀ b ∈ B', b ∈ B) : Gro h0 B' w h ty sz v n cs := ⟨r.own, r.jk, fun b hb hm => r.ap b hb (hs b hm)⟩
/-- A variable of the function's own has been handed out. -/
theorem Gro.out (r : Gro h0 B w h ty sz v n cs) {h' : Hp} {b : Nat} (hb : b ∈ B) (hh : ∀ c, c ≠ b → h'[c]? = h[c]?) : Gro h0 B w h' ty sz v n cs :=
  ⟨r.own, fun c hc => (hh c (fun e => r.ap c hc (e ▸ hb))).trans (r.jk c hc), r.ap⟩
/-- Another row has grown. -/
theorem Gro.app (r : Gro h0 B w h ty sz v n cs) {w' : World} {h' : Hp} {row : Option Nat} (gr : w.grownBy w' row) (hh : Gr h h') (hne : ∀ b, v.ownBlock = some b → row ≠ some b) : Gro h0 B w' h' ty sz v n cs :=
  ⟨own_block r.own (fun b hb => gr.block b (own_lt r.own hb) (fun e => hne b hb e.symm)), fun b hb => (hh.blk b (r.lt hb)).trans (r.jk b hb), r.ap⟩
/-- What append does to all else. -/
theorem grown_st {w0 : World} {B' : List Bx} {w' : World} (s : St w0 h0 w h B') (g0 : G w0 h0) (r : Gro h0 (B'.map (·.b)) w h ty sz v n cs) (gr : w.grownBy w' v.ownBlock) : ∃ h', Gr h h' ∧ St w0 h0 w' h' B' ∧ ∀ b, h.size ≤ b → b < w'.heap.size → h'[b]? = some junk := by
  have hlo : ∀ b, v.ownBlock = some b → h0.size ≤ b := by
    intro b hb
    rcases r.own with ⟨_, ⟨rfl, _⟩ | ⟨g, cap, cur, rfl, hbb, _⟩⟩
    · simp [Value.ownBlock] at hb
    · simp [Value.ownBlock] at hb; omega
  have hsz := s.g.size
  have hle := gr.size
  have hGr : Gr h (h ++ Array.replicate (w'.heap.size - h.size) junk) := ⟨by simp, fun b hb => Array.getElem?_append_left hb⟩
  refine ⟨h ++ Array.replicate (w'.heap.size - h.size) junk, hGr, ⟨⟨⟨gr.os.trans s.up.ext.os, gr.tape.trans s.up.ext.tape, gr.output.trans s.up.ext.output, Nat.le_trans s.up.ext.size hle, fun b hb => ?_⟩, s.up.gr.trans hGr, ⟨by simp; omega, fun b => ?_⟩⟩, ?_, ?_, s.lo, s.nd⟩, ?_⟩
  · rw [gr.block b (Nat.lt_of_lt_of_le hb s.up.ext.size) (fun e => by have := hlo b e.symm; rw [g0.size] at hb; omega)]
    exact Below.block s.up.ext b hb
  · rcases Nat.lt_or_ge b h.size with hb | hb
    · rw [Array.getElem?_append_left hb]
      by_cases e : v.ownBlock = some b
      · exact .inr (r.jk b e)
      · rw [gr.block b (by omega) (fun e' => e e'.symm)]; exact s.g.blk b
    · by_cases hl : b < w'.heap.size
      · right
        rw [Array.getElem?_append_right hb, Array.getElem?_replicate, if_pos (by omega)]
      · left
        rw [Array.getElem?_eq_none (by simp; omega), Array.getElem?_eq_none (by omega)]
  · intro x hx
    show w'.heap[x.b]? = _
    rw [gr.block x.b (s.own x hx).lt (fun e => r.ap x.b e.symm (List.mem_map.2 ⟨x, hx, rfl⟩))]
    exact s.own x hx
  · intro x hx
    rw [hGr.blk _ (lt_of_some (s.jk x hx))]; exact s.jk x hx
  · intro b h1 h2
    rw [Array.getElem?_append_right h1, Array.getElem?_replicate, if_pos (by omega)]
/-- A grown row is handed out. -/
theorem Gro.pub {w0 : World} {B' : List Bx} (s : St w0 h0 w h B') (r : Gro h0 (B'.map (·.b)) w h ty sz v n cs) : ∃ h', St w0 h0 w h' B' ∧ Gw h h' ∧ ∃ A cap, v = .slice A n cap ∧ n ≤ cap ∧ (0 < n → A = some ⟨aB A, 0, none⟩ ∧ aO A = 0) ∧ Seg h' (aB A) 0 cs := by
  rcases r.own with ⟨h1, ⟨rfl, rfl⟩ | ⟨b, cap, cur, rfl, hbb, hg, hn, hm, hs, ht⟩⟩
  · have : cs = [] := List.eq_nil_of_length_eq_zero (by simpa using h1)
    subst this
    exact ⟨h, s, ⟨Nat.le_refl _, fun _ _ => .inl rfl⟩, none, 0, rfl, Nat.le_refl _, fun h => by omega, fun i v hv => by simp at hv⟩
  · have hjk := r.jk b rfl
    have hlt := lt_of_some hjk
    have hne : ∀ x ∈ B', x.b ≠ b := fun x hx e => r.ap b rfl (List.mem_map.2 ⟨x, hx, e⟩)
    refine ⟨h.setIfInBounds b (.cells cur ty), ⟨⟨s.up.ext, ⟨by simp; exact s.up.gr.size, fun c hc => ?_⟩, ⟨by simp; exact s.up.g.size, fun c => ?_⟩⟩, s.own, ?_, s.lo, s.nd⟩, ⟨by simp, fun c hc => ?_⟩, some ⟨b, 0, none⟩, cap, rfl, hn, fun _ => ⟨rfl, rfl⟩, ?_⟩
    · rw [Array.getElem?_setIfInBounds_ne (by omega)]; exact s.up.gr.blk c hc
    · by_cases e : b = c
      · subst e; left; rw [Array.getElem?_setIfInBounds_self_of_lt hlt]; exact hg.symm
      · rw [Array.getElem?_setIfInBounds_ne e]; exact s.up.g.blk c
    · intro x hx
      rw [Array.getElem?_setIfInBounds_ne (Ne.symm (hne x hx))]; exact s.jk x hx
    · by_cases e : b = c
      · subst e; exact .inr hjk
      · left; rw [Array.getElem?_setIfInBounds_ne e]
    · intro i u hu
      unfold hcell
      show (match (h.setIfInBounds b (.cells cur ty))[b]? with | some (.cells c _ _) => c[0 + i]? | _ => none) = some u
      rw [Array.getElem?_setIfInBounds_self_of_lt hlt]
      rw [← ht] at hu
      have hi : i < n * sz := by
        rcases Nat.lt_or_ge i (n * sz) with hl | hl
        · exact hl
        · rw [List.getElem?_eq_none (by simp; omega)] at hu; cases hu
      rw [List.getElem?_take_of_lt hi] at hu
      simpa using hu
/-- As a slice that is read. -/
theorem SlV.of_pub {α : Type} {f : α → List Value} {d : α} {l : List α} {A : Option Addr} {cap : Nat} (hf : ∀ x, (f x).length = sz) (hc : l.length ≤ cap) (hA : 0 < l.length → A = some ⟨aB A, 0, none⟩ ∧ aO A = 0) (sg : Seg h (aB A) 0 (l.flatMap f)) : SlV sz f d h (.slice A l.length cap) l := by
  refine ⟨A, cap, rfl, hc, ?_⟩
  rcases Nat.eq_zero_or_pos l.length with h0' | h0'
  · have : l = [] := List.eq_nil_of_length_eq_zero h0'
    subst this; exact SlO.nil
  · obtain ⟨e1, e2⟩ := hA h0'
    have := SlO.of_flat (d := d) hf sg
    rw [← e1] at this
    exact this
theorem Gro.snoc {α : Type} {f : α → List Value} {l : List α} {x : α} {news : List Value} (r : Gro h0 B w h ty sz v (l.length + 1) (l.flatMap f ++ news)) (e : news = f x) : Gro h0 B w h ty sz v (l ++ [x]).length ((l ++ [x]).flatMap f) := by
  subst e
  have e1 : (l ++ [x]).length = l.length + 1 := by simp
  have e2 : (l ++ [x]).flatMap f = l.flatMap f ++ f x := by simp
  rw [e1, e2]; exact r
/-- Two rows lie apart. -/
def Apart (v u : Value) : Prop := ∀ b, v.ownBlock = some b → u.ownBlock ≠ some b
theorem Apart.symm {v u : Value} (h : Apart v u) : Apart u v := fun b hb hv => h b hv hb
theorem Apart.grown {v v' u : Value} (h : Apart v u) (hb : v'.ownBlock = v.ownBlock ∨ v'.ownBlock = some w.heap.size) (hu : ∀ b, u.ownBlock = some b → b < w.heap.size) : Apart v' u := fun b hv hu' => by
  rcases hb with e | e
  · exact h b (e ▸ hv) hu'
  · rw [e] at hv
    injection hv with hv
    have := hu b hu'
    omega
theorem Apart.nil {u : Value} : Apart (.slice none 0 0) u := fun b hb => by simp [Value.ownBlock] at hb
end gro
section app
variable {P : Program} {n : Nat} {N R : Po} {X : Nat → Po} {ops : Array Oper} {k0 : Nat} {hr : Hp} {AL : List Al} {L : Array Bool} {Γ : Env} {w : World} {h : Hp} {w0 : World} {h0 : Hp} {B : List Bx}
/-- append of elements that lie elsewhere. -/
theorem app_run {o : Oper} {x y : Operand} {t e : TypeId} {z : Value} {sz bt m m2 c : Nat} {v : Value} {cs news : List Value} {a : Addr} (ho : o.op = .call { callee := .builtin .append, args := #[x, y], argTypes := #[t, t] })
    (hx : ev Γ x = v) (hy : ev Γ y = .slice (some a) m2 c) (hu : P.underlying t = some (.slice e)) (hi : (P.info? e).map (fun i => (i.zero, i.size, i.bytes)) = some (some z, sz, bt)) (hzs : z.cells.size = sz) (hpos : 0 < sz)
    (s : St w0 h0 w h B) (r : Gro h0 (B.map (·.b)) w h e sz v m cs) (hl : news.length = m2 * sz) (hnews : ∀ j u, news[j]? = some u → w.cell? (a.add j) = some u) (h1 : ∀ u ∈ news, u.oneCell' = true)
    (hm : m + m2 ≤ 1099511627776) (hb : (m + m2) * bt ≤ 140737488355328) :
    ∃ v' w', (execOp (ev Γ) o).run P w = .ok (.value v') w' ∧ w'.ownsRow h0.size e sz v' (m + m2) (cs ++ news) ∧ w.grownBy w' v.ownBlock ∧ (v'.ownBlock = v.ownBlock ∨ v'.ownBlock = some w.heap.size) := by
  cases hinf : P.info? e with
  | none => rw [hinf] at hi; cases hi
  | some inf =>
    rw [hinf] at hi
    simp only [Option.map_some, Option.some.injEq, Prod.mk.injEq] at hi
    obtain ⟨i1, i2, i3⟩ := hi
    obtain ⟨v', w', hrun, h2, h3, h4, h5⟩ := run_append_own_at (P := P) w h0.size t o.type e inf z sz bt hu hinf i1 i2 i3 hzs hpos v m cs r.own a m2 c news hl hnews h1 (by unfold maxLen; omega) hb (by rw [s.g.size]; exact s.sz)
    refine ⟨v', w', ?_, h2, h3, h5⟩
    unfold execOp
    simp only [ho, resolve, invoke, builtin, Sem.run_bind, Sem.run_pure, Result.andThen_ok, List.map_toArray, List.map_cons, List.map_nil, hx, hy, hrun]
theorem Gro.grown {ty : TypeId} {sz m m2 : Nat} {v v' : Value} {cs news : List Value} {w' : World} {h' : Hp} (s : St w0 h0 w h B) (r : Gro h0 (B.map (·.b)) w h ty sz v m cs) (ow : w'.ownsRow h0.size ty sz v' (m + m2) (cs ++ news)) (hb : v'.ownBlock = v.ownBlock ∨ v'.ownBlock = some w.heap.size) (hh : Gr h h') (hj : ∀ b, h.size ≤ b → b < w'.heap.size → h'[b]? = some junk) :
    Gro h0 (B.map (·.b)) w' h' ty sz v' (m + m2) (cs ++ news) := by
  have hlt : ∀ b, v'.ownBlock = some b → b < w'.heap.size := by
    intro b hb'
    rcases ow with ⟨_, ⟨rfl, _⟩ | ⟨g, cap, cur, rfl, _, hg, _⟩⟩
    · simp [Value.ownBlock] at hb'
    · simp [Value.ownBlock] at hb'
      subst hb'
      rcases Nat.lt_or_ge g w'.heap.size with hl | hl
      · exact hl
      · rw [Array.getElem?_eq_none hl] at hg; cases hg
  refine ⟨ow, fun b hb' => ?_, fun b hb' => ?_⟩
  · rcases hb with e | e
    · rw [e] at hb'; rw [hh.blk b (r.lt hb')]; exact r.jk b hb'
    · have : b = w.heap.size := by rw [e] at hb'; injection hb' with hb'; exact hb'.symm
      exact hj b (by rw [this, s.g.size]; exact Nat.le_refl _) (hlt b hb')
  · rcases hb with e | e
    · rw [e] at hb'; exact r.ap b hb'
    · have : b = w.heap.size := by rw [e] at hb'; injection hb' with hb'; exact hb'.symm
      intro hm
      obtain ⟨x, hx, he⟩ := List.mem_map.1 hm
      have := (s.own x hx).lt
      have he' : x.b = b := he
      omega
theorem seg_news {b : Nat} {news : List Value} (g : G w h) (sg : Seg h b 0 news) : ∀ j u, news[j]? = some u → w.cell? ((⟨b, 0, none⟩ : Addr).add j) = some u := by
  intro j u hu
  have := hcell_w g (sg j u hu)
  unfold Addr.add
  split
  · rename_i h0; subst h0; exact this
  · exact this
/-- append, in a region that is not drawn. -/
theorem LG.app {k : Nat} (t : Nat) {x y : Operand} {ty e : TypeId} {z : Value} {sz bt m m2 c b : Nat} {v : Value} {cs news : List Value} (s : St w0 h0 w h B) (g0 : G w0 h0) (r : Gro h0 (B.map (·.b)) w h e sz v m cs) (sg : Seg h b 0 news)
    (hc : (chkL ops Γ k && ((opAt ops k).dst == some t) && decide (t < n)) = true) (hw : wantE ops Γ (opAt ops k) = some true)
    (ho : (opAt ops k).op = .call { callee := .builtin .append, args := #[x, y], argTypes := #[ty, ty] }) (hx : ev Γ x = v) (hy : ev Γ y = .slice (some ⟨b, 0, none⟩) m2 c)
    (hu : P.underlying ty = some (.slice e)) (hi : (P.info? e).map (fun i => (i.zero, i.size, i.bytes)) = some (some z, sz, bt)) (hzs : z.cells.size = sz) (hpos : 0 < sz) (hl : news.length = m2 * sz) (h1 : news.all (·.oneCell') = true)
    (hm : m + m2 ≤ 1099511627776) (hb : (m + m2) * bt ≤ 140737488355328)
    (H : ∀ v' w' h', Gr h h' → w.grownBy w' v.ownBlock → (v'.ownBlock = v.ownBlock ∨ v'.ownBlock = some w.heap.size) → St w0 h0 w' h' B → Gro h0 (B.map (·.b)) w' h' e sz v' (m + m2) (cs ++ news) → LG P n N R X ops (k + 1) ((t, v') :: Γ) w') : LG P n N R X ops k Γ w := by
  obtain ⟨v', w', hrun, ow, gr, hloc⟩ := app_run (P := P) ho hx hy hu hi hzs hpos s r hl (seg_news s.g sg) (fun u hu => (List.all_eq_true.1 h1) u hu) hm hb
  obtain ⟨h', hh, s', hj⟩ := grown_st s g0 r gr
  exact LG.val t v' w' hc hw hrun (H v' w' h' hh gr hloc s' (r.grown s ow hloc hh hj))
end app
end Go.Proofs.YtmkonbkdjmfjhaaGreatDoor
