/- The engine: a callee that writes a variable of its caller's; append in a drawn region. No program in sight. -/
import Derived.Test.YtmkonbkdjmfjhaaGreatDoorGro
namespace Go.Proofs.YtmkonbkdjmfjhaaGreatDoor
open Go.RowKit

theorem UpM.weak {M M' : List Nat} {w w' : World} {h h' : Hp} (u : UpM M w h w' h') (s : ∀ b ∈ M, b ∈ M') : UpM M' w h w' h' :=
  ⟨⟨u.mo.os, u.mo.tape, u.mo.output, u.mo.size, fun b hb hn => u.mo.blk b hb (fun hm => hn (s b hm))⟩, u.gr, u.g⟩
theorem UpM.put {M : List Nat} {w0 w w' : World} {h0 h : Hp} {b : Nat} (u : UpM M w0 h0 w h) (p : Put b w w') (hb : b ∈ M) (g : G w' h) : UpM M w0 h0 w' h :=
  ⟨⟨p.os.trans u.mo.os, p.tape.trans u.mo.tape, p.output.trans u.mo.output, by rw [p.size]; exact u.mo.size, fun c hc hn => (p.blk c (fun e => hn (e ▸ hb))).trans (u.mo.blk c hc hn)⟩, u.gr, g⟩
/-- A callee that is handed a variable of the caller's. -/
theorem St.at_ {w : World} {h : Hp} {rb : Nat} {t : TypeId} {vs : List Value} (g : G w h) (o : Own w rb t vs) (j : h[rb]? = some junk) : ∃ w0 h0, G w0 h0 ∧ St w0 h0 w h [⟨rb, t, vs⟩] := by
  have hlt := lt_of_some j
  have hsz := g.size
  refine ⟨{ w with heap := w.heap.extract 0 rb }, h.extract 0 rb, ⟨by simp; omega, fun b => ?_⟩, ⟨⟨⟨rfl, rfl, rfl, by simp; omega, fun b hb => ?_⟩, ⟨by simp; omega, fun b hb => ?_⟩, g⟩, ?_, ?_, ?_, by simp⟩⟩
  · show (h.extract 0 rb)[b]? = (w.heap.extract 0 rb)[b]? ∨ _
    rw [Array.getElem?_extract, Array.getElem?_extract]
    by_cases hb : b < rb
    · rw [if_pos (by omega), if_pos (by omega)]; simpa using g.blk b
    · rw [if_neg (by omega), if_neg (by omega)]; exact .inl rfl
  · have hb' : b < rb := by have : b < (w.heap.extract 0 rb).size := hb; simp at this; omega
    show w.heap[b]? = (w.heap.extract 0 rb)[b]?
    rw [Array.getElem?_extract, if_pos (by omega)]; simp
  · have hb' : b < rb := by simp at hb; omega
    rw [Array.getElem?_extract, if_pos (by omega)]; simp
  · intro x hx; rw [List.mem_singleton] at hx; subst hx; exact o
  · intro x hx; rw [List.mem_singleton] at hx; subst hx; exact j
  · intro x hx; rw [List.mem_singleton] at hx; subst hx; simp; omega
/-- The post of a function that writes block rb of its caller's. -/
def RetM (rb : Nat) (w0 : World) (h0 : Hp) (Φ : Value → World → Hp → Prop) : Ending → World → Prop := fun e w' => ∃ v h', e = .returned v ∧ UpM [rb] w0 h0 w' h' ∧ Φ v w' h'
section
variable {P : Program} {n : Nat} {Γ : Env} {w : World} {h : Hp} {w0 wz : World} {h0 hz : Hp} {B : List Bx}
theorem retM {fn : Func} {rb : Nat} {Φ : Value → World → Hp → Prop} (s : St wz hz w h B) (um : UpM [rb] w0 h0 w h) (ps : List (Nat × Nat × Nat)) (v : Value) (hk : (resK fn Γ && partsOk B ps) = true) (he : evalL P (resE fn Γ) (partsV B ps) = some (v, partsA B ps)) (hΦ : Φ v w h) :
    ∀ a, Kn n a Γ → RetP P fn (RetM rb w0 h0 Φ) a w := by
  intro a ka
  rw [Bool.and_eq_true] at hk
  refine ⟨ka.df, v, ?_, v, h, rfl, um, hΦ⟩
  rw [results_env ka hk.1]
  exact evalL_run _ _ _ _ he (parts_cells s.own ps hk.2)
/-- The caller behind such a call. -/
theorem St.stepM (s : St w0 h0 w h B) (g0 : G w0 h0) {j : Nat} {vs : List Value} {w' : World} {h' : Hp} (hj : j < B.length) (u : UpM [(bxAt B j).b] w h w' h') (ho : Own w' (bxAt B j).b (bxAt B j).t vs) : St w0 h0 w' h' (setV B j vs) := by
  have hm := bxAt_mem hj
  have hlo := s.lo _ hm
  have hbs : (setV B j vs).map (·.b) = B.map (·.b) := by
    unfold setV
    rw [List.map_set]
    apply List.ext_getElem?
    intro i
    by_cases e : j = i
    · subst e
      rw [List.getElem?_set_self (by simpa using hj)]
      simp [bxAt, hj]
    · rw [List.getElem?_set_ne e]
  have hup : Up w0 h0 w' h' := by
    refine ⟨⟨u.mo.os.trans s.up.ext.os, u.mo.tape.trans s.up.ext.tape, u.mo.output.trans s.up.ext.output, Nat.le_trans s.up.ext.size u.mo.size, fun c hc => ?_⟩, s.up.gr.trans u.gr, u.g⟩
    rw [u.mo.blk c (Nat.lt_of_lt_of_le hc s.up.ext.size) (fun hm => by rw [List.mem_singleton] at hm; rw [g0.size] at hc; omega)]
    exact Below.block s.up.ext c hc
  have back : ∀ x ∈ setV B j vs, ∃ y ∈ B, y.b = x.b := by
    intro x hx
    have : x.b ∈ (setV B j vs).map (·.b) := List.mem_map.2 ⟨x, hx, rfl⟩
    rw [hbs] at this
    obtain ⟨y, hy, he⟩ := List.mem_map.1 this
    exact ⟨y, hy, he⟩
  refine ⟨hup, ?_, ?_, ?_, by rw [hbs]; exact s.nd⟩
  · intro x hx
    obtain ⟨i, hi, he⟩ := List.mem_iff_getElem.1 hx
    have hi' : i < B.length := by simpa [setV] using hi
    by_cases e : j = i
    · subst e
      have : x = { bxAt B j with vs := vs } := by rw [← he]; simp [setV]
      subst this
      exact ho
    · have hx' : x = B[i] := by rw [← he]; simp [setV, e]
      subst hx'
      have hne : B[i].b ≠ (bxAt B j).b := by
        intro heq
        have h1 : (B.map (·.b))[i]'(by simpa using hi') = (B.map (·.b))[j]'(by simpa using hj) := by
          simp only [List.getElem_map]
          rw [heq]
          simp [bxAt, hj]
        exact e ((List.getElem_inj s.nd).1 h1).symm
      have hO := s.own _ (List.getElem_mem hi')
      show w'.heap[B[i].b]? = _
      rw [u.mo.blk _ hO.lt (fun hm => hne (List.mem_singleton.1 hm))]
      exact hO
  · intro x hx
    obtain ⟨y, hy, he⟩ := back x hx
    rw [← he, u.gr.blk _ (lt_of_some (s.jk y hy))]
    exact s.jk y hy
  · intro x hx
    obtain ⟨y, hy, he⟩ := back x hx
    rw [← he]; exact s.lo y hy
/-- A row of the caller's behind such a call. -/
theorem Gro.upM {hb : Hp} {Bs : List Nat} {ty : TypeId} {sz : Nat} {v : Value} {m : Nat} {cs : List Value} (r : Gro hb Bs w h ty sz v m cs) {w' : World} {h' : Hp} {b : Nat} (u : UpM [b] w h w' h') (hm : b ∈ Bs) : Gro hb Bs w' h' ty sz v m cs :=
  ⟨own_block r.own (fun c hc => u.mo.blk c (own_lt r.own hc) (fun e => by rw [List.mem_singleton] at e; exact r.ap c hc (e ▸ hm))), fun c hc => (u.gr.blk c (r.lt hc)).trans (r.jk c hc), r.ap⟩
theorem notM_row {hb : Hp} {ty : TypeId} {sz : Nat} {v : Value} {m : Nat} {cs : List Value} (r : Gro hb (B.map (·.b)) w h ty sz v m cs) {j : Nat} (hj : decide (j < B.length) = true) : (bxAt B j).b ∉ v.ownBlock.toList := fun hm => by
  rw [Option.mem_toList] at hm
  exact r.ap _ hm (List.mem_map.2 ⟨_, bxAt_mem (of_decide_eq_true hj), rfl⟩)
theorem bx_ne (s : St w0 h0 w h B) {i j : Nat} (hi : decide (i < B.length) = true) (hj : decide (j < B.length) = true) (hne : (i == j) = false) : (bxAt B i).b ≠ (bxAt B j).b := by
  have hi' := of_decide_eq_true hi
  have hj' := of_decide_eq_true hj
  intro heq
  have h1 : (B.map (·.b))[i]'(by simpa using hi') = (B.map (·.b))[j]'(by simpa using hj') := by
    simp only [List.getElem_map]
    simpa [bxAt, hi', hj'] using heq
  have := (List.getElem_inj s.nd).1 h1
  subst this
  simp at hne
theorem notM_both {hb : Hp} {ty : TypeId} {sz : Nat} {v : Value} {m : Nat} {cs : List Value} (s : St w0 h0 w h B) (r : Gro hb (B.map (·.b)) w h ty sz v m cs) {i j : Nat} (hi : decide (i < B.length) = true) (hj : decide (j < B.length) = true) (hne : (i == j) = false) : (bxAt B j).b ∉ (bxAt B i).b :: v.ownBlock.toList := fun hm => by
  rcases List.mem_cons.1 hm with e | e
  · exact bx_ne s hi hj hne e.symm
  · exact notM_row r hj e
end
section app
variable {M : Ms} {P : Program} {n : Nat} {N R : Po} {X : Nat → Po} {ops : Array Oper} {k0 : Nat} {hr : Hp} {AL : List Al} {L : Array Bool} {Γ : Env} {w : World} {h : Hp} {w0 : World} {h0 : Hp} {B : List Bx}
/-- append, in a drawn region. -/
theorem Rg.app (i t : Nat) {x y : Operand} {ty e : TypeId} {z : Value} {sz bt m m2 c b : Nat} {v : Value} {cs news : List Value} (s : St w0 h0 w h B) (g0 : G w0 h0) (r : Gro h0 (B.map (·.b)) w h e sz v m cs) (sg : Seg h b 0 news)
    (hMv : ∀ b, v.ownBlock = some b → b ∈ M.l)
    (hc : (chkEv n ops k0 AL L i t && knownOp Γ (opAt ops i)) = true) (hw : wantE ops Γ (opAt ops i) = some true)
    (ho : (opAt ops i).op = .call { callee := .builtin .append, args := #[x, y], argTypes := #[ty, ty] }) (hx : ev Γ x = v) (hy : ev Γ y = .slice (some ⟨b, 0, none⟩) m2 c)
    (hu : P.underlying ty = some (.slice e)) (hi : (P.info? e).map (fun i => (i.zero, i.size, i.bytes)) = some (some z, sz, bt)) (hzs : z.cells.size = sz) (hpos : 0 < sz) (hl : news.length = m2 * sz) (h1 : news.all (·.oneCell') = true)
    (hm : m + m2 ≤ 1099511627776) (hb : (m + m2) * bt ≤ 140737488355328)
    (H : ∀ w1 h1, Up w h w1 h1 → ∀ v' w' h', Gr h1 h' → w1.grownBy w' v.ownBlock → (v'.ownBlock = v.ownBlock ∨ v'.ownBlock = some w1.heap.size) → St w0 h0 w' h' B → Gro h0 (B.map (·.b)) w' h' e sz v' (m + m2) (cs ++ news) → EG M P n N R X ops k0 hr AL (L.setIfInBounds i true) ((t, v') :: Γ) w' h') : EG M P n N R X ops k0 hr AL L Γ w h := by
  refine Rg.event i t hc hw (fun w1 h1' u => ?_)
  have s1 := s.step u
  have r1 := r.up u
  have sg1 := sg.gw u.gr.gw
  obtain ⟨v', w', hrun, ow, gr, hloc⟩ := app_run (P := P) ho hx hy hu hi hzs hpos s1 r1 hl (seg_news s1.g sg1) (fun u hu => (List.all_eq_true.1 h1) u hu) hm hb
  obtain ⟨h', hh, s', hj⟩ := grown_st s1 g0 r1 gr
  exact .inl ⟨v', w', h', hrun, ⟨⟨gr.os, gr.tape, gr.output, gr.size, fun c hc hn => gr.block c hc (fun e => hn (hMv c e.symm))⟩, hh, s'.g⟩, H w1 h1' u v' w' h' hh gr hloc s' (r1.grown s1 ow hloc hh hj)⟩
end app
section pub
variable {h0 : Hp} {B : List Nat} {w : World} {h : Hp} {ty : TypeId} {sz : Nat} {v : Value} {n : Nat} {cs : List Value}
theorem Gro.sl {v : Value} (r : Gro h0 B w h ty sz v n cs) : ∃ A m c, v = .slice A m c := by
  rcases r.own with ⟨_, ⟨rfl, _⟩ | ⟨_, _, _, rfl, _⟩⟩ <;> exact ⟨_, _, _, rfl⟩
/-- A grown row is handed out; what else is the same. -/
theorem Gro.pub3 {w0 : World} {B' : List Bx} {A : Option Addr} {n' cap : Nat} (s : St w0 h0 w h B') (r : Gro h0 (B'.map (·.b)) w h ty sz (.slice A n' cap) n cs) : ∃ h', St w0 h0 w h' B' ∧ Gw h h' ∧ (∀ c, (Value.slice A n' cap).ownBlock ≠ some c → h'[c]? = h[c]?) ∧ n' = n ∧ n ≤ cap ∧ (0 < n → A = some ⟨aB A, 0, none⟩ ∧ aO A = 0) ∧ Seg h' (aB A) 0 cs := by
  rcases r.own with ⟨h1, ⟨e, rfl⟩ | ⟨b, cap', cur, e, hbb, hg, hn, hm, hs, ht⟩⟩
  · injection e with e1 e2 e3
    subst e1 e2 e3
    have : cs = [] := List.eq_nil_of_length_eq_zero (by simpa using h1)
    subst this
    exact ⟨h, s, ⟨Nat.le_refl _, fun _ _ => .inl rfl⟩, fun _ _ => rfl, rfl, Nat.le_refl _, fun h => by omega, fun i v hv => by simp at hv⟩
  · injection e with e1 e2 e3
    subst e1 e2 e3
    have hjk := r.jk b rfl
    have hlt := lt_of_some hjk
    have hne : ∀ x ∈ B', x.b ≠ b := fun x hx e => r.ap b rfl (List.mem_map.2 ⟨x, hx, e⟩)
    refine ⟨h.setIfInBounds b (.cells cur ty), ⟨⟨s.up.ext, ⟨by simp; exact s.up.gr.size, fun c hc => ?_⟩, ⟨by simp; exact s.up.g.size, fun c => ?_⟩⟩, s.own, ?_, s.lo, s.nd⟩, ⟨by simp, fun c hc => ?_⟩, fun c hc => ?_, rfl, hn, fun _ => ⟨rfl, rfl⟩, ?_⟩
    · rw [Array.getElem?_setIfInBounds_ne (by omega)]; exact s.up.gr.blk c hc
    · by_cases e : b = c
      · subst e; left; rw [Array.getElem?_setIfInBounds_self_of_lt hlt]; exact hg.symm
      · rw [Array.getElem?_setIfInBounds_ne e]; exact s.up.g.blk c
    · intro x hx
      rw [Array.getElem?_setIfInBounds_ne (Ne.symm (hne x hx))]; exact s.jk x hx
    · by_cases e : b = c
      · subst e; exact .inr hjk
      · left; rw [Array.getElem?_setIfInBounds_ne e]
    · rw [Array.getElem?_setIfInBounds_ne (fun e => hc (by rw [← e]; rfl))]
    · intro i u hu
      unfold hcell
      show (match (h.setIfInBounds b (.cells cur ty))[b]? with | some (.cells c _ _) => c[0 + i]? | _ => none) = some u
      rw [Array.getElem?_setIfInBounds_self_of_lt hlt]
      rw [← ht] at hu
      have hi : i < n' * sz := by
        rcases Nat.lt_or_ge i (n' * sz) with hl | hl
        · exact hl
        · rw [List.getElem?_eq_none (by simp; omega)] at hu; cases hu
      rw [List.getElem?_take_of_lt hi] at hu
      simpa using hu
theorem Gro.pubo (r : Gro h0 B w h ty sz v n cs) {h' : Hp} {u : Value} (hh : ∀ c, u.ownBlock ≠ some c → h'[c]? = h[c]?) (ap : Apart v u) : Gro h0 B w h' ty sz v n cs := ⟨r.own, fun b hb => (hh b (ap b hb)).trans (r.jk b hb), r.ap⟩
theorem SlO.of_pub {α : Type} {f : α → List Value} {d : α} {l : List α} {A : Option Addr} (hf : ∀ x, (f x).length = sz) (hA : 0 < l.length → A = some ⟨aB A, 0, none⟩ ∧ aO A = 0) (sg : Seg h (aB A) 0 (l.flatMap f)) : SlO sz f d h A l := by
  rcases Nat.eq_zero_or_pos l.length with h0' | h0'
  · have : l = [] := List.eq_nil_of_length_eq_zero h0'
    subst this; exact SlO.nil
  · obtain ⟨e1, e2⟩ := hA h0'
    have := SlO.of_flat (d := d) hf sg
    rw [← e1] at this
    exact this
end pub
end Go.Proofs.YtmkonbkdjmfjhaaGreatDoor
