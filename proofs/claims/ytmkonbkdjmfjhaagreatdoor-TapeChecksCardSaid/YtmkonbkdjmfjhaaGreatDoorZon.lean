/- The engine: blocks that are new, a zone of blocks that the function keeps for itself, append of whole slices. No program in sight. -/
import Derived.Test.YtmkonbkdjmfjhaaGreatDoorShoE
namespace Go.Proofs.YtmkonbkdjmfjhaaGreatDoor
open Go.RowKit

theorem Gw.refl (h : Hp) : Gw h h := ⟨Nat.le_refl _, fun _ _ => .inl rfl⟩
theorem Gw.trans {a b c : Hp} (u : Gw a b) (v : Gw b c) : Gw a c := ⟨Nat.le_trans u.size v.size, fun x hx => by
  rcases u.blk x hx with e | e
  · rcases v.blk x (Nat.lt_of_lt_of_le hx u.size) with e2 | e2
    · exact .inl (e2.trans e)
    · exact .inr (e.symm.trans e2)
  · exact .inr e⟩
theorem Gw.gw {a b c : Hp} (u : Gw a b) (v : Gw b c) : Gw a c := u.trans v
/-- A block not below K, its cells cs. -/
def Nw (K : Nat) (h : Hp) (b : Nat) (t : TypeId) (cs : List Value) : Prop := K ≤ b ∧ t ≠ 0 ∧ h[b]? = some (.cells cs.toArray t (0, 0))
theorem Nw.gw {K : Nat} {h h' : Hp} {b : Nat} {t : TypeId} {cs : List Value} (x : Nw K h b t cs) (u : Gw h h') : Nw K h' b t cs := by
  obtain ⟨h1, h2, h3⟩ := x
  refine ⟨h1, h2, ?_⟩
  rcases u.blk b (lt_of_some h3) with e | e
  · exact e.trans h3
  · rw [e] at h3
    injection h3 with h3
    unfold junk at h3
    injection h3 with _ h4
    exact absurd h4.symm h2
theorem Nw.mono {K K' : Nat} {h : Hp} {b : Nat} {t : TypeId} {cs : List Value} (x : Nw K' h b t cs) (k : K ≤ K') : Nw K h b t cs := ⟨Nat.le_trans k x.1, x.2⟩
theorem Nw.seg {K : Nat} {h : Hp} {b : Nat} {t : TypeId} {cs sp : List Value} (x : Nw K h b t (cs ++ sp)) : Seg h b 0 cs := fun i v hv => by
  unfold hcell
  rw [x.2.2]
  have hi : i < cs.length := (List.getElem?_eq_some_iff.1 hv).1
  simp only [Nat.zero_add, List.getElem?_toArray]
  rw [List.getElem?_append_left hi]; exact hv
theorem Nw.seg0 {K : Nat} {h : Hp} {b : Nat} {t : TypeId} {cs : List Value} (x : Nw K h b t cs) : Seg h b 0 cs := Nw.seg (sp := []) (by rw [List.append_nil]; exact x)
/-- A new slice: its elements, and what else its block may hold. -/
def SlN {α : Type} (K : Nat) (ty : TypeId) (f : α → List Value) (h : Hp) (v : Value) (l : List α) : Prop :=
  ∃ b c sp, v = .slice (some ⟨b, 0, none⟩) l.length c ∧ l.length ≤ c ∧ Nw K h b ty (l.flatMap f ++ sp)
theorem SlN.gw {α : Type} {K : Nat} {ty : TypeId} {f : α → List Value} {h h' : Hp} {v : Value} {l : List α} (x : SlN K ty f h v l) (u : Gw h h') : SlN K ty f h' v l := by
  obtain ⟨b, c, sp, e, hc, n⟩ := x
  exact ⟨b, c, sp, e, hc, n.gw u⟩
theorem SlN.mono {α : Type} {K K' : Nat} {ty : TypeId} {f : α → List Value} {h : Hp} {v : Value} {l : List α} (x : SlN K' ty f h v l) (k : K ≤ K') : SlN K ty f h v l := by
  obtain ⟨b, c, sp, e, hc, n⟩ := x
  exact ⟨b, c, sp, e, hc, n.mono k⟩
theorem SlN.slv {α : Type} {K sz : Nat} {ty : TypeId} {f : α → List Value} {d : α} {h : Hp} {v : Value} {l : List α} (x : SlN K ty f h v l) (hf : ∀ x, (f x).length = sz) : SlV sz f d h v l := by
  obtain ⟨b, c, sp, e, hc, n⟩ := x
  exact ⟨_, c, e, hc, SlO.of_flat hf n.seg⟩

section ss
variable {w0 : World} {h0 : Hp} {w : World} {h : Hp} {B : List Bx} {R : List Rw} {F : List (Hp → Prop)}
/-- A row that has grown is handed out; it is new. -/
theorem SS.pubn (s : SS w0 h0 w h B R F) (j : Nat) {ty : TypeId} {sz c : Nat} {A : Option Addr} {α : Type} {f : α → List Value} {l : List α} (hpos : 0 < l.length) (hr : R.getD j default = ⟨ty, sz, A, c, l.length, l.flatMap f⟩ := by kernel_rfl) (hj : decide (j < R.length) = true := by kernel_rfl) (hty : (ty == 0) = false := by kernel_rfl) :
    ∃ h' b sp, SS w0 h0 w h' B (R.eraseIdx j) ((fun h => Nw h0.size h b ty (l.flatMap f ++ sp)) :: F) ∧ A = some ⟨b, 0, none⟩ ∧ l.length ≤ c := by
  have hj' := of_decide_eq_true hj
  have e0 : R[j] = ⟨ty, sz, A, c, l.length, l.flatMap f⟩ := by rw [← hr]; simp [hj']
  have hm : R[j] ∈ R := List.getElem_mem hj'
  have r0 := s.ro _ hm
  rw [e0] at r0
  have hne : ∀ r ∈ R.eraseIdx j, Apart r.v R[j].v := by
    intro r hr
    obtain ⟨i, hi, he⟩ := List.mem_iff_getElem.1 hr
    rw [List.getElem_eraseIdx] at he
    have hp := List.pairwise_iff_getElem.1 s.ap
    split at he
    · rename_i hl; rw [← he]; exact hp i j (by omega) hj' hl
    · rename_i hl
      rw [← he]
      have hi' : i + 1 < R.length := by rw [List.length_eraseIdx_of_lt hj'] at hi; omega
      exact (hp j (i + 1) hj' hi' (by omega)).symm
  have hty' : ty ≠ 0 := by simpa using hty
  rcases r0.own with ⟨h1, ⟨e, e2⟩ | ⟨b, cap', cur, e, hbb, hg, hn, hm2, hs, ht⟩⟩
  · simp only [] at e2; omega
  · simp only [Rw.v] at e
    injection e with e1 e2 e3
    subst e1 e3
    have hjk := r0.jk b rfl
    have hlt := lt_of_some hjk
    have hneB : ∀ x ∈ B, x.b ≠ b := fun x hx e => r0.ap b rfl (List.mem_map.2 ⟨x, hx, e⟩)
    have gw : Gw h (h.setIfInBounds b (.cells cur ty)) := ⟨by simp, fun c hc => by
      by_cases e : b = c
      · subst e; exact .inr hjk
      · left; rw [Array.getElem?_setIfInBounds_ne e]⟩
    have hcur : cur.toList = l.flatMap f ++ cur.toList.drop (l.length * sz) := by
      simp only [] at ht
      rw [← ht, List.take_append_drop]
    refine ⟨h.setIfInBounds b (.cells cur ty), b, cur.toList.drop (l.length * sz), ⟨s.g0, ⟨⟨s.st.up.ext, ⟨by simp; exact s.st.up.gr.size, fun c hc => ?_⟩, ⟨by simp; exact s.st.up.g.size, fun c => ?_⟩⟩, s.st.own, ?_, s.st.lo, s.st.nd⟩, ?_, s.ap.sublist (List.eraseIdx_sublist R j), ?_, ⟨hbb, hty', ?_⟩, s.f.gw s.mo gw⟩, rfl, hn⟩
    · rw [Array.getElem?_setIfInBounds_ne (by omega)]; exact s.st.up.gr.blk c hc
    · by_cases e : b = c
      · subst e; left; rw [Array.getElem?_setIfInBounds_self_of_lt hlt]; exact hg.symm
      · rw [Array.getElem?_setIfInBounds_ne e]; exact s.st.up.g.blk c
    · intro x hx
      rw [Array.getElem?_setIfInBounds_ne (Ne.symm (hneB x hx))]; exact s.st.jk x hx
    · intro r hr
      refine (s.ro r (List.mem_of_mem_eraseIdx hr)).pubo (u := .slice (some ⟨b, 0, none⟩) l.length c) (fun c' hc => ?_) (by have := hne r hr; rw [e0] at this; exact this)
      rw [Array.getElem?_setIfInBounds_ne (fun e => hc (by rw [← e]; rfl))]
    · intro p hp
      rcases List.mem_cons.1 hp with rfl | hp
      · exact fun _ _ u x => x.gw u
      · exact s.mo p hp
    · rw [← hcur, Array.getElem?_setIfInBounds_self_of_lt hlt]
/-- The new blocks of some types, as a list. -/
def zone (h : Hp) (K : Nat) (T : List TypeId) : List Bx :=
  ((List.range h.size).filter (fun b => decide (K ≤ b))).filterMap fun (b : Nat) => match h[b]? with
    | some (Obj.cells vs t (0, 0)) => if t ∈ T then some ⟨b, t, vs.toList⟩ else none
    | _ => none
theorem zone_mem {h : Hp} {K : Nat} {T : List TypeId} {x : Bx} : x ∈ zone h K T ↔ K ≤ x.b ∧ x.t ∈ T ∧ h[x.b]? = some (.cells x.vs.toArray x.t (0, 0)) := by
  unfold zone
  rw [List.mem_filterMap]
  constructor
  · rintro ⟨b, hb, he⟩
    rw [List.mem_filter, decide_eq_true_eq] at hb
    split at he
    · rename_i vs t heq
      split at he
      · rename_i ht
        injection he with he
        subst he
        exact ⟨hb.2, ht, by simpa using heq⟩
      · cases he
    · cases he
  · rintro ⟨h1, h2, h3⟩
    refine ⟨x.b, ?_, ?_⟩
    · rw [List.mem_filter, decide_eq_true_eq]; exact ⟨List.mem_range.2 (lt_of_some h3), h1⟩
    · rw [h3]; simp [h2]
theorem filterMap_nodup {f : Nat → Option Bx} (hf : ∀ b x, f b = some x → x.b = b) : ∀ {l : List Nat}, l.Nodup → ((l.filterMap f).map (·.b)).Nodup
  | [], _ => by simp
  | a :: l, h => by
    have hn := List.nodup_cons.1 h
    rw [List.filterMap_cons]
    split
    · exact filterMap_nodup hf hn.2
    · rename_i x hx
      rw [List.map_cons, List.nodup_cons]
      refine ⟨fun hm => ?_, filterMap_nodup hf hn.2⟩
      obtain ⟨y, hy, he⟩ := List.mem_map.1 hm
      obtain ⟨c, hc, hce⟩ := List.mem_filterMap.1 hy
      have e1 := hf _ _ hx
      have e2 := hf _ _ hce
      have he' : y.b = x.b := he
      have : c = a := by omega
      subst this
      exact hn.1 hc
theorem zone_nodup (h : Hp) (K : Nat) (T : List TypeId) : ((zone h K T).map (·.b)).Nodup := by
  unfold zone
  refine filterMap_nodup (fun b x hx => ?_) (List.nodup_range.filter _)
  split at hx
  · split at hx
    · injection hx with hx; rw [← hx]
    · cases hx
  · cases hx
/-- The heap, the zone struck out. -/
def unzone (h : Hp) (Z : List Bx) : Hp := Z.foldr (fun x h => h.setIfInBounds x.b junk) h
theorem unzone_size (h : Hp) (Z : List Bx) : (unzone h Z).size = h.size := by
  induction Z with
  | nil => rfl
  | cons x Z ih => show ((unzone h Z).setIfInBounds x.b junk).size = _; simp [ih]
theorem unzone_ne {h : Hp} {Z : List Bx} {b : Nat} (hb : ∀ x ∈ Z, x.b ≠ b) : (unzone h Z)[b]? = h[b]? := by
  induction Z with
  | nil => rfl
  | cons x Z ih =>
    show ((unzone h Z).setIfInBounds x.b junk)[b]? = _
    rw [Array.getElem?_setIfInBounds_ne (hb x (by simp))]
    exact ih (fun y hy => hb y (by simp [hy]))
theorem unzone_mem {h : Hp} {Z : List Bx} {x : Bx} (hx : x ∈ Z) (hl : x.b < h.size) : (unzone h Z)[x.b]? = some junk := by
  induction Z with
  | nil => cases hx
  | cons y Z ih =>
    show ((unzone h Z).setIfInBounds y.b junk)[x.b]? = _
    by_cases e : y.b = x.b
    · rw [e, Array.getElem?_setIfInBounds_self_of_lt (by rw [unzone_size]; exact hl)]
    · rw [Array.getElem?_setIfInBounds_ne e]
      rcases List.mem_cons.1 hx with rfl | hx
      · exact absurd rfl e
      · exact ih hx
/-- New blocks of some types are taken back: the facts F held at h1, before they were made. -/
theorem SS.retake {F' : List (Hp → Prop)} (s : SS w0 h0 w h B [] F') (h1 : Hp) (T : List TypeId) (hF : AllF F h1) (mo : ∀ p ∈ F, ∀ h h', Gw h h' → p h → p h') (gw : Gw h1 h) (hlo : h0.size ≤ h1.size) (hT : T.all (· != 0) = true := by kernel_rfl) :
    ∃ Y h'', SS w0 h0 w h'' (B ++ Y) [] F ∧ (∀ b t vs, Nw h1.size h b t vs → t ∈ T → (⟨b, t, vs⟩ : Bx) ∈ Y) ∧ (Y.map (·.b)).Nodup := by
  have hT' : (0 : TypeId) ∉ T := fun hm => by
    have := (List.all_eq_true.1 hT) 0 hm
    simp at this
  have hz : ∀ y ∈ zone h h1.size T, h1.size ≤ y.b ∧ y.t ∈ T ∧ h[y.b]? = some (.cells y.vs.toArray y.t (0, 0)) := fun y hy => zone_mem.1 hy
  have hzj : ∀ y ∈ zone h h1.size T, h[y.b]? ≠ some junk := fun y hy e => by
    obtain ⟨_, h2, h3⟩ := hz y hy
    rw [e] at h3
    injection h3 with h3
    unfold junk at h3
    injection h3 with _ h4
    exact hT' (h4 ▸ h2)
  have hlt : ∀ y ∈ zone h h1.size T, y.b < h.size := fun y hy => lt_of_some (hz y hy).2.2
  have hBne : ∀ x ∈ B, ∀ y ∈ zone h h1.size T, y.b ≠ x.b := fun x hx y hy e => hzj y hy (e ▸ s.st.jk x hx)
  have gw2 : Gw h1 (unzone h (zone h h1.size T)) := ⟨by rw [unzone_size]; exact gw.size, fun b hb => by
    rw [unzone_ne (fun y hy e => by have := (hz y hy).1; omega)]
    exact gw.blk b hb⟩
  refine ⟨zone h h1.size T, unzone h (zone h h1.size T), ⟨s.g0, ⟨⟨s.st.up.ext, ⟨by rw [unzone_size]; exact s.st.up.gr.size, fun b hb => ?_⟩, ⟨by rw [unzone_size]; exact s.st.up.g.size, fun b => ?_⟩⟩, ?_, ?_, ?_, ?_⟩, fun r hr => (by cases hr), .nil, mo, hF.gw mo gw2⟩, ?_, zone_nodup _ _ _⟩
  · rw [unzone_ne (fun y hy e => by have := (hz y hy).1; omega)]; exact s.st.up.gr.blk b hb
  · by_cases hm : ∃ y ∈ zone h h1.size T, y.b = b
    · obtain ⟨y, hy, e⟩ := hm
      subst e
      exact .inr (unzone_mem hy (hlt y hy))
    · rw [unzone_ne (fun y hy e => hm ⟨y, hy, e⟩)]; exact s.st.up.g.blk b
  · intro x hx
    rcases List.mem_append.1 hx with hx | hx
    · exact s.st.own x hx
    · rcases s.st.up.g.blk x.b with e | e
      · exact e.symm.trans (hz x hx).2.2
      · exact absurd e (hzj x hx)
  · intro x hx
    rcases List.mem_append.1 hx with hx | hx
    · rw [unzone_ne (hBne x hx)]; exact s.st.jk x hx
    · exact unzone_mem hx (hlt x hx)
  · intro x hx
    rcases List.mem_append.1 hx with hx | hx
    · exact s.st.lo x hx
    · exact Nat.le_trans hlo (hz x hx).1
  · rw [List.map_append, List.nodup_append]
    refine ⟨s.st.nd, zone_nodup _ _ _, fun a ha c hc e => ?_⟩
    obtain ⟨x, hx, e1⟩ := List.mem_map.1 ha
    obtain ⟨y, hy, e2⟩ := List.mem_map.1 hc
    have e1' : x.b = a := e1
    have e2' : y.b = c := e2
    exact hBne x hx y hy (by omega)
  · intro b t vs n ht
    exact zone_mem.2 ⟨n.1, ht, n.2.2⟩
/-- A block of the zone is written. -/
def setY (Y : List Bx) (b : Nat) (vs : List Value) : List Bx := Y.map fun y => if y.b = b then ⟨y.b, y.t, vs⟩ else y
theorem setY_ne {Y : List Bx} {b : Nat} {vs : List Value} {y : Bx} (hy : y ∈ Y) (hb : y.b ≠ b) : y ∈ setY Y b vs := List.mem_map.2 ⟨y, hy, by simp [hb]⟩
theorem setY_eq {Y : List Bx} {b : Nat} {t : TypeId} {vs0 vs : List Value} (hy : (⟨b, t, vs0⟩ : Bx) ∈ Y) : (⟨b, t, vs⟩ : Bx) ∈ setY Y b vs := List.mem_map.2 ⟨_, hy, by simp⟩
theorem setY_b (Y : List Bx) (b : Nat) (vs : List Value) : (setY Y b vs).map (·.b) = Y.map (·.b) := by
  unfold setY
  rw [List.map_map]
  refine List.map_congr_left (fun y _ => ?_)
  simp only [Function.comp]
  split <;> rfl
theorem setY_id {Y : List Bx} {b : Nat} {vs : List Value} (h : ∀ y ∈ Y, y.b ≠ b) : setY Y b vs = Y := by
  unfold setY
  rw [List.map_congr_left (g := id) (fun y hy => by simp [h y hy]), List.map_id]
/-- Two of one block are one. -/
theorem nd_eq {Y : List Bx} (nd : (Y.map (·.b)).Nodup) {x y : Bx} (hx : x ∈ Y) (hy : y ∈ Y) (e : x.b = y.b) : x = y := by
  obtain ⟨i, hi, rfl⟩ := List.mem_iff_getElem.1 hx
  obtain ⟨j, hj, rfl⟩ := List.mem_iff_getElem.1 hy
  have : (Y.map (·.b))[i]'(by simpa using hi) = (Y.map (·.b))[j]'(by simpa using hj) := by simpa using e
  have := (List.getElem_inj nd).1 this
  subst this
  rfl
theorem SS.ownM (s : SS w0 h0 w h B R F) {x : Bx} (hx : x ∈ B) : Own w x.b x.t x.vs := s.st.own x hx
theorem SS.putM {Y : List Bx} (s : SS w0 h0 w h (B ++ Y) R F) {x : Bx} (hx : x ∈ Y) {w' : World} {vs : List Value} (p : Put x.b w w') (ho : Own w' x.b x.t vs) : SS w0 h0 w' h (B ++ setY Y x.b vs) R F := by
  have hxm : x ∈ B ++ Y := List.mem_append_right _ hx
  have hnd := s.st.nd
  rw [List.map_append, List.nodup_append] at hnd
  have hBne : ∀ y ∈ B, y.b ≠ x.b := fun y hy e => hnd.2.2 y.b (List.mem_map.2 ⟨y, hy, rfl⟩) x.b (List.mem_map.2 ⟨x, hx, rfl⟩) e
  have hmb : (B ++ setY Y x.b vs).map (·.b) = (B ++ Y).map (·.b) := by rw [List.map_append, List.map_append, setY_b]
  refine ⟨s.g0, ⟨s.st.up.put p (s.st.jk _ hxm) (s.st.lo _ hxm) s.g0.size, ?_, ?_, ?_, by rw [hmb]; exact s.st.nd⟩, fun r hr => by rw [hmb]; exact (s.ro r hr).put p (List.mem_map.2 ⟨_, hxm, rfl⟩), s.ap, s.mo, s.f⟩
  · intro y hy
    rcases List.mem_append.1 hy with hy | hy
    · show w'.heap[y.b]? = _
      rw [p.blk _ (hBne y hy)]
      exact s.st.own y (List.mem_append_left _ hy)
    · obtain ⟨z, hz, e⟩ := List.mem_map.1 hy
      split at e
      · rename_i hb
        have : z = x := nd_eq hnd.2.1 hz hx hb
        subst this
        rw [← e]; exact ho
      · rename_i hb
        subst e
        show w'.heap[z.b]? = _
        rw [p.blk _ hb]
        exact s.st.own z (List.mem_append_right _ hz)
  · intro y hy
    have : y.b ∈ (B ++ setY Y x.b vs).map (·.b) := List.mem_map.2 ⟨y, hy, rfl⟩
    rw [hmb] at this
    obtain ⟨z, hz, e⟩ := List.mem_map.1 this
    rw [← e]; exact s.st.jk z hz
  · intro y hy
    have : y.b ∈ (B ++ setY Y x.b vs).map (·.b) := List.mem_map.2 ⟨y, hy, rfl⟩
    rw [hmb] at this
    obtain ⟨z, hz, e⟩ := List.mem_map.1 this
    rw [← e]; exact s.st.lo z hz
end ss
theorem take_drop_get {vs cs : List Value} {o : Nat} (h : (vs.drop o).take cs.length = cs) (i : Nat) (v : Value) (hv : cs[i]? = some v) : vs[o + i]? = some v := by
  have hi : i < cs.length := (List.getElem?_eq_some_iff.1 hv).1
  rw [← h, List.getElem?_take_of_lt hi, List.getElem?_drop] at hv
  exact hv
section laws
variable {M : Ms} {P : Program} {n : Nat} {N R : Po} {X : Nat → Po} {ops : Array Oper} {k k0 : Nat} {hr : Hp} {AL : List Al} {L : Array Bool} {Γ : Env} {w : World} {h : Hp} {w0 : World} {h0 : Hp} {B : List Bx} {Rs : List Rw} {F : List (Hp → Prop)}
theorem Own.run {α : Type} {w' : World} {s : Sem α} {r : α} {b o : Nat} {t : TypeId} {vs cs : List Value} (ho : Own w b t vs) (x : Ext w w') (hcs : (vs.drop o).take cs.length = cs) (he : evalL P s cs = some (r, mka b o cs.length)) : s.run P w' = .ok r w' :=
  evalL_run _ _ _ _ he (fun i a v ha hv => by rw [mka_get _ _ _ _ _ ha, (ho.ext x).cell]; exact take_drop_get hcs i v hv)
/-- A load from a block of the zone. -/
theorem lZ (t : Nat) (v : Value) (cs : List Value) {b o : Nat} {ty : TypeId} {vs : List Value} (s : SS w0 h0 w h B Rs F) (hx : (⟨b, ty, vs⟩ : Bx) ∈ B) (hcs : (vs.drop o).take cs.length = cs) (H : LG P n N R X ops (k + 1) ((t, v) :: Γ) w) (hc : cL ops Γ k t n = true := by kernel_rfl) (he : evalL P (execOp (ev Γ) (opAt ops k)) cs = some (.value v, mka b o cs.length) := by kernel_rfl) : LG P n N R X ops k Γ w :=
  LG.val t v w (cL_1 hc).1 (cL_1 hc).2 ((s.ownM hx).run (Ext.refl _) hcs he) H
theorem eZ (i t : Nat) (v : Value) (cs : List Value) {b o : Nat} {ty : TypeId} {vs : List Value} (s : SS w0 h0 w h B Rs F) (hx : (⟨b, ty, vs⟩ : Bx) ∈ B) (hcs : (vs.drop o).take cs.length = cs) (H : EG ⟨[], none⟩ P n N R X ops k0 hr AL (L.setIfInBounds i true) ((t, v) :: Γ) w h) (hc : cEl n ops k0 AL L Γ i t = true := by kernel_rfl) (he : evalL P (execOp (ev Γ) (opAt ops i)) cs = some (.value v, mka b o cs.length) := by kernel_rfl) : EG ⟨[], none⟩ P n N R X ops k0 hr AL L Γ w h :=
  Rg.load i t v (cEl_1 hc).1 (cEl_1 hc).2 (fun _ hx' => (s.ownM hx).run hx'.ext hcs he) H
/-- A store into a block of the zone. -/
theorem lPZ {Y : List Bx} (o : Nat) (cs : List Value) {b : Nat} {ty : TypeId} {vs : List Value} (s : SS w0 h0 w h (B ++ Y) Rs F) (hx : (⟨b, ty, vs⟩ : Bx) ∈ Y) (hl : o + cs.length ≤ vs.length) (H : ∀ w', SS w0 h0 w' h (B ++ setY Y b (putAt vs o cs)) Rs F → LG P n N R X ops (k + 1) Γ w') (hc : cS ops Γ k = true := by kernel_rfl)
    (he : evalW P (execOp (ev Γ) (opAt ops k)) = some (.skip, mkl b o cs) := by kernel_rfl) : LG P n N R X ops k Γ w := by
  obtain ⟨w', hrun, hp, ho⟩ := evalW_run _ _ o cs vs w he (s.ownM (List.mem_append_right _ hx)) hl
  exact LG.store w' (cS_1 hc).1 (cS_1 hc).2 hrun (H w' (s.putM hx hp ho))
theorem tPZ {Y : List Bx} (i o : Nat) (cs : List Value) {b : Nat} {ty : TypeId} {vs : List Value} (s : SS w0 h0 w h (B ++ Y) Rs F) (hx : (⟨b, ty, vs⟩ : Bx) ∈ Y) (hl : o + cs.length ≤ vs.length) (H : ∀ w', SS w0 h0 w' h (B ++ setY Y b (putAt vs o cs)) Rs F → AG M P n N R X ops k0 (L.setIfInBounds i true) Γ w')
    (hc : (chkT ops k0 L i && knownOp Γ (opAt ops i) && ((opAt ops i).dst == none)) = true := by kernel_rfl) (hw : wantE ops Γ (opAt ops i) = some true := by kernel_rfl)
    (he : evalW P (execOp (ev Γ) (opAt ops i)) = some (.skip, mkl b o cs) := by kernel_rfl) (hz : ∀ K bs, M.z = some (K, bs) → K ≤ b ∨ b ∈ bs := by intro _ _ e; cases e) : AG M P n N R X ops k0 L Γ w := by
  obtain ⟨w', hrun, hp, ho⟩ := evalW_run _ _ o cs vs w he (s.ownM (List.mem_append_right _ hx)) hl
  exact T.store i w' hc hw hrun (hp.tl hz) (H w' (s.putM hx hp ho))
/-- A store into a block of the zone, told by what is known of the zone. -/
theorem lPZx {Zp : List Bx → Prop} {Y : List Bx} (o : Nat) (cs : List Value) {b : Nat} {ty : TypeId} {vs : List Value} (s : SS w0 h0 w h (B ++ Y) Rs F) (hx : (⟨b, ty, vs⟩ : Bx) ∈ Y) (hl : o + cs.length ≤ vs.length) (hz' : Zp (setY Y b (putAt vs o cs))) (H : ∀ Y' w', SS w0 h0 w' h (B ++ Y') Rs F → Zp Y' → LG P n N R X ops (k + 1) Γ w') (hc : cS ops Γ k = true := by kernel_rfl)
    (he : evalW P (execOp (ev Γ) (opAt ops k)) = some (.skip, mkl b o cs) := by kernel_rfl) : LG P n N R X ops k Γ w := lPZ o cs s hx hl (fun w' s' => H _ w' s' hz') hc he
theorem tPZx {Zp : List Bx → Prop} {Y : List Bx} (i o : Nat) (cs : List Value) {b : Nat} {ty : TypeId} {vs : List Value} (s : SS w0 h0 w h (B ++ Y) Rs F) (hx : (⟨b, ty, vs⟩ : Bx) ∈ Y) (hl : o + cs.length ≤ vs.length) (hz' : Zp (setY Y b (putAt vs o cs))) (H : ∀ Y' w', SS w0 h0 w' h (B ++ Y') Rs F → Zp Y' → AG M P n N R X ops k0 (L.setIfInBounds i true) Γ w')
    (hc : (chkT ops k0 L i && knownOp Γ (opAt ops i) && ((opAt ops i).dst == none)) = true := by kernel_rfl) (hw : wantE ops Γ (opAt ops i) = some true := by kernel_rfl)
    (he : evalW P (execOp (ev Γ) (opAt ops i)) = some (.skip, mkl b o cs) := by kernel_rfl) (hz : ∀ K bs, M.z = some (K, bs) → K ≤ b ∨ b ∈ bs := by intro _ _ e; cases e) : AG M P n N R X ops k0 L Γ w := tPZ i o cs s hx hl (fun w' s' => H _ w' s' hz') hc hw he hz
theorem cell1 {vs : List Value} {o : Nat} {v : Value} (h : vs[o]? = some v) : (vs.drop o).take [v].length = [v] := by
  obtain ⟨ho, e⟩ := List.getElem?_eq_some_iff.1 h
  rw [List.length_singleton, List.drop_eq_getElem_cons ho, e]; rfl
theorem putAt_len : ∀ (cs vs : List Value) (o : Nat), (putAt vs o cs).length = vs.length
  | [], _, _ => rfl
  | c :: cs, vs, o => by show (putAt (vs.set o c) (o + 1) cs).length = _; rw [putAt_len, List.length_set]
/-- append of a whole slice. -/
theorem SlO.flat {α : Type} {sz : Nat} {f : α → List Value} {d : α} {A : Option Addr} : ∀ {l : List α}, (∀ x, (f x).length = sz) → SlO sz f d h A l → Seg h (aB A) (aO A) (l.flatMap f)
  | l, hf, s => fun i v hv => by
    have hi : i < (l.flatMap f).length := (List.getElem?_eq_some_iff.1 hv).1
    rw [len_flat hf] at hi
    rcases Nat.eq_zero_or_pos sz with h0' | hp
    · subst h0'; simp at hi
    · have hk : i / sz < l.length := (Nat.div_lt_iff_lt_mul hp).2 hi
      have hr : i % sz < sz := Nat.mod_lt _ hp
      have he := s.el (i / sz) hk (i % sz) v
      have hd := drop_flat hf d l (i / sz) hk
      have hm : i / sz * sz + i % sz = i := by rw [Nat.mul_comm]; exact Nat.div_add_mod i sz
      have := he (by rw [← hd, List.getElem?_take_of_lt hr, List.getElem?_drop, hm]; exact hv)
      rwa [Nat.add_assoc, hm] at this
theorem seg_newsO {b o : Nat} {news : List Value} (g : G w h) (sg : Seg h b o news) : ∀ j u, news[j]? = some u → w.cell? ((⟨b, o, none⟩ : Addr).add j) = some u := by
  intro j u hu
  have := hcell_w g (sg j u hu)
  unfold Addr.add
  split
  · rename_i h0; subst h0; exact this
  · exact this
theorem flat_row {α : Type} {f : α → List Value} {l m : List α} : l.flatMap f ++ m.flatMap f = (l ++ m).flatMap f := by simp
theorem lYs {α : Type} (t j : Nat) (ty : TypeId) (sz c : Nat) (A : Option Addr) (l : List α) (f : α → List Value) (d : α) (A2 : Option Addr) (m : List α) (c2 bt : Nat) (z : Value) (s : SS w0 h0 w h B Rs F) (so : SlO sz f d h A2 m) (hm0 : 0 < m.length)
    (H : ∀ A' c' w' h', SS w0 h0 w' h' B (Rs.set j ⟨ty, sz, A', c', (l ++ m).length, (l ++ m).flatMap f⟩) F → LG P n N R X ops (k + 1) ((t, .slice A' (l ++ m).length c') :: Γ) w')
    (hc : cL ops Γ k t n = true := by kernel_rfl) (he : apE P (ev Γ) (opAt ops k) = some (.slice A l.length c, .slice A2 m.length c2, ty, z, sz, bt) := by kernel_rfl) (hf : ∀ x, (f x).length = sz := by intro _; rfl) (h1 : ∀ x, (f x).all (·.oneCell') = true := by intro _; kernel_rfl) (hzs : z.cells.size = sz := by kernel_rfl) (hpos : 0 < sz := by decide)
    (hr : Rs.getD j default = ⟨ty, sz, A, c, l.length, l.flatMap f⟩ := by kernel_rfl) (hj : decide (j < Rs.length) = true := by kernel_rfl) (hm : l.length + m.length ≤ 1099511627776 := by omega) (hb : (l.length + m.length) * bt ≤ 140737488355328 := by omega) : LG P n N R X ops k Γ w := by
  have hj' := of_decide_eq_true hj
  have hA := so.ok hm0
  rw [hA] at he
  refine lYn t j (m.flatMap f) s (seg_newsO s.g (so.flat hf)) (len_flat hf m) (fun u hu => ?_) hj' (rw_get hr hj') hc he hzs hpos hm hb (fun A' c' w' h' s' => ?_)
  · obtain ⟨x, _, hx⟩ := List.mem_flatMap.1 hu
    exact (List.all_eq_true.1 (h1 x)) u hx
  · have e1 : l.length + m.length = (l ++ m).length := by simp
    rw [flat_row, e1] at s'
    rw [e1]
    exact H A' c' w' h' s'
/-- A new row of the function's own. -/
theorem SS.newr {α : Type} {f : α → List Value} {l : List α} {sz : Nat} (s : SS w0 h0 w h B Rs F) (ty : TypeId) (hf : ∀ x, (f x).length = sz) (hm : l.length ≤ maxLen) : SS w0 h0 (w.alloc (.cells (l.flatMap f).toArray ty (0, 0))) (h.push junk) B (⟨ty, sz, some ⟨w.heap.size, 0, none⟩, l.length, l.length, l.flatMap f⟩ :: Rs) F := by
  have u : Up w h (w.alloc (.cells (l.flatMap f).toArray ty (0, 0))) (h.push junk) := Up.allocAny s.g _ _ (.inr rfl)
  have s1 := s.step u
  refine ⟨s1.g0, s1.st, fun r hr => ?_, List.pairwise_cons.2 ⟨fun r hr => ?_, s1.ap⟩, s1.mo, s1.f⟩
  · rcases List.mem_cons.1 hr with rfl | hr
    · refine ⟨⟨len_flat hf l, .inr ⟨w.heap.size, l.length, (l.flatMap f).toArray, rfl, by rw [s.g.size]; exact s.st.sz, ?_, Nat.le_refl _, hm, ?_, ?_⟩⟩, fun b hb => ?_, fun b hb hm => ?_⟩
      · rw [heap_alloc]; exact Array.getElem?_push_size
      · simp [← len_flat hf l]
      · show List.take (l.length * sz) (l.flatMap f) = _
        rw [← len_flat hf l]; exact List.take_length
      · simp [Rw.v, Value.ownBlock] at hb
        subst hb
        rw [s.g.size]; exact Array.getElem?_push_size
      · simp [Rw.v, Value.ownBlock] at hb
        obtain ⟨x, hx, e⟩ := List.mem_map.1 hm
        have := (s.st.own x hx).lt
        have e' : x.b = b := e
        omega
    · exact s1.ro r hr
  · intro b hb hb'
    have := own_lt (s.ro r hr).own hb'
    simp [Rw.v, Value.ownBlock] at hb
    omega
theorem lRw {α : Type} (t : Nat) (ty : TypeId) (sz : Nat) (f : α → List Value) (l : List α) (s : SS w0 h0 w h B Rs F) (H : ∀ b w' h', SS w0 h0 w' h' B (⟨ty, sz, some ⟨b, 0, none⟩, l.length, l.length, l.flatMap f⟩ :: Rs) F → LG P n N R X ops (k + 1) ((t, .slice (some ⟨b, 0, none⟩) l.length l.length) :: Γ) w') (hc : cL ops Γ k t n = true := by kernel_rfl)
    (hr : (execOp (ev Γ) (opAt ops k)).run P w = .ok (.value (.slice (some ⟨w.heap.size, 0, none⟩) l.length l.length)) (w.alloc (.cells (l.flatMap f).toArray ty (0, 0))) := by kernel_rfl) (hf : ∀ x, (f x).length = sz := by intro _; rfl) (hm : Nat.ble l.length 1000 = true := by kernel_rfl) : LG P n N R X ops k Γ w :=
  LG.val t _ _ (cL_1 hc).1 (cL_1 hc).2 hr (H _ _ _ (s.newr ty hf (by have := Nat.le_of_ble_eq_true hm; unfold maxLen; omega)))
/-- A store into a variable, what it does told. -/
theorem lPu (j o : Nat) (cs : List Value) (s : SS w0 h0 w h B Rs F) (H : ∀ w', Put (bxAt B j).b w w' → SS w0 h0 w' h (setB B j o cs) Rs F → LG P n N R X ops (k + 1) Γ w') (hc : cS ops Γ k = true := by kernel_rfl)
    (hj : (decide (j < B.length) && decide (o + cs.length ≤ (bxAt B j).vs.length)) = true := by kernel_rfl) (he : evalW P (execOp (ev Γ) (opAt ops k)) = some (.skip, mkl (bxAt B j).b o cs) := by kernel_rfl) : LG P n N R X ops k Γ w :=
  LG.put j o cs s.st s.g0 (cS_1 hc).1 (cS_1 hc).2 hj he (fun w' p s' => H w' p (s.put0 (of_decide_eq_true (Bool.and_eq_true _ _ ▸ hj).1) p s' (setB_b (of_decide_eq_true (Bool.and_eq_true _ _ ▸ hj).1))))
theorem tX (i t : Nat) (A : Option Addr) (len cap sz : Nat) (x : Int) (j : Nat) (hA : A = some ⟨aB A, aO A, none⟩) (H : AG M P n N R X ops k0 (L.setIfInBounds i true) ((t, .pointer (some ⟨aB A, aO A + j * sz, none⟩)) :: Γ) w) (hc : cT n ops k0 L Γ i t = true := by kernel_rfl) (he : ixE P (ev Γ) (opAt ops i) = some (.slice A len cap, .int .i64 x, sz) := by kernel_rfl) (hk : x = j := by omega) (hlt : j < len := by omega) : AG M P n N R X ops k0 L Γ w :=
  T.val i t _ w (cT_1 hc).1 (cT_1 hc).2 (ixE_run he hA hk hlt w) H
/-- A new array of the function's own, in a drawn region. -/
theorem eK {α : Type} (i t : Nat) (ty : TypeId) (m sz bt : Nat) (z : Value) (f : α → List Value) (x0 : α) (s : SS w0 h0 w h B Rs F) (H : ∀ b w' h', SS w0 h0 w' h' (⟨b, ty, (List.replicate m x0).flatMap f⟩ :: B) Rs F → EG M P n N R X ops k0 hr AL (L.setIfInBounds i true) ((t, .slice (some ⟨b, 0, none⟩) m m) :: Γ) w' h') (hc : cEv n ops k0 AL L Γ i t = true := by kernel_rfl)
    (he : mkE P (ev Γ) (opAt ops i) = some (.int .i64 (m : Int), .int .i64 (m : Int), ty, z, sz, bt) := by kernel_rfl) (hzc : z.cells.toList = f x0 := by kernel_rfl) (hzs : z.cells.size = sz := by kernel_rfl) (hpos : 0 < sz := by decide) (hm : bt * m ≤ 140737488355328 := by omega) (hm2 : m < 9223372036854775808 := by omega) : EG M P n N R X ops k0 hr AL L Γ w h :=
  Rg.event i t (cEv_1 hc).1 (cEv_1 hc).2 (fun w1 h1 u => by
    have s1 := s.step u
    have u2 : Up w1 h1 (w1.alloc (.cells ((List.replicate m x0).flatMap f).toArray ty (0, 0))) (h1.push junk) := Up.allocAny s1.g _ _ (.inr rfl)
    refine .inl ⟨_, _, _, mkE_run he hzc hzs hpos hm hm2 w1, u2.m M.l, H _ _ _ (s1.new u2 (by rw [s1.g.size]; exact Nat.le_refl _) (St.new1 (x := ⟨0, 0, .cells ((List.replicate m x0).flatMap f).toArray ty (0, 0)⟩) s1.st (s1.st.step u2) ⟨?_, ?_, ?_⟩ ty _ rfl))⟩
    · rw [heap_alloc]; exact Array.getElem?_push_size
    · rw [s1.g.size]; exact Array.getElem?_push_size
    · show h1.size ≤ w1.heap.size; rw [s1.g.size]; exact Nat.le_refl _)
/-- The end of a drawn region in which new variables pre came up of other types. -/
theorem SS.blkp {F1 : List (Hp → Prop)} {wr : World} {x : Al} {b : Nat} (pre : List Bx) (sr : SS w0 h0 wr hr B Rs F1) (s : SS w0 h0 w h (pre ++ B) Rs F) (k : Blk hr w h (x, b)) (t : TypeId) (vs : List Value) (ho : x.o = .cells vs.toArray t (0, 0)) (hp : pre.all (fun y => y.t != t) = true) : SS w0 h0 w h (⟨b, t, vs⟩ :: (pre ++ B)) Rs F :=
  ⟨s.g0, St.new sr.st s.st (fun y hy => by
    rcases List.mem_append.1 hy with hy | hy
    · right
      intro e
      have h1 := s.st.own y (List.mem_append_left _ hy)
      have h2 : w.heap[b]? = some x.o := k.1
      unfold Own at h1
      rw [e, h2, ho] at h1
      injection h1 with h1
      injection h1 with _ h3
      have := (List.all_eq_true.1 hp) y hy
      simp only [bne_iff_ne, ne_eq] at this
      exact this h3.symm
    · exact .inl (lt_of_some (sr.st.jk y hy))) k t vs ho, fun r hr' => (s.ro r hr').new b (fun c hc e => by
    have h1 := (sr.ro r hr').lt hc
    have h2 : hr.size ≤ b := k.2.2
    omega), s.ap, s.mo, s.f⟩
theorem eD1p {F1 : List (Hp → Prop)} {wr : World} {x : Al} (pre : List Bx) (sr : SS w0 h0 wr hr B Rs F1) (s : SS w0 h0 w h (pre ++ B) Rs F) (t : TypeId) (vs : List Value) (H : ∀ w' h' b, SS w0 h0 w' h' (⟨b, t, vs⟩ :: (pre ++ B)) Rs F → AG M P n N R X ops k0 (L.setIfInBounds x.i true) ((x.t, .pointer (some ⟨b, 0, none⟩)) :: Γ) w') (hc : (chkFin ops [x] L && decide (x.t < n)) = true := by kernel_rfl) (ho : x.o = .cells vs.toArray t (0, 0) := by kernel_rfl) (hp : pre.all (fun y => y.t != t) = true := by kernel_rfl) : EG M P n N R X ops k0 hr [x] L Γ w h :=
  Rg.fin1 hc (fun w' h' b u k => H w' h' b (SS.blkp pre sr (s.step u) k t vs ho hp))
end laws
/-- A function that is handed a variable of its caller's. -/
theorem SS.at_ {w : World} {h : Hp} {rb : Nat} {t : TypeId} {vs : List Value} (g : G w h) (o : Own w rb t vs) (j : h[rb]? = some junk) : ∃ w0 h0, SS w0 h0 w h [⟨rb, t, vs⟩] [] [] := by
  obtain ⟨w0, h0, g0, st⟩ := St.at_ g o j
  exact ⟨w0, h0, g0, st, fun _ hx => (by cases hx), .nil, fun _ hx => (by cases hx), trivial⟩
/-- A part of a slice. -/
theorem SlO.take {α : Type} {sz : Nat} {f : α → List Value} {d : α} {h : Hp} {A : Option Addr} {l : List α} (s : SlO sz f d h A l) (k : Nat) : SlO sz f d h A (l.take k) :=
  ⟨fun hp => s.ok (by rw [List.length_take] at hp; omega), fun i hi => by
    rw [List.length_take] at hi
    have := s.el i (by omega)
    rwa [List.getD_eq_getElem?_getD, List.getElem?_take_of_lt (by omega), ← List.getD_eq_getElem?_getD]⟩
theorem SlO.drop {α : Type} {sz : Nat} {f : α → List Value} {d : α} {h : Hp} {A : Option Addr} {l : List α} (s : SlO sz f d h A l) (k c : Nat) (hc : l.length ≤ c) : SlO sz f d h (if c = k then A else A.map (·.add (k * sz))) (l.drop k) := by
  rcases Nat.lt_or_ge k l.length with hk | hk
  · rw [if_neg (by omega)]
    have hA := s.ok (by omega)
    have hadd : (⟨aB A, aO A, none⟩ : Addr).add (k * sz) = ⟨aB A, aO A + k * sz, none⟩ := by
      unfold Addr.add
      split
      · rename_i h0; rw [h0]; rfl
      · rfl
    have e : A.map (·.add (k * sz)) = some ⟨aB A, aO A + k * sz, none⟩ := by rw [hA]; simp only [Option.map_some, aB, aO] at hadd ⊢; rw [← hadd]
    refine ⟨fun _ => by rw [e]; rfl, fun i hi => ?_⟩
    rw [e]
    show Seg h (aB A) (aO A + k * sz + i * sz) _
    rw [List.length_drop] at hi
    have := s.el (k + i) (by omega)
    rw [Nat.add_mul, ← Nat.add_assoc] at this
    rwa [List.getD_eq_getElem?_getD, List.getElem?_drop, ← List.getD_eq_getElem?_getD]
  · rw [List.drop_eq_nil_of_le hk]; exact SlO.nil
end Go.Proofs.YtmkonbkdjmfjhaaGreatDoor
