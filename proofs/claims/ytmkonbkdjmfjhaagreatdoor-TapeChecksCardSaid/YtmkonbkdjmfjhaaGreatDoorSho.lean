/- The engine, short: one state (variables, rows, facts), and laws whose checks are filled in by themselves. No program in sight. -/
import Derived.Test.YtmkonbkdjmfjhaaGreatDoorMod
namespace Go.Proofs.YtmkonbkdjmfjhaaGreatDoor
open Go.RowKit

/-- A variable of the function's own is handed out. -/
theorem St.pubX {w0 : World} {h0 : Hp} {w : World} {h : Hp} {B : List Bx} (s : St w0 h0 w h B) (j : Nat) (hj : j < B.length) : ∃ h', St w0 h0 w h' (B.eraseIdx j) ∧ Gw h h' ∧ Seg h' (bxAt B j).b 0 (bxAt B j).vs ∧ h'[(bxAt B j).b]? = some (.cells (bxAt B j).vs.toArray (bxAt B j).t (0, 0)) ∧ ∀ c, c ≠ (bxAt B j).b → h'[c]? = h[c]? := by
  have hm := bxAt_mem hj
  have ho := s.own _ hm
  have hjk := s.jk _ hm
  have hlt := lt_of_some hjk
  have hne : ∀ x ∈ B.eraseIdx j, x.b ≠ (bxAt B j).b := by
    intro x hx
    obtain ⟨i, hi, he⟩ := List.mem_iff_getElem.1 hx
    rw [List.getElem_eraseIdx] at he
    intro hb
    have hnd := s.nd
    have e0 : (bxAt B j) = B[j] := by unfold bxAt; simp [hj]
    split at he
    · rename_i hl
      have : (B.map (·.b))[i]'(by simp; omega) = (B.map (·.b))[j]'(by simpa using hj) := by simp only [List.getElem_map]; rw [he, hb, e0]
      have := (List.getElem_inj hnd).1 this
      omega
    · rename_i hl
      have hi' : i + 1 < B.length := by rw [List.length_eraseIdx_of_lt hj] at hi; omega
      have : (B.map (·.b))[i + 1]'(by simpa using hi') = (B.map (·.b))[j]'(by simpa using hj) := by simp only [List.getElem_map]; rw [he, hb, e0]
      have := (List.getElem_inj hnd).1 this
      omega
  refine ⟨h.setIfInBounds (bxAt B j).b (.cells (bxAt B j).vs.toArray (bxAt B j).t (0, 0)), ⟨⟨s.up.ext, ⟨by simp; exact s.up.gr.size, fun b hb => ?_⟩, ⟨by simp; exact s.up.g.size, fun b => ?_⟩⟩, ?_, ?_, ?_, ?_⟩, ⟨by simp, fun b hb => ?_⟩, ?_, Array.getElem?_setIfInBounds_self_of_lt hlt, fun c hc => Array.getElem?_setIfInBounds_ne (Ne.symm hc)⟩
  · have := s.lo _ hm
    rw [Array.getElem?_setIfInBounds_ne (by omega)]; exact s.up.gr.blk b hb
  · by_cases e : (bxAt B j).b = b
    · subst e
      left
      rw [Array.getElem?_setIfInBounds_self_of_lt hlt]
      exact ho.symm
    · rw [Array.getElem?_setIfInBounds_ne e]; exact s.up.g.blk b
  · exact fun x hx => s.own x (List.mem_of_mem_eraseIdx hx)
  · intro x hx
    rw [Array.getElem?_setIfInBounds_ne (Ne.symm (hne x hx))]; exact s.jk x (List.mem_of_mem_eraseIdx hx)
  · exact fun x hx => s.lo x (List.mem_of_mem_eraseIdx hx)
  · exact s.nd.sublist ((List.eraseIdx_sublist B j).map (·.b))
  · by_cases e : (bxAt B j).b = b
    · subst e; exact .inr hjk
    · left; rw [Array.getElem?_setIfInBounds_ne e]
  · intro i v hv
    unfold hcell
    rw [Array.getElem?_setIfInBounds_self_of_lt hlt]
    simpa using hv
/-- A row of the function's own that grows. -/
structure Rw where
  ty : TypeId
  sz : Nat
  A : Option Addr
  c : Nat
  n : Nat
  cs : List Value
  deriving Inhabited
def Rw.v (r : Rw) : Value := .slice r.A r.n r.c
/-- All of some facts. -/
def AllF : List (Hp → Prop) → Hp → Prop
  | [], _ => True
  | p :: l, h => p h ∧ AllF l h
theorem AllF.gw : ∀ {F : List (Hp → Prop)} {h h' : Hp}, (∀ p ∈ F, ∀ h h', Gw h h' → p h → p h') → Gw h h' → AllF F h → AllF F h'
  | [], _, _, _, _, _ => trivial
  | p :: _, _, _, m, u, x => ⟨m p (by simp) _ _ u x.1, AllF.gw (fun q hq => m q (by simp [hq])) u x.2⟩
/-- The state: variables B, rows R, facts F. -/
structure SS (w0 : World) (h0 : Hp) (w : World) (h : Hp) (B : List Bx) (R : List Rw) (F : List (Hp → Prop)) : Prop where
  g0 : G w0 h0
  st : St w0 h0 w h B
  ro : ∀ r ∈ R, Gro h0 (B.map (·.b)) w h r.ty r.sz r.v r.n r.cs
  ap : R.Pairwise (fun r s => Apart r.v s.v)
  mo : ∀ p ∈ F, ∀ h h', Gw h h' → p h → p h'
  f : AllF F h
section ss
variable {w0 : World} {h0 : Hp} {w : World} {h : Hp} {B : List Bx} {R : List Rw} {F : List (Hp → Prop)}
theorem SS.start (g : G w h) : SS w h w h [] [] [] := ⟨g, St.start g, fun _ hx => (by cases hx), .nil, fun _ hx => (by cases hx), trivial⟩
theorem SS.g (s : SS w0 h0 w h B R F) : G w h := s.st.g
theorem SS.step (s : SS w0 h0 w h B R F) {w' : World} {h' : Hp} (u : Up w h w' h') : SS w0 h0 w' h' B R F :=
  ⟨s.g0, s.st.step u, fun r hr => (s.ro r hr).up u, s.ap, s.mo, s.f.gw s.mo u.gr.gw⟩
theorem SS.add (s : SS w0 h0 w h B R F) {K : Hp → Prop} (x : K h) (m : ∀ h h', Gw h h' → K h → K h' := by intro _ _ u x; exact x.gw u) : SS w0 h0 w h B R (K :: F) :=
  ⟨s.g0, s.st, s.ro, s.ap, fun p hp => by
    rcases List.mem_cons.1 hp with rfl | hp
    · exact m
    · exact s.mo p hp, x, s.f⟩
theorem SS.a_SlO {α : Type} {sz : Nat} {f : α → List Value} {d : α} {A : Option Addr} {l : List α} (s : SS w0 h0 w h B R F) (x : SlO sz f d h A l) : SS w0 h0 w h B R ((fun h => SlO sz f d h A l) :: F) := s.add (K := fun h => SlO sz f d h A l) x
theorem SS.a_SlV {α : Type} {sz : Nat} {f : α → List Value} {d : α} {v : Value} {l : List α} (s : SS w0 h0 w h B R F) (x : SlV sz f d h v l) : SS w0 h0 w h B R ((fun h => SlV sz f d h v l) :: F) := s.add (K := fun h => SlV sz f d h v l) x
theorem SS.a_Seg {b o : Nat} {cs : List Value} (s : SS w0 h0 w h B R F) (x : Seg h b o cs) : SS w0 h0 w h B R ((fun h => Seg h b o cs) :: F) := s.add (K := fun h => Seg h b o cs) x
theorem SS.tl {K : Hp → Prop} (s : SS w0 h0 w h B R (K :: F)) : SS w0 h0 w h B R F := ⟨s.g0, s.st, s.ro, s.ap, fun p hp => s.mo p (List.mem_cons_of_mem _ hp), s.f.2⟩
theorem SS.nil (s : SS w0 h0 w h B R F) (ty : TypeId) (sz : Nat) : SS w0 h0 w h B (⟨ty, sz, none, 0, 0, []⟩ :: R) F :=
  ⟨s.g0, s.st, fun r hr => by
    rcases List.mem_cons.1 hr with rfl | hr
    · exact Gro.nil
    · exact s.ro r hr, List.pairwise_cons.2 ⟨fun _ _ => Apart.nil, s.ap⟩, s.mo, s.f⟩
theorem SS.to (s : SS w0 h0 w h B R F) (B' : List Bx) (R' : List Rw) (e : B = B' := by kernel_rfl) (e2 : R = R' := by kernel_rfl) : SS w0 h0 w h B' R' F := e ▸ e2 ▸ s
theorem setB_b {j o : Nat} {cs : List Value} (hj : j < B.length) : (setB B j o cs).map (·.b) = B.map (·.b) := by
  unfold setB
  rw [List.map_set]
  apply List.ext_getElem?
  intro i
  by_cases e : j = i
  · subst e
    rw [List.getElem?_set_self (by simpa using hj)]
    simp [bxAt, hj]
  · rw [List.getElem?_set_ne e]
theorem setV_b {j : Nat} {vs : List Value} (hj : j < B.length) : (setV B j vs).map (·.b) = B.map (·.b) := by
  unfold setV
  rw [List.map_set]
  apply List.ext_getElem?
  intro i
  by_cases e : j = i
  · subst e
    rw [List.getElem?_set_self (by simpa using hj)]
    simp [bxAt, hj]
  · rw [List.getElem?_set_ne e]
theorem SS.put0 (s : SS w0 h0 w h B R F) {j : Nat} {B' : List Bx} {w' : World} (hj : j < B.length) (p : Put (bxAt B j).b w w') (s' : St w0 h0 w' h B') (e : B'.map (·.b) = B.map (·.b)) : SS w0 h0 w' h B' R F :=
  ⟨s.g0, s', fun r hr => by rw [e]; exact (s.ro r hr).put p (List.mem_map.2 ⟨_, bxAt_mem hj, rfl⟩), s.ap, s.mo, s.f⟩
theorem SS.new (s : SS w0 h0 w h B R F) {w' : World} {h' : Hp} (u : Up w h w' h') {b : Nat} {ty : TypeId} {vs : List Value} (hb : h.size ≤ b) (s' : St w0 h0 w' h' (⟨b, ty, vs⟩ :: B)) : SS w0 h0 w' h' (⟨b, ty, vs⟩ :: B) R F :=
  ⟨s.g0, s', fun r hr => ((s.ro r hr).up u).new b (fun c hc e => by have := (s.ro r hr).lt hc; omega), s.ap, s.mo, s.f.gw s.mo u.gr.gw⟩
theorem SS.stepM (s : SS w0 h0 w h B R F) (j : Nat) {rb : Nat} {vs : List Value} {w' : World} {h' : Hp} (u : UpM [rb] w h w' h') (ho : Own w' rb (bxAt B j).t vs) (hj : decide (j < B.length) = true := by kernel_rfl) (e : (bxAt B j).b = rb := by kernel_rfl) : SS w0 h0 w' h' (setV B j vs) R F := by
  subst e
  have hj' := of_decide_eq_true hj
  exact ⟨s.g0, s.st.stepM s.g0 hj' u ho, fun r hr => by rw [setV_b hj']; exact (s.ro r hr).upM u (List.mem_map.2 ⟨_, bxAt_mem hj', rfl⟩), s.ap, s.mo, s.f.gw s.mo u.gr.gw⟩
theorem SS.drop (s : SS w0 h0 w h B R F) (k m : Nat) : SS w0 h0 w h (B.drop k) (R.drop m) F :=
  ⟨s.g0, s.st.drop k, fun r hr => (s.ro r (List.mem_of_mem_drop hr)).sub _ (fun b hb => by
    obtain ⟨x, hx, e⟩ := List.mem_map.1 hb
    exact List.mem_map.2 ⟨x, List.mem_of_mem_drop hx, e⟩), s.ap.sublist (List.drop_sublist _ _), s.mo, s.f⟩
/-- What lies in a variable. -/
theorem SS.own (s : SS w0 h0 w h B R F) (j : Nat) (hj : decide (j < B.length) = true := by kernel_rfl) : Own w (bxAt B j).b (bxAt B j).t (bxAt B j).vs := s.st.own _ (bxAt_mem (of_decide_eq_true hj))
theorem SS.jk (s : SS w0 h0 w h B R F) (j : Nat) (hj : decide (j < B.length) = true := by kernel_rfl) : h[(bxAt B j).b]? = some junk := s.st.jk _ (bxAt_mem (of_decide_eq_true hj))
/-- A variable is handed out. -/
theorem SS.pub (s : SS w0 h0 w h B R F) (j : Nat) (hj : decide (j < B.length) = true := by kernel_rfl) : ∃ h', SS w0 h0 w h' (B.eraseIdx j) R F ∧ Seg h' (bxAt B j).b 0 (bxAt B j).vs ∧ h0.size ≤ (bxAt B j).b ∧ h'[(bxAt B j).b]? = some (.cells (bxAt B j).vs.toArray (bxAt B j).t (0, 0)) := by
  have hj' := of_decide_eq_true hj
  obtain ⟨h', s', gw, sg, hc, oth⟩ := s.st.pubX j hj'
  have hm := bxAt_mem hj'
  refine ⟨h', ⟨s.g0, s', fun r hr => ((s.ro r hr).out (List.mem_map.2 ⟨_, hm, rfl⟩) oth).sub _ (fun b hb => ?_), s.ap, s.mo, s.f.gw s.mo gw⟩, sg, s.st.lo _ hm, hc⟩
  obtain ⟨x, hx, e⟩ := List.mem_map.1 hb
  exact List.mem_map.2 ⟨x, List.mem_of_mem_eraseIdx hx, e⟩
/-- A new block that a callee has handed out is taken as a variable of the function's own. -/
theorem SS.take (s : SS w0 h0 w h B R F) {w' : World} {h' : Hp} (u : Up w h w' h') {b : Nat} {ty : TypeId} {vs : List Value} (hb : h.size ≤ b) (hc : h'[b]? = some (.cells vs.toArray ty (0, 0))) (hty : (ty == 0) = false := by kernel_rfl) :
    ∃ h'', SS w0 h0 w' h'' (⟨b, ty, vs⟩ :: B) R F ∧ (∀ c, c ≠ b → h''[c]? = h'[c]?) ∧ Gr h h'' := by
  have hlt := lt_of_some hc
  have hg : Gr h (h'.setIfInBounds b junk) := ⟨by simp; exact u.gr.size, fun c hc' => by rw [Array.getElem?_setIfInBounds_ne (by omega)]; exact u.gr.blk c hc'⟩
  have hG : G w' (h'.setIfInBounds b junk) := ⟨by simp; exact u.g.size, fun c => by
    by_cases e : b = c
    · subst e; right; rw [Array.getElem?_setIfInBounds_self_of_lt hlt]
    · rw [Array.getElem?_setIfInBounds_ne e]; exact u.g.blk c⟩
  have u' : Up w h w' (h'.setIfInBounds b junk) := ⟨u.ext, hg, hG⟩
  have ho : Own w' b ty vs := by
    rcases u.g.blk b with e | e
    · exact e.symm.trans hc
    · rw [e] at hc
      injection hc with hc
      unfold junk at hc
      injection hc with h1 h2 h3
      rw [← h2] at hty
      cases hty
  refine ⟨h'.setIfInBounds b junk, s.new u' hb ⟨s.st.up.trans u', ?_, ?_, ?_, ?_⟩, fun c hc' => Array.getElem?_setIfInBounds_ne (Ne.symm hc'), hg⟩
  · intro x hx
    rcases List.mem_cons.1 hx with rfl | hx
    · exact ho
    · exact (s.st.own x hx).ext u.ext
  · intro x hx
    rcases List.mem_cons.1 hx with rfl | hx
    · exact Array.getElem?_setIfInBounds_self_of_lt hlt
    · rw [hg.blk _ (lt_of_some (s.st.jk x hx))]; exact s.st.jk x hx
  · intro x hx
    rcases List.mem_cons.1 hx with rfl | hx
    · exact Nat.le_trans s.st.sz hb
    · exact s.st.lo x hx
  · refine List.nodup_cons.2 ⟨fun hm => ?_, s.st.nd⟩
    obtain ⟨y, hy, he⟩ := List.mem_map.1 hm
    have := lt_of_some (s.st.jk y hy)
    have he' : y.b = b := he
    omega

/-- A row that has grown is handed out. -/
theorem SS.pubr (s : SS w0 h0 w h B R F) (j : Nat) {ty : TypeId} {sz c : Nat} {A : Option Addr} {α : Type} {f : α → List Value} {l : List α} (d : α) (hf : ∀ x, (f x).length = sz) (hr : R.getD j default = ⟨ty, sz, A, c, l.length, l.flatMap f⟩ := by kernel_rfl) (hj : decide (j < R.length) = true := by kernel_rfl) :
    ∃ h', SS w0 h0 w h' B (R.eraseIdx j) ((fun h => SlO sz f d h A l) :: F) ∧ l.length ≤ c := by
  have hj' := of_decide_eq_true hj
  have e0 : R[j] = ⟨ty, sz, A, c, l.length, l.flatMap f⟩ := by rw [← hr]; simp [hj']
  have hm : R[j] ∈ R := List.getElem_mem hj'
  have r0 := s.ro _ hm
  rw [e0] at r0
  obtain ⟨h', s', gw, po, _, hc, hz, sg⟩ := Gro.pub3 s.st r0
  have hne : ∀ r ∈ R.eraseIdx j, Apart r.v R[j].v := by
    intro r hr
    obtain ⟨i, hi, he⟩ := List.mem_iff_getElem.1 hr
    rw [List.getElem_eraseIdx] at he
    have hp := List.pairwise_iff_getElem.1 s.ap
    split at he
    · rename_i hl; rw [← he]; exact hp i j (by omega) hj' hl
    · rename_i hl
      rw [← he]
      have hi' : i + 1 < R.length := by rw [List.length_eraseIdx_of_lt hj'] at hi; omega
      exact (hp j (i + 1) hj' hi' (by omega)).symm
  refine ⟨h', ⟨s.g0, s', fun r hr => (s.ro r (List.mem_of_mem_eraseIdx hr)).pubo po (by have := hne r hr; rw [e0] at this; exact this), s.ap.sublist (List.eraseIdx_sublist R j), fun p hp => by
    rcases List.mem_cons.1 hp with rfl | hp
    · exact fun _ _ u x => x.gw u
    · exact s.mo p hp, SlO.of_pub hf hz sg, s.f.gw s.mo gw⟩, hc⟩
/-- A row has grown. -/
theorem SS.grown (s : SS w0 h0 w h B R F) {j : Nat} (hj : j < R.length) {w' : World} {v' : Value} {m2 : Nat} {news : List Value} (ow : w'.ownsRow h0.size R[j].ty R[j].sz v' (R[j].n + m2) (R[j].cs ++ news)) (gr : w.grownBy w' R[j].v.ownBlock) (hb : v'.ownBlock = R[j].v.ownBlock ∨ v'.ownBlock = some w.heap.size) :
    ∃ h' A c, v' = .slice A (R[j].n + m2) c ∧ Gr h h' ∧ SS w0 h0 w' h' B (R.set j ⟨R[j].ty, R[j].sz, A, c, R[j].n + m2, R[j].cs ++ news⟩) F := by
  have hm : R[j] ∈ R := List.getElem_mem hj
  have r := s.ro _ hm
  obtain ⟨h', hh, s', hjk⟩ := grown_st s.st s.g0 r gr
  have r2 := r.grown s.st ow hb hh hjk
  have hsl : ∃ A c, v' = .slice A (R[j].n + m2) c := by
    rcases ow with ⟨_, ⟨e, e2⟩ | ⟨g, cap, cur, e, _⟩⟩
    · exact ⟨none, 0, by rw [e, e2]⟩
    · exact ⟨_, _, e⟩
  obtain ⟨A, c, e⟩ := hsl
  subst e
  have hp := List.pairwise_iff_getElem.1 s.ap
  have hold : ∀ i (hi : i < R.length), i ≠ j → Apart R[j].v R[i].v := fun i hi hne => by
    rcases Nat.lt_or_gt_of_ne hne with hl | hl
    · exact (hp i j hi hj hl).symm
    · exact hp j i hj hi hl
  have hnew : ∀ i (hi : i < R.length), i ≠ j → Apart (.slice A (R[j].n + m2) c) R[i].v := fun i hi hne =>
    Apart.grown (w := w) (hold i hi hne) hb (fun b hb' => own_lt (s.ro _ (List.getElem_mem hi)).own hb')
  refine ⟨h', A, c, rfl, hh, ⟨s.g0, s', ?_, ?_, s.mo, s.f.gw s.mo hh.gw⟩⟩
  · intro x hx
    obtain ⟨i, hi, he⟩ := List.mem_iff_getElem.1 hx
    have hi' : i < R.length := by simpa using hi
    by_cases e : j = i
    · subst e
      simp at he
      rw [← he]; exact r2
    · rw [List.getElem_set_ne e] at he
      rw [← he]
      exact (s.ro _ (List.getElem_mem hi')).app gr hh (fun b hb' hr' => hold i hi' (Ne.symm e) b hr' hb')
  · refine List.pairwise_iff_getElem.2 (fun i k hi hk hik => ?_)
    have hi' : i < R.length := by simpa using hi
    have hk' : k < R.length := by simpa using hk
    by_cases e : j = i
    · subst e
      rw [List.getElem_set_self, List.getElem_set_ne (by omega)]
      exact hnew k hk' (by omega)
    · by_cases e2 : j = k
      · subst e2
        rw [List.getElem_set_self, List.getElem_set_ne (by omega)]
        exact (hnew i hi' (by omega)).symm
      · rw [List.getElem_set_ne e, List.getElem_set_ne e2]
        exact hp i k hi' hk' hik
end ss
end Go.Proofs.YtmkonbkdjmfjhaaGreatDoor
