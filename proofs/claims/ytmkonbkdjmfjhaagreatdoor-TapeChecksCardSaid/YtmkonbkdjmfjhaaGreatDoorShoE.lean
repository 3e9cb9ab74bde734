/- The engine's short laws: drawn regions. No program in sight. -/
import Derived.Test.YtmkonbkdjmfjhaaGreatDoorShoB
namespace Go.Proofs.YtmkonbkdjmfjhaaGreatDoor
open Go.RowKit

section drawn
variable {M : Ms} {P : Program} {n : Nat} {N R : Po} {X : Nat → Po} {ops : Array Oper} {k0 : Nat} {hr : Hp} {AL : List Al} {L : Array Bool} {Γ : Env} {w : World} {h : Hp} {w0 : World} {h0 : Hp} {B : List Bx} {Rs : List Rw} {F : List (Hp → Prop)}
def cE (n : Nat) (ops : Array Oper) (k0 : Nat) (AL : List Al) (L : Array Bool) (Γ : Env) (i t : Nat) : Bool := chkTake n ops k0 AL L i t && knownOp Γ (opAt ops i) && (wantE ops Γ (opAt ops i) == some true)
def cEl (n : Nat) (ops : Array Oper) (k0 : Nat) (AL : List Al) (L : Array Bool) (Γ : Env) (i t : Nat) : Bool := chkTake n ops k0 AL L i t && knownOp Γ (opAt ops i) && chkTail ops k0 i && (wantE ops Γ (opAt ops i) == some true)
def cEv (n : Nat) (ops : Array Oper) (k0 : Nat) (AL : List Al) (L : Array Bool) (Γ : Env) (i t : Nat) : Bool := chkEv n ops k0 AL L i t && knownOp Γ (opAt ops i) && (wantE ops Γ (opAt ops i) == some true)
theorem cE_1 {i t : Nat} (h : cE n ops k0 AL L Γ i t = true) : (chkTake n ops k0 AL L i t && knownOp Γ (opAt ops i)) = true ∧ wantE ops Γ (opAt ops i) = some true := by
  unfold cE at h; rw [Bool.and_eq_true] at h; exact ⟨h.1, by simpa using h.2⟩
theorem cEl_1 {i t : Nat} (h : cEl n ops k0 AL L Γ i t = true) : (chkTake n ops k0 AL L i t && knownOp Γ (opAt ops i) && chkTail ops k0 i) = true ∧ wantE ops Γ (opAt ops i) = some true := by
  unfold cEl at h; rw [Bool.and_eq_true] at h; exact ⟨h.1, by simpa using h.2⟩
theorem cEv_1 {i t : Nat} (h : cEv n ops k0 AL L Γ i t = true) : (chkEv n ops k0 AL L i t && knownOp Γ (opAt ops i)) = true ∧ wantE ops Γ (opAt ops i) = some true := by
  unfold cEv at h; rw [Bool.and_eq_true] at h; exact ⟨h.1, by simpa using h.2⟩
theorem eV (i t : Nat) (v : Value) (H : EG M P n N R X ops k0 hr AL (L.setIfInBounds i true) ((t, v) :: Γ) w h) (hc : cE n ops k0 AL L Γ i t = true := by kernel_rfl) (hv : ∀ w, (execOp (ev Γ) (opAt ops i)).run P w = .ok (.value v) w := by intro _; kernel_rfl) : EG M P n N R X ops k0 hr AL L Γ w h :=
  Rg.pure i t v (cE_1 hc).1 (cE_1 hc).2 hv H
theorem eB (i t : Nat) {e b : Bool} (hb : e = b) (H : EG M P n N R X ops k0 hr AL (L.setIfInBounds i true) ((t, .bool b) :: Γ) w h) (hc : cE n ops k0 AL L Γ i t = true := by kernel_rfl) (hv : ∀ w, (execOp (ev Γ) (opAt ops i)).run P w = .ok (.value (.bool e)) w := by intro _; kernel_rfl) : EG M P n N R X ops k0 hr AL L Γ w h :=
  Rg.pure i t _ (cE_1 hc).1 (cE_1 hc).2 (fun w => hb ▸ hv w) H
theorem eI (i t : Nat) (m : Int) (H : EG M P n N R X ops k0 hr AL (L.setIfInBounds i true) ((t, .int .i64 m) :: Γ) w h) (hc : cE n ops k0 AL L Γ i t = true := by kernel_rfl) (hv : ∀ w, (execOp (ev Γ) (opAt ops i)).run P w = .ok (.value (.int .i64 (IntKind.wrap .i64 m))) w := by intro _; kernel_rfl) (h0 : -9223372036854775808 ≤ m := by omega) (h1 : m ≤ 9223372036854775807 := by omega) : EG M P n N R X ops k0 hr AL L Γ w h :=
  Rg.pure i t _ (cE_1 hc).1 (cE_1 hc).2 (fun w => by have := hv w; rw [wr64 h0 h1] at this; exact this) H
theorem eIn (i t : Nat) (m : Int) (j : Nat) (H : EG M P n N R X ops k0 hr AL (L.setIfInBounds i true) ((t, .int .i64 (j : Int)) :: Γ) w h) (hc : cE n ops k0 AL L Γ i t = true := by kernel_rfl) (hv : ∀ w, (execOp (ev Γ) (opAt ops i)).run P w = .ok (.value (.int .i64 (IntKind.wrap .i64 m))) w := by intro _; kernel_rfl) (he : m = j := by omega) (h1 : m ≤ 9223372036854775807 := by omega) : EG M P n N R X ops k0 hr AL L Γ w h :=
  Rg.pure i t _ (cE_1 hc).1 (cE_1 hc).2 (fun w => by have := hv w; rw [wr64 (by omega) h1, he] at this; exact this) H
theorem eE (i t : Nat) {ik : IntKind} {m j : Int} (he : m = j) (H : EG M P n N R X ops k0 hr AL (L.setIfInBounds i true) ((t, .int ik j) :: Γ) w h) (hc : cE n ops k0 AL L Γ i t = true := by kernel_rfl) (hv : ∀ w, (execOp (ev Γ) (opAt ops i)).run P w = .ok (.value (.int ik m)) w := by intro _; kernel_rfl) : EG M P n N R X ops k0 hr AL L Γ w h :=
  Rg.pure i t _ (cE_1 hc).1 (cE_1 hc).2 (fun w => he ▸ hv w) H
theorem eG (i t : Nat) (H : EG M P n N R X ops k0 hr AL (L.setIfInBounds i true) ((t, undef) :: Γ) w h) (hc : chkTake n ops k0 AL L i t = true := by kernel_rfl) (hw : wantE ops Γ (opAt ops i) = some false := by kernel_rfl) : EG M P n N R X ops k0 hr AL L Γ w h := Rg.skip i t hc hw H
theorem eO (i t : Nat) (ps : List (Nat × Nat × Nat)) (v : Value) (s : SS w0 h0 w h B Rs F) (H : EG M P n N R X ops k0 hr AL (L.setIfInBounds i true) ((t, v) :: Γ) w h) (hM : ∀ p ∈ ps, (bxAt B p.1).b ∉ M.l := by intro _ _; exact List.not_mem_nil) (hc : cEl n ops k0 AL L Γ i t = true := by kernel_rfl) (hp : partsOk B ps = true := by kernel_rfl) (he : evalL P (execOp (ev Γ) (opAt ops i)) (partsV B ps) = some (.value v, partsA B ps) := by kernel_rfl) : EG M P n N R X ops k0 hr AL L Γ w h :=
  Rg.own i t ps v s.st (cEl_1 hc).1 (cEl_1 hc).2 hM hp he H
theorem eH (i t : Nat) (v : Value) {b o : Nat} {cs : List Value} (s : SS w0 h0 w h B Rs F) (sg : Seg h b o cs) (H : EG M P n N R X ops k0 hr AL (L.setIfInBounds i true) ((t, v) :: Γ) w h) (hM : ∀ b ∈ M.l, h[b]? = some junk := by intro _ hb; cases hb) (hc : cEl n ops k0 AL L Γ i t = true := by kernel_rfl) (he : evalL P (execOp (ev Γ) (opAt ops i)) cs = some (.value v, mka b o cs.length) := by kernel_rfl) : EG M P n N R X ops k0 hr AL L Γ w h :=
  Rg.load i t v (cEl_1 hc).1 (cEl_1 hc).2 (fun _ hx => Seg.runM sg s.g hM hx he) H
theorem eHe (i t : Nat) (v : Value) {u : Value} {b o : Nat} {cs : List Value} (s : SS w0 h0 w h B Rs F) (sg : Seg h b o cs) (e : v = u) (H : EG M P n N R X ops k0 hr AL (L.setIfInBounds i true) ((t, u) :: Γ) w h) (hM : ∀ b ∈ M.l, h[b]? = some junk := by intro _ hb; cases hb) (hc : cEl n ops k0 AL L Γ i t = true := by kernel_rfl) (he : evalL P (execOp (ev Γ) (opAt ops i)) cs = some (.value v, mka b o cs.length) := by kernel_rfl) : EG M P n N R X ops k0 hr AL L Γ w h :=
  Rg.load i t u (cEl_1 hc).1 (cEl_1 hc).2 (fun _ hx => e ▸ Seg.runM sg s.g hM hx he) H
theorem eX (i t : Nat) (A : Option Addr) (len cap sz : Nat) (x : Int) (j : Nat) (hA : A = some ⟨aB A, aO A, none⟩) (H : EG M P n N R X ops k0 hr AL (L.setIfInBounds i true) ((t, .pointer (some ⟨aB A, aO A + j * sz, none⟩)) :: Γ) w h) (hc : cE n ops k0 AL L Γ i t = true := by kernel_rfl) (he : ixE P (ev Γ) (opAt ops i) = some (.slice A len cap, .int .i64 x, sz) := by kernel_rfl) (hk : x = j := by omega) (hlt : j < len := by omega) : EG M P n N R X ops k0 hr AL L Γ w h :=
  Rg.pure i t _ (cE_1 hc).1 (cE_1 hc).2 (ixE_run he hA hk hlt) H
theorem eT (i t : Nat) (A : Option Addr) (len cap sz : Nat) (x : Int) (j : Nat) (H : EG M P n N R X ops k0 hr AL (L.setIfInBounds i true) ((t, .slice A j cap) :: Γ) w h) (hc : cE n ops k0 AL L Γ i t = true := by kernel_rfl) (he : slE P (ev Γ) (opAt ops i) = some (.slice A len cap, none, some (.int .i64 x), sz) := by kernel_rfl) (hk : x = j := by omega) (hlt : j ≤ cap := by omega) : EG M P n N R X ops k0 hr AL L Γ w h :=
  Rg.pure i t _ (cE_1 hc).1 (cE_1 hc).2 (slE_to j he hk hlt) H
theorem eF (i t : Nat) (A : Option Addr) (len cap sz : Nat) (x : Int) (j : Nat) (H : EG M P n N R X ops k0 hr AL (L.setIfInBounds i true) ((t, .slice (if cap = j then A else A.map (·.add (j * sz))) (len - j) (cap - j)) :: Γ) w h) (hc : cE n ops k0 AL L Γ i t = true := by kernel_rfl) (he : slE P (ev Γ) (opAt ops i) = some (.slice A len cap, some (.int .i64 x), none, sz) := by kernel_rfl) (hk : x = j := by omega) (hlt : j ≤ len := by omega) : EG M P n N R X ops k0 hr AL L Γ w h :=
  Rg.pure i t _ (cE_1 hc).1 (cE_1 hc).2 (slE_from j he hk hlt) H
theorem eQ {α : Type} (i t j : Nat) (l : List α) (f : α → List Value) (sz : Nat) (d : α) (e : Nat) (v : Value) (s : SS w0 h0 w h B Rs F) (hk : e < l.length) (H : EG M P n N R X ops k0 hr AL (L.setIfInBounds i true) ((t, v) :: Γ) w h) (hM : (bxAt B j).b ∉ M.l := by exact List.not_mem_nil) (hc : cEl n ops k0 AL L Γ i t = true := by kernel_rfl)
    (hj : decide (j < B.length) = true := by kernel_rfl) (hB : (bxAt B j).vs = l.flatMap f := by kernel_rfl) (hf : ∀ x, (f x).length = sz := by intro _; rfl)
    (he : evalL P (execOp (ev Γ) (opAt ops i)) (f (l.getD e d)) = some (.value v, mka (bxAt B j).b (0 + e * sz) (f (l.getD e d)).length) := by kernel_rfl) : EG M P n N R X ops k0 hr AL L Γ w h :=
  Rg.ownA i t j l f sz d e v s.st (cEl_1 hc).1 (cEl_1 hc).2 hM hj hB hf hk he H
theorem eC (i t : Nat) {f : FuncId} {args : Array Value} {Φ : World → Hp → Value → Hp → Prop} (s : SS w0 h0 w h B Rs F) (c : ∀ w1 h1, SS w0 h0 w1 h1 B Rs F → Calls P f args w1 (Ret w1 h1 (Φ w1 h1))) (H : ∀ w1 h1 v w' h', SS w0 h0 w' h' B Rs F → Φ w1 h1 v h' → EG M P n N R X ops k0 hr AL (L.setIfInBounds i true) ((t, v) :: Γ) w' h') (hc : cEv n ops k0 AL L Γ i t = true := by kernel_rfl) (hv : ∀ w, (execOp (ev Γ) (opAt ops i)).run P w = .ok (.enter f args) w := by intro _; kernel_rfl) : EG M P n N R X ops k0 hr AL L Γ w h :=
  Rg.call i t f args (cEv_1 hc).1 (cEv_1 hc).2 hv (fun w1 h1 u => (c w1 h1 (s.step u)).mono fun e w' ⟨v, h', he, u2, hΦ⟩ => ⟨v, h', he, u2.m M.l, H w1 h1 v w' h' ((s.step u).step u2) hΦ⟩)
/-- A call whose new block is taken. -/
theorem eCu (i t : Nat) {f : FuncId} {args : Array Value} {Φ : World → Hp → Value → Hp → Prop} (s : SS w0 h0 w h B Rs F) (c : ∀ w1 h1, SS w0 h0 w1 h1 B Rs F → Calls P f args w1 (Ret w1 h1 (Φ w1 h1))) (H : ∀ w1 h1 v w' h', SS w0 h0 w1 h1 B Rs F → Up w1 h1 w' h' → Φ w1 h1 v h' → ∃ h'', Up w1 h1 w' h'' ∧ EG M P n N R X ops k0 hr AL (L.setIfInBounds i true) ((t, v) :: Γ) w' h'') (hc : cEv n ops k0 AL L Γ i t = true := by kernel_rfl) (hv : ∀ w, (execOp (ev Γ) (opAt ops i)).run P w = .ok (.enter f args) w := by intro _; kernel_rfl) : EG M P n N R X ops k0 hr AL L Γ w h :=
  Rg.call i t f args (cEv_1 hc).1 (cEv_1 hc).2 hv (fun w1 h1 u => (c w1 h1 (s.step u)).mono fun e w' ⟨v, h', he, u2, hΦ⟩ => by
    obtain ⟨h'', u3, k⟩ := H w1 h1 v w' h' (s.step u) u2 hΦ
    exact ⟨v, h'', he, u3.m M.l, k⟩)
theorem eCm (i t : Nat) {f : FuncId} {args : Array Value} {rb : Nat} {Φ : World → Hp → Value → World → Hp → Prop} (s : SS w0 h0 w h B Rs F) (hrb : rb ∈ M.l) (c : ∀ w1 h1, SS w0 h0 w1 h1 B Rs F → Calls P f args w1 (RetM rb w1 h1 (Φ w1 h1))) (H : ∀ w1 h1 v w' h', SS w0 h0 w1 h1 B Rs F → UpM [rb] w1 h1 w' h' → Φ w1 h1 v w' h' → EG M P n N R X ops k0 hr AL (L.setIfInBounds i true) ((t, v) :: Γ) w' h') (hc : cEv n ops k0 AL L Γ i t = true := by kernel_rfl) (hv : ∀ w, (execOp (ev Γ) (opAt ops i)).run P w = .ok (.enter f args) w := by intro _; kernel_rfl) : EG M P n N R X ops k0 hr AL L Γ w h :=
  Rg.call i t f args (cEv_1 hc).1 (cEv_1 hc).2 hv (fun w1 h1 u => (c w1 h1 (s.step u)).mono fun e w' ⟨v, h', he, u2, hΦ⟩ => ⟨v, h', he, u2.weak (fun b hb => by rw [List.mem_singleton] at hb; rw [hb]; exact hrb), H w1 h1 v w' h' (s.step u) u2 hΦ⟩)
theorem eR (i t : Nat) (ty : TypeId) (m : Nat) (cs : List Value) (s : SS w0 h0 w h B Rs F) (H : ∀ b w' h', SS w0 h0 w' h' B Rs ((fun h => Seg h b 0 cs) :: F) → EG M P n N R X ops k0 hr AL (L.setIfInBounds i true) ((t, .slice (some ⟨b, 0, none⟩) m m) :: Γ) w' h') (hc : cEv n ops k0 AL L Γ i t = true := by kernel_rfl)
    (hv : ∀ w, (execOp (ev Γ) (opAt ops i)).run P w = .ok (.value (.slice (some ⟨w.heap.size, 0, none⟩) m m)) (w.alloc (.cells cs.toArray ty (0, 0))) := by intro _; kernel_rfl) : EG M P n N R X ops k0 hr AL L Γ w h :=
  Rg.row i t ty m cs (cEv_1 hc).1 (cEv_1 hc).2 hv (fun b w' h' u sg => H b w' h' ((s.step u).a_Seg sg))
/-- A new variable, in its place among the calls. -/
theorem eA (i t : Nat) (ty : TypeId) (vs : List Value) (s : SS w0 h0 w h B Rs F) (H : ∀ b w' h', SS w0 h0 w' h' (⟨b, ty, vs⟩ :: B) Rs F → EG M P n N R X ops k0 hr AL (L.setIfInBounds i true) ((t, .pointer (some ⟨b, 0, none⟩)) :: Γ) w' h') (hc : cEv n ops k0 AL L Γ i t = true := by kernel_rfl)
    (hv : ∀ w, (execOp (ev Γ) (opAt ops i)).run P w = .ok (.value (.pointer (some ⟨w.heap.size, 0, none⟩))) (w.alloc (.cells vs.toArray ty (0, 0))) := by intro _; kernel_rfl) : EG M P n N R X ops k0 hr AL L Γ w h :=
  Rg.event i t (cEv_1 hc).1 (cEv_1 hc).2 (fun w1 h1 u => by
    have s1 := s.step u
    have u2 : Up w1 h1 (w1.alloc (.cells vs.toArray ty (0, 0))) (h1.push junk) := Up.allocAny s1.g _ _ (.inr rfl)
    refine .inl ⟨_, _, _, hv w1, u2.m M.l, H _ _ _ (s1.new u2 (by rw [s1.g.size]; exact Nat.le_refl _) (St.new1 (x := ⟨0, 0, .cells vs.toArray ty (0, 0)⟩) s1.st (s1.st.step u2) ⟨?_, ?_, ?_⟩ ty vs rfl))⟩
    · rw [heap_alloc]; exact Array.getElem?_push_size
    · rw [s1.g.size]; exact Array.getElem?_push_size
    · show h1.size ≤ w1.heap.size; rw [s1.g.size]; exact Nat.le_refl _)
theorem rw_block {R : List Rw} {j : Nat} {r : Rw} (hr : R.getD j default = r) (hj : decide (j < R.length) = true) {s : SS w0 h0 w h B R F} : ∀ b ∈ r.v.ownBlock.toList, h[b]? = some junk := fun b hb => by
  have hj' := of_decide_eq_true hj
  have := (s.ro _ (List.getElem_mem hj')).jk b
  rw [rw_get hr hj'] at this
  exact this (Option.mem_toList.1 hb)
/-- append of one element, in a drawn region. -/
theorem eY {α : Type} (i t j : Nat) (ty : TypeId) (sz c : Nat) (A : Option Addr) (l : List α) (f : α → List Value) (x : α) (bt b : Nat) (z : Value) (s : SS w0 h0 w h B Rs F) (sg : ∀ h, AllF F h → Seg h b 0 (f x)) (hMv : ∀ b, (Value.slice A l.length c).ownBlock = some b → b ∈ M.l)
    (H : ∀ A' c' w' h', SS w0 h0 w' h' B (Rs.set j ⟨ty, sz, A', c', (l ++ [x]).length, (l ++ [x]).flatMap f⟩) F → EG M P n N R X ops k0 hr AL (L.setIfInBounds i true) ((t, .slice A' (l ++ [x]).length c') :: Γ) w' h')
    (hc : cEv n ops k0 AL L Γ i t = true := by kernel_rfl) (he : apE P (ev Γ) (opAt ops i) = some (.slice A l.length c, .slice (some ⟨b, 0, none⟩) 1 1, ty, z, sz, bt) := by kernel_rfl) (hzs : z.cells.size = sz := by kernel_rfl) (hpos : 0 < sz := by decide)
    (hr' : Rs.getD j default = ⟨ty, sz, A, c, l.length, l.flatMap f⟩ := by kernel_rfl) (hj : decide (j < Rs.length) = true := by kernel_rfl) (h1 : (f x).all (·.oneCell') = true := by kernel_rfl) (hl : (f x).length = 1 * sz := by kernel_rfl) (hm : l.length + 1 ≤ 1099511627776 := by omega) (hb : (l.length + 1) * bt ≤ 140737488355328 := by omega) : EG M P n N R X ops k0 hr AL L Γ w h := by
  have hj' := of_decide_eq_true hj
  refine Rg.event i t (cEv_1 hc).1 (cEv_1 hc).2 (fun w1 h1' u => ?_)
  have s1 := s.step u
  obtain ⟨x', y, ty', ho, hx, hy, hu, hi⟩ := apE_op he
  have r := s1.ro _ (List.getElem_mem hj')
  have er := rw_get hr' hj'
  rw [er] at r
  obtain ⟨v', w', hrun, ow, gr, hloc⟩ := app_run (P := P) ho hx hy hu hi hzs hpos s1.st r hl (seg_news s1.g (sg _ s1.f)) (fun u hu => (List.all_eq_true.1 h1) u hu) hm hb
  have hg := s1.grown (j := j) hj' (w' := w') (v' := v') (m2 := 1) (news := f x) (by rw [er]; exact ow) (by rw [er]; exact gr) (by rw [er]; exact hloc)
  rw [er] at hg
  obtain ⟨h', A', c', rfl, e2, s'⟩ := hg
  have e1 : l.length + 1 = (l ++ [x]).length := by simp
  simp only [] at s'
  rw [snoc_row, e1] at s'
  rw [e1] at hrun
  exact .inl ⟨_, w', h', hrun, ⟨⟨gr.os, gr.tape, gr.output, gr.size, fun c hc hn => gr.block c hc (fun e => hn (hMv c e.symm))⟩, e2, s'.g⟩, H A' c' w' h' s'⟩
theorem eD0 (s : SS w0 h0 w h B Rs F) (H : ∀ w' h', SS w0 h0 w' h' B Rs F → AG M P n N R X ops k0 L Γ w') (hc : chkFin ops [] L = true := by kernel_rfl) : EG M P n N R X ops k0 hr [] L Γ w h := Rg.fin0 hc (fun w' h' u => H w' h' (s.step u))
theorem SS.blk {wr : World} {x : Al} {b : Nat} (sr : SS w0 h0 wr hr B Rs F) (s : SS w0 h0 w h B Rs F) (k : Blk hr w h (x, b)) (t : TypeId) (vs : List Value) (ho : x.o = .cells vs.toArray t (0, 0)) : SS w0 h0 w h (⟨b, t, vs⟩ :: B) Rs F :=
  ⟨s.g0, St.new1 sr.st s.st k t vs ho, fun r hr' => (s.ro r hr').new b (fun c hc e => by
    have h1 := (sr.ro r hr').lt hc
    have h2 : hr.size ≤ b := k.2.2
    omega), s.ap, s.mo, s.f⟩
theorem eD1 {wr : World} {x : Al} (sr : SS w0 h0 wr hr B Rs F) (s : SS w0 h0 w h B Rs F) (t : TypeId) (vs : List Value) (H : ∀ w' h' b, SS w0 h0 w' h' (⟨b, t, vs⟩ :: B) Rs F → AG M P n N R X ops k0 (L.setIfInBounds x.i true) ((x.t, .pointer (some ⟨b, 0, none⟩)) :: Γ) w') (hc : (chkFin ops [x] L && decide (x.t < n)) = true := by kernel_rfl) (ho : x.o = .cells vs.toArray t (0, 0) := by kernel_rfl) : EG M P n N R X ops k0 hr [x] L Γ w h :=
  Rg.fin1 hc (fun w' h' b u k => H w' h' b (SS.blk sr (s.step u) k t vs ho))
theorem eD2 {wr : World} {x y : Al} (sr : SS w0 h0 wr hr B Rs F) (s : SS w0 h0 w h B Rs F) (t : TypeId) (vs : List Value) (t2 : TypeId) (vs2 : List Value) (H : ∀ w' h' b c, SS w0 h0 w' h' (⟨b, t, vs⟩ :: ⟨c, t2, vs2⟩ :: B) Rs F → AG M P n N R X ops k0 ((L.setIfInBounds y.i true).setIfInBounds x.i true) ((x.t, .pointer (some ⟨b, 0, none⟩)) :: (y.t, .pointer (some ⟨c, 0, none⟩)) :: Γ) w') (hc : (chkFin ops [x, y] L && decide (x.t < n) && decide (y.t < n) && (x.t != y.t) && (x.i != y.i)) = true := by kernel_rfl) (ho : x.o = .cells vs.toArray t (0, 0) := by kernel_rfl) (ho2 : y.o = .cells vs2.toArray t2 (0, 0) := by kernel_rfl) : EG M P n N R X ops k0 hr [x, y] L Γ w h :=
  Rg.fin2 hc (fun w' h' b c u k k2 hne => H w' h' b c ⟨s.g0, St.new2 sr.st (s.st.step u) k k2 hne t vs ho t2 vs2 ho2, fun r hr' => (((s.step u).ro r hr').new c (fun d hd e => by
    have h1 := (sr.ro r hr').lt hd
    have h2 : hr.size ≤ c := k2.2.2
    omega)).new b (fun d hd e => by
    have h1 := (sr.ro r hr').lt hd
    have h2 : hr.size ≤ b := k.2.2
    omega), s.ap, s.mo, (s.step u).f⟩)
/-! #### The tail -/
def cT (n : Nat) (ops : Array Oper) (k0 : Nat) (L : Array Bool) (Γ : Env) (i t : Nat) : Bool := chkT ops k0 L i && knownOp Γ (opAt ops i) && ((opAt ops i).dst == some t) && decide (t < n) && (wantE ops Γ (opAt ops i) == some true)
def cTs (ops : Array Oper) (k0 : Nat) (L : Array Bool) (Γ : Env) (i : Nat) : Bool := chkT ops k0 L i && knownOp Γ (opAt ops i) && ((opAt ops i).dst == none) && (wantE ops Γ (opAt ops i) == some true)
theorem cT_1 {i t : Nat} (h : cT n ops k0 L Γ i t = true) : (chkT ops k0 L i && knownOp Γ (opAt ops i) && ((opAt ops i).dst == some t) && decide (t < n)) = true ∧ wantE ops Γ (opAt ops i) = some true := by
  unfold cT at h; rw [Bool.and_eq_true] at h; exact ⟨h.1, by simpa using h.2⟩
theorem cTs_1 {i : Nat} (h : cTs ops k0 L Γ i = true) : (chkT ops k0 L i && knownOp Γ (opAt ops i) && ((opAt ops i).dst == none)) = true ∧ wantE ops Γ (opAt ops i) = some true := by
  unfold cTs at h; rw [Bool.and_eq_true] at h; exact ⟨h.1, by simpa using h.2⟩
theorem tV (i t : Nat) (v : Value) (H : AG M P n N R X ops k0 (L.setIfInBounds i true) ((t, v) :: Γ) w) (hc : cT n ops k0 L Γ i t = true := by kernel_rfl) (hv : (execOp (ev Γ) (opAt ops i)).run P w = .ok (.value v) w := by kernel_rfl) : AG M P n N R X ops k0 L Γ w := T.val i t v w (cT_1 hc).1 (cT_1 hc).2 hv H
theorem tP (i j o : Nat) (cs : List Value) (s : SS w0 h0 w h B Rs F) (H : ∀ w', SS w0 h0 w' h (setB B j o cs) Rs F → AG M P n N R X ops k0 (L.setIfInBounds i true) Γ w') (hc : cTs ops k0 L Γ i = true := by kernel_rfl)
    (hj : (decide (j < B.length) && decide (o + cs.length ≤ (bxAt B j).vs.length)) = true := by kernel_rfl) (he : evalW P (execOp (ev Γ) (opAt ops i)) = some (.skip, mkl (bxAt B j).b o cs) := by kernel_rfl) (hz : ∀ K bs, M.z = some (K, bs) → K ≤ (bxAt B j).b ∨ (bxAt B j).b ∈ bs := by intro _ _ e; cases e) : AG M P n N R X ops k0 L Γ w :=
  T.put i j o cs s.st s.g0 (cTs_1 hc).1 (cTs_1 hc).2 hj he (fun w' p s' => H w' (s.put0 (of_decide_eq_true (Bool.and_eq_true _ _ ▸ hj).1) p s' (setB_b (of_decide_eq_true (Bool.and_eq_true _ _ ▸ hj).1)))) hz
theorem tW {α : Type} (i j : Nat) (l : List α) (f : α → List Value) (sz e : Nat) (x : α) (s : SS w0 h0 w h B Rs F) (hk : e < l.length) (H : ∀ w', SS w0 h0 w' h (setV B j ((l.set e x).flatMap f)) Rs F → AG M P n N R X ops k0 (L.setIfInBounds i true) Γ w') (hc : cTs ops k0 L Γ i = true := by kernel_rfl)
    (hj : decide (j < B.length) = true := by kernel_rfl) (hB : (bxAt B j).vs = l.flatMap f := by kernel_rfl) (hf : ∀ x, (f x).length = sz := by intro _; rfl)
    (he : evalW P (execOp (ev Γ) (opAt ops i)) = some (.skip, mkl (bxAt B j).b (0 + e * sz) (f x)) := by kernel_rfl) (hz : ∀ K bs, M.z = some (K, bs) → K ≤ (bxAt B j).b ∨ (bxAt B j).b ∈ bs := by intro _ _ e; cases e) : AG M P n N R X ops k0 L Γ w :=
  T.putA i j l f sz e x s.st s.g0 (cTs_1 hc).1 (cTs_1 hc).2 hj hB hf hk he (fun w' p s' => H w' (s.put0 (of_decide_eq_true hj) p s' (setV_b (of_decide_eq_true hj)))) hz
theorem tN {y : Code} {N' R' : Po} {X' : Nat → Po} (H : CG P n N' R' X' y Γ w) (hc : (Region.ready .any ops L).isEmpty = true := by kernel_rfl) : AG M P n (fun a w => y.wp P (mkQ N' R' X') a w) R X ops k0 L Γ w := T.next hc H
theorem tD (H : ∀ a, Kn n a Γ → N a w) (hc : (Region.ready .any ops L).isEmpty = true := by kernel_rfl) : AG M P n N R X ops k0 L Γ w := T.done hc H
/-- A drawn region. -/
theorem cR {id : Nat} {d : Bool} (k0 : Nat) (AL : List Al) (hm : P.follows .mixedOrders = true) (s : SS w0 h0 w h B Rs F) (oks : ∀ x ∈ AL, AlOk P ops k0 x) (H : EG ⟨[], none⟩ P n N R X ops k0 h AL (Array.replicate ops.size false) Γ w h) (hord : ordered ops = true := by kernel_rfl) : CG P n N R X (.region id ops d) Γ w :=
  CG.region ⟨[], none⟩ k0 AL hm hord s.g oks (fun _ hb => by cases hb) H
end drawn
/-! #### An own array that is lent to a callee to read -/
theorem lend {w : World} {h : Hp} (g : G w h) {b : Nat} {ty : TypeId} {vs : List Value} (hj : h[b]? = some junk) (o : Own w b ty vs) : ∃ hp, G w hp ∧ Gw h hp ∧ Seg hp b 0 vs ∧ ∀ c, c ≠ b → hp[c]? = h[c]? := by
  have hlt := lt_of_some hj
  refine ⟨h.setIfInBounds b (.cells vs.toArray ty (0, 0)), ⟨by simp; exact g.size, fun c => ?_⟩, ⟨by simp, fun c hc => ?_⟩, fun i v hv => ?_, fun c hc => Array.getElem?_setIfInBounds_ne (Ne.symm hc)⟩
  · by_cases e : b = c
    · subst e; left; rw [Array.getElem?_setIfInBounds_self_of_lt hlt]; exact o.symm
    · rw [Array.getElem?_setIfInBounds_ne e]; exact g.blk c
  · by_cases e : b = c
    · subst e; exact .inr hj
    · left; rw [Array.getElem?_setIfInBounds_ne e]
  · unfold hcell
    rw [Array.getElem?_setIfInBounds_self_of_lt hlt]
    simpa using hv
theorem unlend {w w' : World} {h hp h' : Hp} {b : Nat} (hj : h[b]? = some junk) (ho : ∀ c, c ≠ b → hp[c]? = h[c]?) (hsz : hp.size = h.size) (u : Up w hp w' h') : ∃ h'', Up w h w' h'' := by
  have hlt := lt_of_some hj
  have hlt' : b < h'.size := Nat.lt_of_lt_of_le (by omega) u.gr.size
  refine ⟨h'.setIfInBounds b junk, u.ext, ⟨by simp; rw [← hsz]; exact u.gr.size, fun c hc => ?_⟩, ⟨by simp; exact u.g.size, fun c => ?_⟩⟩
  · by_cases e : b = c
    · subst e; rw [Array.getElem?_setIfInBounds_self_of_lt hlt', hj]
    · rw [Array.getElem?_setIfInBounds_ne e, u.gr.blk c (by omega), ho c (Ne.symm e)]
  · by_cases e : b = c
    · subst e; right; rw [Array.getElem?_setIfInBounds_self_of_lt hlt']
    · rw [Array.getElem?_setIfInBounds_ne e]; exact u.g.blk c
theorem G.sz {w : World} {h h' : Hp} (g : G w h) (g' : G w h') : h'.size = h.size := by rw [← g.size, ← g'.size]
section lent
variable {M : Ms} {P : Program} {n : Nat} {N R : Po} {X : Nat → Po} {ops : Array Oper} {k k0 : Nat} {hr : Hp} {AL : List Al} {L : Array Bool} {Γ : Env} {w : World} {h : Hp} {w0 : World} {h0 : Hp} {B : List Bx} {Rs : List Rw} {F : List (Hp → Prop)}
theorem SS.lends (s : SS w0 h0 w h B Rs F) {j : Nat} (hj : j < B.length) {f : FuncId} {args : Array Value} {Φ : Value → Prop} (c : ∀ hp, G w hp → AllF F hp → Seg hp (bxAt B j).b 0 (bxAt B j).vs → Calls P f args w (Ret w hp (fun v _ => Φ v))) : Calls P f args w (Ret w h (fun v _ => Φ v)) := by
  have hm := bxAt_mem hj
  obtain ⟨hp, g, gw, sg, ho⟩ := lend s.g (s.st.jk _ hm) (s.st.own _ hm)
  refine (c hp g (s.f.gw s.mo gw) sg).mono ?_
  rintro e w' ⟨v, h', he, u, hΦ⟩
  obtain ⟨h'', u'⟩ := unlend (s.st.jk _ hm) ho (s.g.sz g) u
  exact ⟨v, h'', he, u', hΦ⟩
theorem lCl (t j : Nat) {f : FuncId} {args : Array Value} {Φ : Value → Prop} (s : SS w0 h0 w h B Rs F) (c : ∀ hp, G w hp → AllF F hp → Seg hp (bxAt B j).b 0 (bxAt B j).vs → Calls P f args w (Ret w hp (fun v _ => Φ v))) (H : ∀ v w' h', SS w0 h0 w' h' B Rs F → Φ v → LG P n N R X ops (k + 1) ((t, v) :: Γ) w') (hj : decide (j < B.length) = true := by kernel_rfl) (hc : cL ops Γ k t n = true := by kernel_rfl) (hr : (execOp (ev Γ) (opAt ops k)).run P w = .ok (.enter f args) w := by kernel_rfl) : LG P n N R X ops k Γ w :=
  lC t s (s.lends (of_decide_eq_true hj) c) H hc hr
theorem eCl (i t j : Nat) {f : FuncId} {args : Array Value} {Φ : Value → Prop} (s : SS w0 h0 w h B Rs F) (c : ∀ w hp, G w hp → AllF F hp → Seg hp (bxAt B j).b 0 (bxAt B j).vs → Calls P f args w (Ret w hp (fun v _ => Φ v))) (H : ∀ v w' h', SS w0 h0 w' h' B Rs F → Φ v → EG M P n N R X ops k0 hr AL (L.setIfInBounds i true) ((t, v) :: Γ) w' h') (hj : decide (j < B.length) = true := by kernel_rfl) (hc : cEv n ops k0 AL L Γ i t = true := by kernel_rfl) (hv : ∀ w, (execOp (ev Γ) (opAt ops i)).run P w = .ok (.enter f args) w := by intro _; kernel_rfl) : EG M P n N R X ops k0 hr AL L Γ w h :=
  eC i t (Φ := fun _ _ v _ => Φ v) s (fun w1 h1 s1 => s1.lends (of_decide_eq_true hj) (c w1)) (fun _ _ v w' h' => H v w' h') hc hv
end lent
/-! #### A loop, unrolled -/
section unroll
variable {P : Program} {n : Nat} {N R : Po} {X : Nat → Po} {Γ : Env} {w : World}
def CLa (P : Program) (N R : Po) (X : Nat → Po) (c : Code) (a : Act) (w : World) : Prop := ∀ (b : Frame) (k : List Item) (cs : List Frame), ∃ e a' w', mkQ N R X e a' w' ∧ Arrives P (lone (b.at a (.code c :: .inLoop c :: k)) cs w) b k cs e a' w'
def CL (P : Program) (n : Nat) (N R : Po) (X : Nat → Po) (c : Code) (Γ : Env) (w : World) : Prop := ∀ a, Kn n a Γ → CLa P N R X c a w
theorem cU {c : Code} (H : CL P n N R X c Γ w) : CG P n N R X (.loop c) Γ w := fun a ka b k cs => by
  obtain ⟨e, a', w', hq, harr⟩ := H a ka b k cs
  exact ⟨e, a', w', hq, .of_steps (.one step_loop) harr⟩
theorem cN {c : Code} (H : CG P n (CLa P N R X c) R X c Γ w) : CL P n N R X c Γ w := fun a ka b k cs => by
  obtain ⟨e, a₁, w₁, hq, harr⟩ := H a ka b (.inLoop c :: k) cs
  cases e with
  | normal =>
    obtain ⟨e₂, a₂, w₂, hq₂, harr₂⟩ := hq b k cs
    exact ⟨e₂, a₂, w₂, hq₂, .of_steps (Steps.trans harr (.one step_inLoop)) harr₂⟩
  | exit id => exact ⟨.exit id, a₁, w₁, hq, .pass (x := .inLoop c) rfl (fun _ _ => .inl (by simp)) harr⟩
  | goto l => exact hq.elim
  | ret => exact ⟨.ret, a₁, w₁, hq, .pass (x := .inLoop c) rfl (fun _ _ => .inl (by simp)) harr⟩
  | panic ch => exact hq.elim
  | outgrown => exact hq.elim
theorem CL.to {c : Code} (Γ' : Env) (H : CL P n N R X c Γ' w) (he : pickE Γ (Γ'.map (·.1)) = Γ' := by kernel_rfl) : CL P n N R X c Γ w := fun a ka => H a (ka.to Γ' he)
end unroll
end Go.Proofs.YtmkonbkdjmfjhaaGreatDoor
