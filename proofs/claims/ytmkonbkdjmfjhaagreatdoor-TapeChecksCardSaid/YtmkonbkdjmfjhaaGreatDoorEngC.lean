/- The engine's laws on code, on a function's own variables, and on calls. No program in sight. -/
import Derived.Test.YtmkonbkdjmfjhaaGreatDoorEngB
namespace Go.Proofs.YtmkonbkdjmfjhaaGreatDoor
open Go.RowKit

section code
variable {P : Program} {n : Nat} {N R : Po} {X : Nat → Po} {Γ : Env} {w : World}

def ordered (ops : Array Oper) : Bool := (List.range ops.size).all fun i => (opAt ops i).after.all fun e => !Region.binds .any e || decide (e.on < i)
theorem wpOps_of_any {M : Ms} {ops : Array Oper} {Q : Exit → Act → World → Prop} {k0 : Nat} (hord : ordered ops = true) : ∀ (m k : Nat) (L : Array Bool) (a : Act) (w : World), k + m = ops.size → L.size = ops.size →
    (∀ j, j < ops.size → L.getD j true = decide (j < k)) → A M P ops Q k0 L a w → wpOps P ops Q (List.range' k m) a w := by
  intro m
  induction m with
  | zero =>
    intro k L a w hk hL hall hA
    have hz : Region.ready .any ops L = [] := by
      cases hr : Region.ready .any ops L with
      | nil => rfl
      | cons i l =>
        have hm : i ∈ Region.ready .any ops L := by rw [hr]; simp
        obtain ⟨h0, o, ho, _⟩ := mem_ready.1 hm
        have hi := (Array.getElem?_eq_some_iff.1 ho).1
        rw [hall i hi] at h0
        simp at h0
        omega
    show Q .normal a w
    unfold A at hA
    cases hn : rem L with
    | zero => rw [hn] at hA; exact hA.2
    | succ n => rw [hn] at hA; exact hA.1 hz
  | succ m ih =>
    intro k L a w hk hL hall hA
    have hkl : k < ops.size := by omega
    have hready : k ∈ Region.ready .any ops L := by
      refine mem_ready.2 ⟨by rw [hall k hkl]; simp, opAt ops k, opAt_get hkl, fun e he hb => ?_⟩
      have h1 := (List.all_eq_true.1 hord) k (List.mem_range.2 hkl)
      have h2 := (Array.all_eq_true_iff_forall_mem.1 h1) e he
      simp only [hb, Bool.not_true, Bool.false_or, decide_eq_true_eq] at h2
      have h3 := hall e.on (by omega)
      rw [show decide (e.on < k) = true by simp [h2]] at h3
      have hl : e.on < L.size := by omega
      simp [Array.getD, hl] at h3 ⊢
      exact h3
    rw [List.range'_succ, wpOps_cons]
    unfold A at hA
    rw [rem_ready hready] at hA
    refine wpOp_mono (fun a' w' h' => ?_) (hA.2 k hready)
    refine ih (k + 1) (L.setIfInBounds k true) a' w' (by omega) (by simpa using hL) ?_ h'.2
    intro j hj
    by_cases e : k = j
    · subst e
      simp [Array.getD, hL, hj]
    · rw [getD_set_ne true e, hall j hj]
      congr 1
      simp only [eq_iff_iff]
      omega
theorem rem_replicate (m : Nat) : rem (Array.replicate m false) = m := by unfold rem; simp
theorem getD_replicate {m j : Nat} (hj : j < m) : (Array.replicate m false).getD j true = false := by simp [Array.getD, hj]

/-- A region, drawn or not. -/
theorem CG.region {id : Nat} {ops : Array Oper} {d : Bool} (M : Ms) (k0 : Nat) (AL : List Al) (hm : P.follows .mixedOrders = true) (hord : ordered ops = true) {h : Hp} (g : G w h) (oks : ∀ x ∈ AL, AlOk P ops k0 x) (hM : ∀ b ∈ M.l, b < h.size)
    (H : EG M P n N R X ops k0 h AL (Array.replicate ops.size false) Γ w h) : CG P n N R X (.region id ops d) Γ w := by
  intro a ka
  have HA : ∀ w' h', Up w h w' h' → A M P ops (mkQ N R X) k0 (Array.replicate ops.size false) a w' := fun w' h' u => H oks hM g (Nat.le_refl _) a ka w' h' u [] AL (List.Perm.refl _) (fun _ hs => by cases hs) (by simp)
  cases d with
  | true =>
    refine wp_region_any hm ?_
    have h1 := HA w.drew h (Up.drew (Up.refl g))
    unfold A at h1
    rw [rem_replicate] at h1
    exact anyR_any _ _ _ _ _ _ _ _ _ h1
  | false =>
    refine wp_region ?_
    rw [List.range_eq_range']
    exact wpOps_of_any hord _ 0 _ a w (by omega) (by simp) (fun j hj => by rw [getD_replicate hj]; simp) (HA w h (Up.refl g))
theorem CG.seq {x y : Code} (H : CG P n (fun a w => y.wp P (mkQ N R X) a w) R X x Γ w) : CG P n N R X (.seq x y) Γ w := by
  intro a ka
  refine wp_seq (wp_mono (H a ka) ?_)
  intro e a w hq
  cases e <;> exact hq
theorem CG.cond {c : Operand} {x y : Code} (t : Bool) (hc : inEnv Γ c = true) (hv : ev Γ c = .bool t) (ht : t = true → CG P n N R X x Γ w) (hf : t = false → CG P n N R X y Γ w) : CG P n N R X (.cond c x y) Γ w :=
  fun a ka => wp_cond_split (by rw [ka.eval hc]; exact hv) (fun e => ht e a ka) (fun e => hf e a ka)
theorem CG.condT {c : Operand} {x y : Code} (hc : inEnv Γ c = true) (hv : ev Γ c = .bool true) (ht : CG P n N R X x Γ w) : CG P n N R X (.cond c x y) Γ w := CG.cond true hc hv (fun _ => ht) (fun e => by cases e)
theorem CG.condF {c : Operand} {x y : Code} (hc : inEnv Γ c = true) (hv : ev Γ c = .bool false) (ht : CG P n N R X y Γ w) : CG P n N R X (.cond c x y) Γ w := CG.cond false hc hv (fun e => by cases e) (fun _ => ht)
theorem CG.skip (H : ∀ a, Kn n a Γ → N a w) : CG P n N R X .skip Γ w := fun a ka => wp_skip (H a ka)
theorem CG.skipN {y : Code} {N' R' : Po} {X' : Nat → Po} (H : CG P n N' R' X' y Γ w) : CG P n (fun a w => y.wp P (mkQ N' R' X') a w) R X .skip Γ w := fun a ka => wp_skip (H a ka)
theorem CG.ret (H : ∀ a, Kn n a Γ → R a w) : CG P n N R X .ret Γ w := fun a ka => wp_ret (H a ka)
theorem CG.exit {id : Nat} (H : ∀ a, Kn n a Γ → X id a w) : CG P n N R X (.exit id) Γ w := fun a ka => wp_exit (H a ka)
theorem CG.block {id : Nat} {c : Code} (H : CG P n N R (fun i => if i = id then N else X i) c Γ w) : CG P n N R X (.block id c) Γ w := by
  intro a ka
  refine wp_block (wp_mono (H a ka) ?_)
  intro e a w hq
  cases e <;> try exact hq
  rename_i i
  simp only [mkQ] at hq
  simp only [Exit.inBlock, mkQ]
  split
  · rename_i hid; rw [if_pos hid] at hq; exact hq
  · rename_i hid; rw [if_neg hid] at hq; exact hq
theorem CG.to {c : Code} (Γ' : Env) (he : pickE Γ (Γ'.map (·.1)) = Γ') (H : CG P n N R X c Γ' w) : CG P n N R X c Γ w :=
  fun a ka => H a (ka.mono (fun t v hv => pickE_lookup Γ (Γ'.map (·.1)) t v (by rw [he]; exact hv)))
theorem Kn.to {a : Act} (k : Kn n a Γ) (Γ' : Env) (he : pickE Γ (Γ'.map (·.1)) = Γ') : Kn n a Γ' :=
  k.mono (fun t v hv => pickE_lookup Γ (Γ'.map (·.1)) t v (by rw [he]; exact hv))
/-- A loop: I m Γ w: m a measure, Γ what is known at its head. -/
theorem CG.loop {c : Code} (I : Nat → Env → World → Prop) (m : Nat) (h0 : I m Γ w)
    (round : ∀ m Γ w, I m Γ w → CG P n (fun a w' => ∃ m' Γ', m' < m ∧ I m' Γ' w' ∧ Kn n a Γ') R X c Γ w) : CG P n N R X (.loop c) Γ w := by
  intro a ka
  suffices key : ∀ m a w Γ, I m Γ w → Kn n a Γ → ∀ (b : Frame) (k : List Item) (cs : List Frame), ∃ e a' w', mkQ N R X e a' w' ∧ Arrives P (lone (b.at a (.code c :: .inLoop c :: k)) cs w) b k cs e a' w' by
    intro b k cs
    obtain ⟨e, a', w', hq, harr⟩ := key m a w Γ h0 ka b k cs
    exact ⟨e, a', w', hq, .of_steps (.one step_loop) harr⟩
  intro m
  induction m using Nat.strongRecOn with
  | _ m ih =>
    intro a w Γ hI ka b k cs
    obtain ⟨e, a₁, w₁, hq, harr⟩ := round m Γ w hI a ka b (.inLoop c :: k) cs
    cases e with
    | normal =>
      obtain ⟨m', Γ', hlt, hI', ka'⟩ := hq
      obtain ⟨e₂, a₂, w₂, hq₂, harr₂⟩ := ih m' hlt a₁ w₁ Γ' hI' ka' b k cs
      exact ⟨e₂, a₂, w₂, hq₂, .of_steps (Steps.trans harr (.one step_inLoop)) harr₂⟩
    | exit id => exact ⟨.exit id, a₁, w₁, hq, .pass (x := .inLoop c) rfl (fun _ _ => .inl (by simp)) harr⟩
    | goto l => exact hq.elim
    | ret => exact ⟨.ret, a₁, w₁, hq, .pass (x := .inLoop c) rfl (fun _ _ => .inl (by simp)) harr⟩
    | panic ch => exact hq.elim
    | outgrown => exact hq.elim

/-- Entering a function. -/
def envOf (l : List Value) : Env := go 0 l
where go : Nat → List Value → Env
  | _, [] => []
  | k, v :: l => (k, v) :: go (k + 1) l
theorem envOf_go : ∀ (l : List Value) (k t : Nat) (v : Value), (envOf.go k l).lookup t = some v → k ≤ t ∧ l[t - k]? = some v
  | [], _, _, _, h => by simp [envOf.go] at h
  | u :: l, k, t, v, h => by
    rw [envOf.go, List.lookup_cons] at h
    by_cases e : t = k
    · subst e; simp at h; subst h; exact ⟨Nat.le_refl _, by simp⟩
    · have e' : (t == k) = false := by simp [e]
      rw [e'] at h
      obtain ⟨h1, h2⟩ := envOf_go l (k + 1) t v h
      refine ⟨by omega, ?_⟩
      obtain ⟨d, hd⟩ : ∃ d, t - k = d + 1 := ⟨t - k - 1, by omega⟩
      rw [hd]
      have : t - (k + 1) = d := by omega
      rw [this] at h2
      simpa using h2
theorem envOf_lookup {l : List Value} {t : Nat} {v : Value} (h : (envOf l).lookup t = some v) : l[t]? = some v := by
  have := envOf_go l 0 t v h
  simpa using this.2
/-- What a function's body must come to. -/
def RetP (P : Program) (fn : Func) (Ro : Ending → World → Prop) : Po := fun a w => a.defers = [] ∧ ∃ v, (results fn a.tmps).run P w = .ok v w ∧ Ro (.returned v) w
theorem enter {f : FuncId} {fn : Func} {c : Code} {args : Array Value} {Ro : Ending → World → Prop} (hf : P.funcs[f]? = some fn) (hb : fn.body = some c) (hn : fn.ntmps = n) (hs : args.size ≤ n)
    (Γ0 : Env) (hΓ : Γ0 = envOf args.toList) (H : CG P n (RetP P fn Ro) (RetP P fn Ro) (fun _ _ _ => False) c Γ0 w) : Calls P f args w Ro := by
  refine calls_of_wp hf hb (wp_mono (H _ ⟨rfl, ?_, ?_⟩) ?_)
  · simp; omega
  · intro t v hv
    rw [hΓ] at hv
    have h1 := envOf_lookup hv
    have hlt : t < args.size := by
      rcases Nat.lt_or_ge t args.size with hl | hl
      · exact hl
      · rw [List.getElem?_eq_none (by simpa using hl)] at h1; cases h1
    rw [Array.getElem?_append_left hlt]
    simpa using h1
  · intro e a w hq
    cases e with
    | normal => exact hq
    | ret => exact hq
    | exit i => exact hq.elim
    | goto l => exact hq.elim
    | panic ch => exact hq.elim
    | outgrown => exact hq.elim
/-- A region that is not drawn, walked as it stands. -/
def LG (P : Program) (n : Nat) (N R : Po) (X : Nat → Po) (ops : Array Oper) (k : Nat) (Γ : Env) (w : World) : Prop :=
  ∀ a, Kn n a Γ → wpOps P ops (mkQ N R X) (List.range' k (ops.size - k)) a w
theorem CG.listed {id : Nat} {ops : Array Oper} (H : LG P n N R X ops 0 Γ w) : CG P n N R X (.region id ops false) Γ w :=
  fun a ka => wp_region (by rw [List.range_eq_range']; exact H a ka)
section listed
variable {ops : Array Oper} {k : Nat}
def chkL (ops : Array Oper) (Γ : Env) (k : Nat) : Bool := decide (k < ops.size) && Region.noSelect ops && knownOp Γ (opAt ops k)
theorem LG.op (hc : chkL ops Γ k = true) (hw : wantE ops Γ (opAt ops k) = some true) {R' : Value → World → Prop}
    (h : ∀ a, Kn n a Γ → OpR P ops (opAt ops k) a w R') (hK : ∀ a v w', Kn n a Γ → R' v w' → wpOps P ops (mkQ N R X) (List.range' (k + 1) (ops.size - (k + 1))) (a.put (opAt ops k).dst v) w') : LG P n N R X ops k Γ w := by
  unfold chkL at hc
  simp only [Bool.and_eq_true, decide_eq_true_eq] at hc
  intro a ka
  obtain ⟨m, hm⟩ : ∃ m, ops.size - k = m + 1 := ⟨ops.size - k - 1, by omega⟩
  rw [hm, List.range'_succ, wpOps_cons]
  refine OpR.wpOp (opAt_get hc.1.1) (h a ka) (fun v w' hr => ?_)
  have := hK a v w' ka hr
  rw [show ops.size - (k + 1) = m by omega] at this
  exact this
theorem LG.val (t : Nat) (v : Value) (w' : World) (hc : (chkL ops Γ k && ((opAt ops k).dst == some t) && decide (t < n)) = true) (hw : wantE ops Γ (opAt ops k) = some true)
    (hr : (execOp (ev Γ) (opAt ops k)).run P w = .ok (.value v) w') (H : LG P n N R X ops (k + 1) ((t, v) :: Γ) w') : LG P n N R X ops k Γ w := by
  simp only [Bool.and_eq_true, decide_eq_true_eq, beq_iff_eq] at hc
  obtain ⟨⟨h1, h2⟩, h3⟩ := hc
  have h1' := h1
  unfold chkL at h1'
  simp only [Bool.and_eq_true, decide_eq_true_eq] at h1'
  refine LG.op h1 hw (R' := fun u w1 => u = v ∧ w1 = w') (fun a ka => ⟨ka.want hw, .inl ⟨v, w', ?_, rfl, rfl⟩⟩) ?_
  · rw [ka.exec (Region.noSelect_spec h1'.1.2 k _ · · (opAt_get h1'.1.1)) h1'.2]; exact hr
  · rintro a _ _ ka ⟨rfl, rfl⟩
    rw [h2]
    exact H _ (ka.put h3 _)
theorem LG.out (t : Nat) (hc : (decide (k < ops.size) && ((opAt ops k).dst == some t) && decide (t < n)) = true) (hw : wantE ops Γ (opAt ops k) = some false)
    (H : LG P n N R X ops (k + 1) ((t, undef) :: Γ) w) : LG P n N R X ops k Γ w := by
  simp only [Bool.and_eq_true, decide_eq_true_eq, beq_iff_eq] at hc
  obtain ⟨⟨h1, h2⟩, h3⟩ := hc
  intro a ka
  obtain ⟨m, hm⟩ : ∃ m, ops.size - k = m + 1 := ⟨ops.size - k - 1, by omega⟩
  rw [hm, List.range'_succ, wpOps_cons]
  unfold wpOp
  simp only [opAt_get h1, ka.want hw, Bool.false_eq_true, if_false]
  have := H _ (ka.put h3 undef)
  rw [show ops.size - (k + 1) = m by omega] at this
  rw [h2]
  exact this
theorem LG.store (w' : World) (hc : (chkL ops Γ k && ((opAt ops k).dst == none)) = true) (hw : wantE ops Γ (opAt ops k) = some true)
    (hr : (execOp (ev Γ) (opAt ops k)).run P w = .ok .skip w') (H : LG P n N R X ops (k + 1) Γ w') : LG P n N R X ops k Γ w := by
  simp only [Bool.and_eq_true, beq_iff_eq] at hc
  obtain ⟨h1, h2⟩ := hc
  have h1' := h1
  unfold chkL at h1'
  simp only [Bool.and_eq_true, decide_eq_true_eq] at h1'
  refine LG.op h1 hw (R' := fun u w1 => w1 = w') (fun a ka => ⟨ka.want hw, .inr (.inl ⟨w', ?_, rfl⟩)⟩) ?_
  · rw [ka.exec (Region.noSelect_spec h1'.1.2 k _ · · (opAt_get h1'.1.1)) h1'.2]; exact hr
  · rintro a _ _ ka rfl
    rw [h2]
    exact H _ ka
theorem LG.call (t f : Nat) (args : Array Value) (hc : (chkL ops Γ k && ((opAt ops k).dst == some t) && decide (t < n)) = true) (hw : wantE ops Γ (opAt ops k) = some true)
    (hr : (execOp (ev Γ) (opAt ops k)).run P w = .ok (.enter f args) w) (H : Calls P f args w (fun e w' => ∃ v, e = .returned v ∧ LG P n N R X ops (k + 1) ((t, v) :: Γ) w')) : LG P n N R X ops k Γ w := by
  simp only [Bool.and_eq_true, decide_eq_true_eq, beq_iff_eq] at hc
  obtain ⟨⟨h1, h2⟩, h3⟩ := hc
  have h1' := h1
  unfold chkL at h1'
  simp only [Bool.and_eq_true, decide_eq_true_eq] at h1'
  refine LG.op h1 hw (R' := fun v w' => LG P n N R X ops (k + 1) ((t, v) :: Γ) w') (fun a ka => ⟨ka.want hw, .inr (.inr ⟨f, args, ?_, H⟩)⟩) ?_
  · rw [ka.exec (Region.noSelect_spec h1'.1.2 k _ · · (opAt_get h1'.1.1)) h1'.2]; exact hr
  · rintro a v w' ka h
    rw [h2]
    exact h _ (ka.put h3 _)
theorem LG.done (hc : (k == ops.size) = true) (H : ∀ a, Kn n a Γ → N a w) : LG P n N R X ops k Γ w := by
  simp only [beq_iff_eq] at hc
  subst hc
  intro a ka
  rw [Nat.sub_self]
  exact H a ka
theorem LG.next {y : Code} {N' R' : Po} {X' : Nat → Po} (hc : (k == ops.size) = true) (H : CG P n N' R' X' y Γ w) : LG P n (fun a w => y.wp P (mkQ N' R' X') a w) R X ops k Γ w := LG.done hc H
end listed
theorem al_nil {ops : Array Oper} {k0 : Nat} : ∀ x ∈ ([] : List Al), AlOk P ops k0 x := fun _ h => by cases h
theorem al_cons {ops : Array Oper} {k0 : Nat} {x : Al} {l : List Al} (h : AlOk P ops k0 x) (k : ∀ y ∈ l, AlOk P ops k0 y) : ∀ y ∈ x :: l, AlOk P ops k0 y := fun y hy => by
  rcases List.mem_cons.1 hy with rfl | hy
  · exact h
  · exact k y hy
def chkAl (ops : Array Oper) (k0 : Nat) (x : Al) : Bool := decide (x.i < ops.size) && ((opAt ops x.i).dst == some x.t) && (opAt ops x.i).guard.isNone && (opAt ops x.i).after.isEmpty && decide (x.i < k0)
theorem alOk {ops : Array Oper} {k0 : Nat} {x : Al} (hc : chkAl ops k0 x = true) (hr : ∀ (ρ : Operand → Value) (w : World), (execOp ρ (opAt ops x.i)).run P w = .ok (.value (.pointer (some ⟨w.heap.size, 0, none⟩))) (w.alloc x.o)) : AlOk P ops k0 x := by
  unfold chkAl at hc
  simp only [Bool.and_eq_true, decide_eq_true_eq, beq_iff_eq, Option.isNone_iff_eq_none, Array.isEmpty_iff] at hc
  exact ⟨⟨_, opAt_get hc.1.1.1.1, hc.1.1.1.2, hc.1.1.2, hc.1.2, hr⟩, hc.2⟩
end code
end Go.Proofs.YtmkonbkdjmfjhaaGreatDoor
