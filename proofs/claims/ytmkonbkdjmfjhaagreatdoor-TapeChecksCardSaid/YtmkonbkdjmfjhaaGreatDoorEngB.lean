/- The engine's laws: a region walked in its listed order serves every order; code under what is known of its temporaries. No program in sight. -/
import Derived.Test.YtmkonbkdjmfjhaaGreatDoorEng
namespace Go.Proofs.YtmkonbkdjmfjhaaGreatDoor
open Go.RowKit

section laws
variable {M : Ms} {P : Program} {ops : Array Oper} {Q : Exit → Act → World → Prop} {k0 : Nat}

theorem size_addL (L : Array Bool) (S : List SA) : (addL L S).size = L.size := by
  induction S with
  | nil => rfl
  | cons s S ih => show ((addL L S).setIfInBounds s.1.i true).size = _; simp [ih]

theorem E.take0 {h0 : Hp} {AL : List Al} {L : Array Bool} {a : Act} {w : World} {h : Hp} {i : Nat} {o : Oper} {v : Value} {S : World → Prop}
    (hi : ops[i]? = some o) (hk : i < k0) (hsel : Region.noSelect ops = true) (hf : Region.free .any ops L i = true) (hr : i ∈ Region.ready .any ops L)
    (hal : ∀ x ∈ AL, x.i ≠ i ∧ x.t ∉ o.looksAt ops ∧ o.dst ≠ some x.t) (hQ : ∀ c a w, ¬ Q (.panic c) a w)
    (hcl : ∀ w w', S w → Mo M.l w w' → S w') (hS : ∀ w', Mo M.l w w' → S w') (hy : YieldsIf P ops S o v a)
    (htail : (∀ w, S w) ∨ (∀ w w', S w → Tl M w w' → S w') ∨ ∀ j oj, ops[j]? = some oj → k0 ≤ j → j ≠ i → ∃ e ∈ oj.after, Region.binds .any e = true ∧ e.on = i)
    (H : E M P ops Q k0 h0 AL (L.setIfInBounds i true) (a.put o.dst v) w h) : E M P ops Q k0 h0 AL L a w h := by
  intro w' h' u S' T hp hb hn
  have hS' : ∀ s ∈ S', s.1.i ≠ i ∧ s.1.t ∉ o.looksAt ops ∧ o.dst ≠ some s.1.t := fun s hs => hal _ (mem_perm hp hs)
  have H1 := H w' h' u S' T hp hb hn
  rw [addL_set L S' i (fun s hs => (hS' s hs).1), addA_put a S' o.dst v (fun s hs => (hS' s hs).2.2)] at H1
  have hr' := addL_ready (fun s hs => (hS' s hs).1) hr
  obtain ⟨e1, e2⟩ := exec_addA (ops := ops) (Region.noSelect_spec hsel i o · · hi) a S' (fun s hs => (hS' s hs).2.1)
  unfold A at *
  rw [rem_ready hr']
  exact anyR_first hi (Region.noSelect_spec hsel) (fun c a w hq => absurd hq (hQ _ _ _)) hcl _ _ _ _
    (fun j oj hj hji hun => Region.free_spec hi hf j oj hj hji (addL_getD hun)) htail hr' (hy.of_same e1 e2) (hS _ (u.m M.l).mo) H1 hk

theorem E.event0 {h0 : Hp} {AL : List Al} {L : Array Bool} {a : Act} {w : World} {h : Hp} {i : Nat} {o : Oper}
    (hi : ops[i]? = some o) (hk : i < k0) (hsel : Region.noSelect ops = true) (hL : L.size = ops.size) (hun : L.getD i true = false)
    (only : ∀ j oj, ops[j]? = some oj → L.getD j true = false → j ≠ i → (∀ x ∈ AL, x.i ≠ j) → ∃ e ∈ oj.after, Region.binds .any e = true ∧ L.getD e.on false = false ∧ ∀ x ∈ AL, x.i ≠ e.on)
    (hdep : ∀ e ∈ o.after, Region.binds .any e = true → L.getD e.on false = true ∨ ∃ x ∈ AL, x.i = e.on)
    (hal : ∀ x ∈ AL, x.i ≠ i ∧ x.t ∉ o.looksAt ops ∧ o.dst ≠ some x.t) (oks : ∀ x ∈ AL, AlOk P ops k0 x) (hM : ∀ b ∈ M.l, b < h0.size) (g : G w h) (hsz : h0.size ≤ h.size)
    (H : ∀ w' h', Up w h w' h' → OpR P ops o a w' (fun v w'' => ∃ h'', UpM M.l w' h' w'' h'' ∧ E M P ops Q k0 h0 AL (L.setIfInBounds i true) (a.put o.dst v) w'' h'')) : E M P ops Q k0 h0 AL L a w h := by
  have key : ∀ (m : Nat) (T : List Al), T.length = m → ∀ w' h', Up w h w' h' → ∀ (S : List SA), (S.map (·.1) ++ T).Perm AL → (∀ s ∈ S, Blk h0 w' h' s) → (S.map (·.2)).Nodup →
      A M P ops Q k0 (addL L S) (addA a S) w' := by
    intro m
    induction m using Nat.strongRecOn with
    | _ m ih =>
      intro T hT w' h' u S hp hb hn
      have hS' : ∀ s ∈ S, s.1.i ≠ i ∧ s.1.t ∉ o.looksAt ops ∧ o.dst ≠ some s.1.t := fun s hs => hal _ (mem_perm hp hs)
      refine A.intro (fun h0' => ?_) (fun j hj => ?_)
      · exfalso
        by_cases hd : ∃ e ∈ o.after, Region.binds .any e = true ∧ (addL L S).getD e.on false = false
        · obtain ⟨e, he, hbd, hf⟩ := hd
          rcases hdep e he hbd with h1 | ⟨x, hx, hxe⟩
          · rw [addL_true h1] at hf; cases hf
          · have hlt : x.i < (addL L S).size := by
              obtain ⟨o', ho', _⟩ := (oks x hx).ex
              rw [size_addL, hL]
              exact (Array.getElem?_eq_some_iff.1 ho').1
            have : x.i ∈ Region.ready .any ops (addL L S) := al_ready (oks x hx) (by rw [← hxe] at hf; simp [Array.getD, hlt] at hf ⊢; exact hf)
            rw [h0'] at this
            cases this
        · have : i ∈ Region.ready .any ops (addL L S) := mem_ready.2 ⟨by rw [addL_ne true (fun s hs => (hS' s hs).1)]; exact hun, o, hi, fun e he hbd => by
            cases hv : (addL L S).getD e.on false
            · exact absurd ⟨e, he, hbd, hv⟩ hd
            · rfl⟩
          rw [h0'] at this
          cases this
      · by_cases hji : j = i
        · subst hji
          refine OpR.wpOp hi ((H w' h' u).addA (Region.noSelect_spec hsel j o · · hi) S (fun s hs => (hS' s hs).2.1)) ?_
          rintro v w'' ⟨h'', u2, H2⟩
          refine ⟨Rl.mo hk u2.mo, ?_⟩
          rw [← addL_set L S j (fun s hs => (hS' s hs).1), ← addA_put a S o.dst v (fun s hs => (hS' s hs).2.2)]
          exact H2 w'' h'' (Up.refl u2.g) S T hp (fun s hs => (hb s hs).up u2 hM) hn
        · obtain ⟨hjun, oj, hoj, hall⟩ := mem_ready.1 hj
          have hx : ∃ x ∈ AL, x.i = j := by
            refine Classical.byContradiction fun hno => ?_
            obtain ⟨e, he, hbd, hf, hne⟩ := only j oj hoj (addL_getD hjun) hji (fun x hx he => hno ⟨x, hx, he⟩)
            have := hall e he hbd
            rw [addL_ne false (fun s hs => hne _ (mem_perm hp hs)), hf] at this
            cases this
          obtain ⟨x, hxA, rfl⟩ := hx
          have hxT := al_of_ready hp hxA hj
          exact E_alloc oks hM u.g (Nat.le_trans hsz u.gr.size) hp hb hn hxT (fun w1 h1 S1 T1 u1 hp1 hb1 hn1 hlt => ih T1.length (by omega) T1 rfl w1 h1 (u.trans u1) S1 hp1 hb1 hn1)
  exact fun w' h' u S T hp hb hn => key _ T rfl w' h' u S hp hb hn

/-- All is done but the new variables. -/
theorem E.fin0 {h0 : Hp} {AL : List Al} {L : Array Bool} {a : Act} {w : World} {h : Hp} (hL : L.size = ops.size)
    (all : ∀ j oj, ops[j]? = some oj → L.getD j true = false → (∃ x ∈ AL, x.i = j) ∨ ∀ x ∈ AL, ∃ e ∈ oj.after, Region.binds .any e = true ∧ e.on = x.i)
    (hunl : ∀ x ∈ AL, L.getD x.i true = false) (oks : ∀ x ∈ AL, AlOk P ops k0 x) (hM : ∀ b ∈ M.l, b < h0.size) (hsz : h0.size ≤ h.size) (hnd : (AL.map (·.i)).Nodup)
    (H : ∀ w' h', Up w h w' h' → ∀ S : List SA, (S.map (·.1)).Perm AL → (∀ s ∈ S, Blk h0 w' h' s) → (S.map (·.2)).Nodup → A M P ops Q k0 (addL L S) (addA a S) w') : E M P ops Q k0 h0 AL L a w h := by
  have key : ∀ (m : Nat) (T : List Al), T.length = m → ∀ w' h', Up w h w' h' → ∀ (S : List SA), (S.map (·.1) ++ T).Perm AL → (∀ s ∈ S, Blk h0 w' h' s) → (S.map (·.2)).Nodup →
      A M P ops Q k0 (addL L S) (addA a S) w' := by
    intro m
    induction m using Nat.strongRecOn with
    | _ m ih =>
      intro T hT w' h' u S hp hb hn
      cases T with
      | nil => exact H w' h' u S (by simpa using hp) hb hn
      | cons t T' =>
        have htA : t ∈ AL := hp.mem_iff.1 (List.mem_append.2 (.inr (by simp)))
        have hnd' : ((S.map (·.1) ++ t :: T').map (·.i)).Nodup := (hp.map (·.i)).nodup_iff.2 hnd
        have htS : ∀ s ∈ S, s.1.i ≠ t.i := fun s hs he => by
          rw [List.map_append, List.nodup_append] at hnd'
          exact hnd'.2.2 s.1.i (List.mem_map.2 ⟨s.1, List.mem_map.2 ⟨s, hs, rfl⟩, rfl⟩) t.i (List.mem_map.2 ⟨t, by simp, rfl⟩) he
        have htr : t.i ∈ Region.ready .any ops (addL L S) := al_ready (oks t htA) (by rw [addL_ne true htS]; exact hunl t htA)
        refine A.intro (fun h0' => by rw [h0'] at htr; cases htr) (fun j hj => ?_)
        obtain ⟨hjun, oj, hoj, hall⟩ := mem_ready.1 hj
        rcases all j oj hoj (addL_getD hjun) with ⟨x, hxA, rfl⟩ | hw
        · have hxT := al_of_ready hp hxA hj
          exact E_alloc oks hM u.g (Nat.le_trans hsz u.gr.size) hp hb hn hxT (fun w1 h1 S1 T1 u1 hp1 hb1 hn1 hlt => ih T1.length (by omega) T1 rfl w1 h1 (u.trans u1) S1 hp1 hb1 hn1)
        · obtain ⟨e, he, hbd, hon⟩ := hw t htA
          have := hall e he hbd
          rw [hon] at this
          obtain ⟨hl, hv⟩ := unl (mem_ready.1 htr).1
          simp [Array.getD, hl, hv] at this
  exact fun w' h' u S T hp hb hn => key _ T rfl w' h' u S hp hb hn
end laws

/-! ### What is known of the temporaries -/
abbrev Env := List (Nat × Value)
structure Kn (n : Nat) (a : Act) (Γ : Env) : Prop where
  df : a.defers = []
  sz : a.tmps.size = n
  has : ∀ t v, Γ.lookup t = some v → a.tmps[t]? = some v
def ev (Γ : Env) : Operand → Value
  | .tmp t => (Γ.lookup t).getD undef
  | .const v => v
  | .global g => .pointer (some ⟨g, 0, none⟩)
  | .func f => .func (.func f) #[] #[]
def opAt (ops : Array Oper) (i : Nat) : Oper := ops.getD i default
def inEnv (Γ : Env) : Operand → Bool
  | .tmp t => (Γ.lookup t).isSome
  | _ => true
def knownOp (Γ : Env) (o : Oper) : Bool := o.op.operands.all (inEnv Γ)
/-- Is the operation wanted (by its guard)? -/
def wantE (ops : Array Oper) (Γ : Env) (o : Oper) : Option Bool :=
  match o.guard with
  | none => some true
  | some (g, want) => match ((ops[g]?).bind (·.dst)).bind (Γ.lookup ·) with
    | some (.bool b) => some (b == want)
    | some (.tuple _) => some false
    | _ => none
theorem Kn.put {n : Nat} {a : Act} {Γ : Env} (k : Kn n a Γ) {t : Nat} (ht : t < n) (v : Value) : Kn n (a.put (some t) v) ((t, v) :: Γ) := by
  refine ⟨k.df, by simpa [Act.put] using k.sz, fun s u hu => ?_⟩
  rw [List.lookup_cons] at hu
  by_cases e : s = t
  · subst e
    simp at hu
    subst hu
    simp [Act.put, k.sz, ht]
  · have e' : (s == t) = false := by simp [e]
    rw [e'] at hu
    simp only [Act.put]
    rw [Array.getElem?_setIfInBounds_ne (Ne.symm e)]
    exact k.has s u hu
theorem Kn.eval {n : Nat} {a : Act} {Γ : Env} (k : Kn n a Γ) {x : Operand} (hx : inEnv Γ x = true) : a.eval x = ev Γ x := by
  cases x with
  | tmp t =>
    obtain ⟨v, hv⟩ := Option.isSome_iff_exists.1 hx
    have := k.has t v hv
    simp [Act.eval, ev, hv, this]
  | _ => rfl
theorem Kn.exec {n : Nat} {a : Act} {Γ : Env} (k : Kn n a Γ) {o : Oper} (hs : ∀ cs b, o.op ≠ .select cs b) (hk : knownOp Γ o = true) : execOp a.eval o = execOp (ev Γ) o :=
  execOp_congr o hs (fun x hx => k.eval ((Array.all_eq_true_iff_forall_mem.1 hk) x hx))
theorem Kn.want {n : Nat} {a : Act} {Γ : Env} (k : Kn n a Γ) {ops : Array Oper} {o : Oper} {b : Bool} (h : wantE ops Γ o = some b) : Region.wanted o (yielded ops a.tmps) = b := by
  unfold wantE at h
  unfold Region.wanted
  split at h
  · rename_i hg; simp only [hg]; simpa using h
  · rename_i g want hg
    simp only [hg]
    cases hd : (ops[g]?).bind (·.dst) with
    | none => rw [hd] at h; simp at h
    | some t =>
      rw [hd] at h
      simp only [Option.bind_some] at h
      cases hv : Γ.lookup t with
      | none => rw [hv] at h; simp at h
      | some u =>
        rw [hv] at h
        have ht := k.has t u hv
        cases u with
        | bool x => simp at h; subst h; simp [yielded, hd, ht]
        | tuple x => simp at h; subst h; simp [yielded, hd, ht]
        | _ => simp at h
theorem Kn.mono {n : Nat} {a : Act} {Γ Γ' : Env} (k : Kn n a Γ) (h : ∀ t v, Γ'.lookup t = some v → Γ.lookup t = some v) : Kn n a Γ' := ⟨k.df, k.sz, fun t v hv => k.has t v (h t v hv)⟩
/-- Some of what is known. -/
def pickE (Γ : Env) : List Nat → Env
  | [] => []
  | t :: ts => match Γ.lookup t with | some v => (t, v) :: pickE Γ ts | none => pickE Γ ts
theorem pickE_lookup (Γ : Env) : ∀ (ts : List Nat) (t : Nat) (v : Value), (pickE Γ ts).lookup t = some v → Γ.lookup t = some v
  | [], _, _, h => by simp [pickE] at h
  | s :: ts, t, v, h => by
    unfold pickE at h
    split at h
    · rename_i u hu
      rw [List.lookup_cons] at h
      by_cases e : t = s
      · subst e; simp at h; subst h; exact hu
      · have e' : (t == s) = false := by simp [e]
        rw [e'] at h
        exact pickE_lookup Γ ts t v h
    · exact pickE_lookup Γ ts t v h

/-! ### Posts, and code -/
abbrev Po := Act → World → Prop
def mkQ (N R : Po) (X : Nat → Po) : Exit → Act → World → Prop
  | .normal, a, w => N a w
  | .ret, a, w => R a w
  | .exit i, a, w => X i a w
  | _, _, _ => False
/-- The code serves whatever the temporaries are of which Γ tells. -/
def CG (P : Program) (n : Nat) (N R : Po) (X : Nat → Po) (c : Code) (Γ : Env) (w : World) : Prop := ∀ a, Kn n a Γ → c.wp P (mkQ N R X) a w
/-- The region from here on. -/
def EG (M : Ms) (P : Program) (n : Nat) (N R : Po) (X : Nat → Po) (ops : Array Oper) (k0 : Nat) (h0 : Hp) (AL : List Al) (L : Array Bool) (Γ : Env) (w : World) (h : Hp) : Prop :=
  (∀ x ∈ AL, AlOk P ops k0 x) → (∀ b ∈ M.l, b < h0.size) → G w h → h0.size ≤ h.size → ∀ a, Kn n a Γ → E M P ops (mkQ N R X) k0 h0 AL L a w h
/-- The region's tail from here on. -/
def AG (M : Ms) (P : Program) (n : Nat) (N R : Po) (X : Nat → Po) (ops : Array Oper) (k0 : Nat) (L : Array Bool) (Γ : Env) (w : World) : Prop :=
  ∀ a, Kn n a Γ → A M P ops (mkQ N R X) k0 L a w

section steps
variable {M : Ms} {P : Program} {n : Nat} {N R : Po} {X : Nat → Po} {ops : Array Oper} {k0 : Nat} {h0 : Hp} {AL : List Al} {L : Array Bool} {Γ : Env} {w : World} {h : Hp}

def chkAL (ops : Array Oper) (AL : List Al) (i : Nat) (o : Oper) : Bool := AL.all fun x => x.i != i && !(o.looksAt ops).contains x.t && o.dst != some x.t
theorem chkAL_spec {i : Nat} {o : Oper} (hc : chkAL ops AL i o = true) : ∀ x ∈ AL, x.i ≠ i ∧ x.t ∉ o.looksAt ops ∧ o.dst ≠ some x.t := by
  intro x hx
  have := (List.all_eq_true.1 hc) x hx
  simp only [Bool.and_eq_true, bne_iff_ne, ne_eq, Bool.not_eq_true', List.contains_eq_mem, decide_eq_false_iff_not] at this
  exact ⟨this.1.1, this.1.2, this.2⟩
def chkTake (n : Nat) (ops : Array Oper) (k0 : Nat) (AL : List Al) (L : Array Bool) (i t : Nat) : Bool :=
  let o := opAt ops i
  decide (i < ops.size) && decide (i < k0) && Region.noSelect ops && Region.free .any ops L i && (Region.ready .any ops L).contains i && chkAL ops AL i o && (o.dst == some t) && decide (t < n)
structure TakeOk (n : Nat) (ops : Array Oper) (k0 : Nat) (AL : List Al) (L : Array Bool) (i t : Nat) : Prop where
  get : ops[i]? = some (opAt ops i)
  lt : i < k0
  sel : Region.noSelect ops = true
  free : Region.free .any ops L i = true
  ready : i ∈ Region.ready .any ops L
  al : ∀ x ∈ AL, x.i ≠ i ∧ x.t ∉ (opAt ops i).looksAt ops ∧ (opAt ops i).dst ≠ some x.t
  dst : (opAt ops i).dst = some t
  tn : t < n
theorem opAt_get {i : Nat} (h : i < ops.size) : ops[i]? = some (opAt ops i) := by
  unfold opAt; simp [h]
theorem chkTake_spec {i t : Nat} (h : chkTake n ops k0 AL L i t = true) : TakeOk n ops k0 AL L i t := by
  unfold chkTake at h
  simp only [Bool.and_eq_true, decide_eq_true_eq, beq_iff_eq] at h
  obtain ⟨⟨⟨⟨⟨⟨⟨h1, h2⟩, h3⟩, h4⟩, h5⟩, h6⟩, h7⟩, h8⟩ := h
  exact ⟨opAt_get h1, h2, h3, h4, by simpa using h5, chkAL_spec h6, h7, h8⟩

/-- An operation that yields its value in every world. -/
theorem Rg.pure (i t : Nat) (v : Value) (hc : (chkTake n ops k0 AL L i t && knownOp Γ (opAt ops i)) = true) (hw : wantE ops Γ (opAt ops i) = some true)
    (hr : ∀ w, (execOp (ev Γ) (opAt ops i)).run P w = .ok (.value v) w)
    (k : EG M P n N R X ops k0 h0 AL (L.setIfInBounds i true) ((t, v) :: Γ) w h) : EG M P n N R X ops k0 h0 AL L Γ w h := by
  rw [Bool.and_eq_true] at hc
  obtain ⟨hc, hkn⟩ := hc
  have c := chkTake_spec hc
  intro oks hM g hsz a ka
  have e1 := ka.exec (Region.noSelect_spec c.sel i _ · · c.get) hkn
  refine E.take0 (v := v) (S := fun _ => True) c.get c.lt c.sel c.free c.ready c.al (fun _ _ _ hq => hq) (fun _ _ _ _ => trivial) (fun _ _ => trivial) (.inl ⟨ka.want hw, fun w _ => by rw [e1]; exact hr w⟩) (.inl fun _ => trivial) ?_
  rw [c.dst]
  exact k oks hM g hsz _ (ka.put c.tn v)
/-- An operation that its guard leaves out. -/
theorem Rg.skip (i t : Nat) (hc : chkTake n ops k0 AL L i t = true) (hw : wantE ops Γ (opAt ops i) = some false)
    (k : EG M P n N R X ops k0 h0 AL (L.setIfInBounds i true) ((t, undef) :: Γ) w h) : EG M P n N R X ops k0 h0 AL L Γ w h := by
  have c := chkTake_spec hc
  intro oks hM g hsz a ka
  refine E.take0 (v := undef) (S := fun _ => True) c.get c.lt c.sel c.free c.ready c.al (fun _ _ _ hq => hq) (fun _ _ _ _ => trivial) (fun _ _ => trivial) (.inr ⟨ka.want hw, rfl⟩) (.inl fun _ => trivial) ?_
  rw [c.dst]
  exact k oks hM g hsz _ (ka.put c.tn undef)
def chkTail (ops : Array Oper) (k0 i : Nat) : Bool := (List.range ops.size).all fun j => decide (j < k0) || (opAt ops j).after.any fun e => Region.binds .any e && e.on == i
theorem chkTail_spec {i : Nat} (h : chkTail ops k0 i = true) : ∀ j oj, ops[j]? = some oj → k0 ≤ j → j ≠ i → ∃ e ∈ oj.after, Region.binds .any e = true ∧ e.on = i := by
  intro j oj hj hk _
  have hlt := (Array.getElem?_eq_some_iff.1 hj).1
  have e : oj = opAt ops j := by have := opAt_get (ops := ops) hlt; rw [hj] at this; injection this
  have := (List.all_eq_true.1 h) j (List.mem_range.2 hlt)
  simp only [Bool.or_eq_true, decide_eq_true_eq, Array.any_eq_true, Bool.and_eq_true, beq_iff_eq] at this
  rcases this with h1 | ⟨x, hx, h2⟩
  · omega
  · rw [e]; exact ⟨_, Array.getElem_mem hx, h2⟩
/-- An operation that yields its value in every greater world: a load. -/
theorem Rg.load (i t : Nat) (v : Value) (hc : (chkTake n ops k0 AL L i t && knownOp Γ (opAt ops i) && chkTail ops k0 i) = true) (hw : wantE ops Γ (opAt ops i) = some true)
    (hr : ∀ w', Mo M.l w w' → (execOp (ev Γ) (opAt ops i)).run P w' = .ok (.value v) w')
    (k : EG M P n N R X ops k0 h0 AL (L.setIfInBounds i true) ((t, v) :: Γ) w h) : EG M P n N R X ops k0 h0 AL L Γ w h := by
  rw [Bool.and_eq_true, Bool.and_eq_true] at hc
  obtain ⟨⟨hc, hkn⟩, htl⟩ := hc
  have c := chkTake_spec hc
  intro oks hM g hsz a ka
  have e1 := ka.exec (Region.noSelect_spec c.sel i _ · · c.get) hkn
  refine E.take0 (v := v) (S := fun w' => Mo M.l w w') c.get c.lt c.sel c.free c.ready c.al (fun _ _ _ hq => hq) (fun _ _ h1 h2 => h1.trans h2) (fun _ hx => hx) (.inl ⟨ka.want hw, fun w' hx => by rw [e1]; exact hr w' hx⟩) (.inr (.inr (chkTail_spec htl))) ?_
  rw [c.dst]
  exact k oks hM g hsz _ (ka.put c.tn v)

/-- A load that may come behind stores of the tail. -/
theorem Rg.loadZ (i t : Nat) (v : Value) {bs : List Nat} (hz : M.z = some (h0.size, bs)) (hc : (chkTake n ops k0 AL L i t && knownOp Γ (opAt ops i)) = true) (hw : wantE ops Γ (opAt ops i) = some true)
    (hr : ∀ w', (∀ b, b < h0.size → b ∉ bs → b ∉ M.l → w'.heap[b]? = w.heap[b]?) → (execOp (ev Γ) (opAt ops i)).run P w' = .ok (.value v) w')
    (k : EG M P n N R X ops k0 h0 AL (L.setIfInBounds i true) ((t, v) :: Γ) w h) : EG M P n N R X ops k0 h0 AL L Γ w h := by
  rw [Bool.and_eq_true] at hc
  obtain ⟨hc, hkn⟩ := hc
  have c := chkTake_spec hc
  intro oks hM g hsz a ka
  have hK : h0.size ≤ w.heap.size := by rw [g.size]; exact hsz
  have e1 := ka.exec (Region.noSelect_spec c.sel i _ · · c.get) hkn
  refine E.take0 (v := v) (S := fun w' => h0.size ≤ w'.heap.size ∧ ∀ b, b < h0.size → b ∉ bs → b ∉ M.l → w'.heap[b]? = w.heap[b]?) c.get c.lt c.sel c.free c.ready c.al (fun _ _ _ hq => hq) ?_ ?_ (.inl ⟨ka.want hw, fun w' hx => by rw [e1]; exact hr w' hx.2⟩) (.inr (.inl ?_)) ?_
  · intro w1 w2 s m
    exact ⟨Nat.le_trans s.1 m.size, fun b hb h1 h2 => (m.blk b (Nat.lt_of_lt_of_le hb s.1) h2).trans (s.2 b hb h1 h2)⟩
  · intro w' m
    exact ⟨Nat.le_trans hK m.size, fun b hb h1 h2 => m.blk b (Nat.lt_of_lt_of_le hb hK) h2⟩
  · intro w1 w2 s m
    have := m h0.size bs hz
    exact ⟨Nat.le_trans s.1 this.1, fun b hb h1 h2 => (this.2 b hb h1).trans (s.2 b hb h1 h2)⟩
  · rw [c.dst]
    exact k oks hM g hsz _ (ka.put c.tn v)

def chkEv (n : Nat) (ops : Array Oper) (k0 : Nat) (AL : List Al) (L : Array Bool) (i t : Nat) : Bool :=
  let o := opAt ops i
  decide (i < ops.size) && decide (i < k0) && Region.noSelect ops && (L.size == ops.size) && (L.getD i true == false) &&
  ((List.range ops.size).all fun j => L.getD j true || j == i || AL.any (·.i == j) || (opAt ops j).after.any fun e => Region.binds .any e && (L.getD e.on false == false) && AL.all (·.i != e.on)) &&
  (o.after.all fun e => !Region.binds .any e || L.getD e.on false || AL.any (·.i == e.on)) &&
  chkAL ops AL i o && (o.dst == some t) && decide (t < n)
/-- An operation that is the only one that may come up, but for new variables. -/
theorem Rg.event (i t : Nat) (hc : (chkEv n ops k0 AL L i t && knownOp Γ (opAt ops i)) = true) (hw : wantE ops Γ (opAt ops i) = some true)
    (H : ∀ w' h', Up w h w' h' →
      (∃ v w'' h'', (execOp (ev Γ) (opAt ops i)).run P w' = .ok (.value v) w'' ∧ UpM M.l w' h' w'' h'' ∧ EG M P n N R X ops k0 h0 AL (L.setIfInBounds i true) ((t, v) :: Γ) w'' h'') ∨
      (∃ f args, (execOp (ev Γ) (opAt ops i)).run P w' = .ok (.enter f args) w' ∧ Calls P f args w' (fun e w'' => ∃ v h'', e = .returned v ∧ UpM M.l w' h' w'' h'' ∧ EG M P n N R X ops k0 h0 AL (L.setIfInBounds i true) ((t, v) :: Γ) w'' h''))) :
    EG M P n N R X ops k0 h0 AL L Γ w h := by
  rw [Bool.and_eq_true] at hc
  obtain ⟨hc, hkn⟩ := hc
  unfold chkEv at hc
  simp only [Bool.and_eq_true, decide_eq_true_eq, beq_iff_eq] at hc
  obtain ⟨⟨⟨⟨⟨⟨⟨⟨⟨h1, h2⟩, h3⟩, h4⟩, h5⟩, h6⟩, h7⟩, h8⟩, h9⟩, h10⟩ := hc
  have hget := opAt_get (ops := ops) h1
  intro oks hM g hsz a ka
  have e1 := ka.exec (Region.noSelect_spec h3 i _ · · hget) hkn
  refine E.event0 hget h2 h3 h4 h5 ?_ ?_ (chkAL_spec h8) oks hM g hsz ?_
  · intro j oj hj hun hji hal
    have hlt := (Array.getElem?_eq_some_iff.1 hj).1
    have e : oj = opAt ops j := by have := opAt_get (ops := ops) hlt; rw [hj] at this; injection this
    have := (List.all_eq_true.1 h6) j (List.mem_range.2 hlt)
    simp only [Bool.or_eq_true, hun, Bool.false_eq_true, false_or, beq_iff_eq, hji, List.any_eq_true, Array.any_eq_true, Bool.and_eq_true] at this
    rcases this with ⟨x, hx, hxe⟩ | ⟨x, hx, ⟨hb, hL⟩, hno⟩
    · exact absurd hxe (hal x hx)
    · rw [e]
      refine ⟨_, Array.getElem_mem hx, hb, hL, fun y hy => ?_⟩
      have := (List.all_eq_true.1 hno) y hy
      simpa using this
  · intro e he hb
    have := (Array.all_eq_true_iff_forall_mem.1 h7) e he
    simp only [Bool.or_eq_true, hb, Bool.not_true, Bool.false_eq_true, false_or, List.any_eq_true, beq_iff_eq] at this
    exact this
  · intro w' h' u
    refine ⟨ka.want hw, ?_⟩
    rw [e1]
    have hsz2 := Nat.le_trans hsz u.gr.size
    rcases H w' h' u with ⟨v, w'', h'', hr, u2, k⟩ | ⟨f, args, hr, hcall⟩
    · exact .inl ⟨v, w'', hr, h'', u2, by rw [h9]; exact k oks hM u2.g (Nat.le_trans hsz2 u2.gr.size) _ (ka.put h10 v)⟩
    · exact .inr (.inr ⟨f, args, hr, hcall.mono fun e w'' ⟨v, h'', he, u2, k⟩ => ⟨v, he, h'', u2, by rw [h9]; exact k oks hM u2.g (Nat.le_trans hsz2 u2.gr.size) _ (ka.put h10 v)⟩⟩)
/-- A call. -/
theorem Rg.call (i t f : Nat) (args : Array Value) (hc : (chkEv n ops k0 AL L i t && knownOp Γ (opAt ops i)) = true) (hw : wantE ops Γ (opAt ops i) = some true)
    (hr : ∀ w', (execOp (ev Γ) (opAt ops i)).run P w' = .ok (.enter f args) w')
    (H : ∀ w' h', Up w h w' h' → Calls P f args w' (fun e w'' => ∃ v h'', e = .returned v ∧ UpM M.l w' h' w'' h'' ∧ EG M P n N R X ops k0 h0 AL (L.setIfInBounds i true) ((t, v) :: Γ) w'' h'')) :
    EG M P n N R X ops k0 h0 AL L Γ w h := Rg.event i t hc hw (fun w' h' u => .inr ⟨f, args, hr w', H w' h' u⟩)

def chkFin (ops : Array Oper) (AL : List Al) (L : Array Bool) : Bool :=
  (L.size == ops.size) && ((List.range ops.size).all fun j => L.getD j true || AL.any (·.i == j) || AL.all fun x => (opAt ops j).after.any fun e => Region.binds .any e && e.on == x.i) && AL.all (fun x => L.getD x.i true == false)
theorem Rg.fin (hc : chkFin ops AL L = true) (hnd : (AL.map (·.i)).Nodup)
    (H : ∀ a, Kn n a Γ → ∀ w' h', Up w h w' h' → ∀ S : List SA, (S.map (·.1)).Perm AL → (∀ s ∈ S, Blk h0 w' h' s) → (S.map (·.2)).Nodup → A M P ops (mkQ N R X) k0 (addL L S) (addA a S) w') :
    EG M P n N R X ops k0 h0 AL L Γ w h := by
  unfold chkFin at hc
  simp only [Bool.and_eq_true, beq_iff_eq] at hc
  obtain ⟨⟨h1, h2⟩, h3⟩ := hc
  intro oks hM _ hsz a ka
  refine E.fin0 h1 ?_ ?_ oks hM hsz hnd (H a ka)
  · intro j oj hj hun
    have hlt := (Array.getElem?_eq_some_iff.1 hj).1
    have e : oj = opAt ops j := by have := opAt_get (ops := ops) hlt; rw [hj] at this; injection this
    have := (List.all_eq_true.1 h2) j (List.mem_range.2 hlt)
    simp only [Bool.or_eq_true, hun, Bool.false_eq_true, false_or, List.any_eq_true, beq_iff_eq] at this
    rcases this with h4 | h4
    · exact .inl h4
    · refine .inr fun x hx => ?_
      have := (List.all_eq_true.1 h4) x hx
      simp only [Array.any_eq_true, Bool.and_eq_true, beq_iff_eq] at this
      obtain ⟨y, hy, hb⟩ := this
      rw [e]
      exact ⟨_, Array.getElem_mem hy, hb⟩
  · intro x hx
    have := (List.all_eq_true.1 h3) x hx
    simpa using this
theorem Rg.fin0 (hc : chkFin ops [] L = true) (H : ∀ w' h', Up w h w' h' → AG M P n N R X ops k0 L Γ w') : EG M P n N R X ops k0 h0 [] L Γ w h := by
  refine Rg.fin hc (by simp) ?_
  intro a ka w' h' u S hp _ _
  have : S = [] := by simpa using hp.length_eq
  subst this
  exact H w' h' u a ka
theorem Rg.fin1 {x : Al} (hc : (chkFin ops [x] L && decide (x.t < n)) = true) 
    (H : ∀ w' h' b, Up w h w' h' → Blk h0 w' h' (x, b) → AG M P n N R X ops k0 (L.setIfInBounds x.i true) ((x.t, .pointer (some ⟨b, 0, none⟩)) :: Γ) w') : EG M P n N R X ops k0 h0 [x] L Γ w h := by
  rw [Bool.and_eq_true, decide_eq_true_eq] at hc
  refine Rg.fin hc.1 (by simp) ?_
  intro a ka w' h' u S hp hb _
  have hl := hp.length_eq
  match S, hl with
  | [s], _ =>
    have : s.1 = x := by simpa using hp
    obtain ⟨y, b⟩ := s
    simp at this
    subst this
    exact H w' h' b u (hb _ (by simp)) _ (ka.put hc.2 _)
theorem Rg.fin2 {x y : Al} (hc : (chkFin ops [x, y] L && decide (x.t < n) && decide (y.t < n) && (x.t != y.t) && (x.i != y.i)) = true) 
    (H : ∀ w' h' b c, Up w h w' h' → Blk h0 w' h' (x, b) → Blk h0 w' h' (y, c) → b ≠ c → AG M P n N R X ops k0 ((L.setIfInBounds y.i true).setIfInBounds x.i true) ((x.t, .pointer (some ⟨b, 0, none⟩)) :: (y.t, .pointer (some ⟨c, 0, none⟩)) :: Γ) w') : EG M P n N R X ops k0 h0 [x, y] L Γ w h := by
  simp only [Bool.and_eq_true, decide_eq_true_eq, bne_iff_ne, ne_eq] at hc
  obtain ⟨⟨⟨⟨hc, h1⟩, h2⟩, h3⟩, h4⟩ := hc
  refine Rg.fin hc (by simp [h4]) ?_
  intro a ka w' h' u S hp hb hn
  have hl := hp.length_eq
  match S, hl with
  | [s, t], _ =>
    obtain ⟨s1, b⟩ := s
    obtain ⟨t1, c⟩ := t
    have hbc : b ≠ c := by simpa using hn
    have hm : s1 = x ∧ t1 = y ∨ s1 = y ∧ t1 = x := by
      have hp' : [s1, t1].Perm [x, y] := by simpa using hp
      have m1 : s1 ∈ [x, y] := hp'.mem_iff.1 (by simp)
      have m2 : x ∈ [s1, t1] := hp'.mem_iff.2 (by simp)
      have m3 : y ∈ [s1, t1] := hp'.mem_iff.2 (by simp)
      have hxy : x ≠ y := fun e => h4 (by rw [e])
      simp at m1 m2 m3
      rcases m1 with rfl | rfl
      · rcases m3 with e | e
        · exact absurd e.symm hxy
        · exact .inl ⟨rfl, e.symm⟩
      · rcases m2 with e | e
        · exact absurd e hxy
        · exact .inr ⟨rfl, e.symm⟩
    rcases hm with ⟨rfl, rfl⟩ | ⟨rfl, rfl⟩
    · exact H w' h' b c u (hb _ (by simp)) (hb _ (by simp)) hbc _ ((ka.put h2 _).put h1 _)
    · have e1 : addL L [(s1, b), (t1, c)] = (L.setIfInBounds s1.i true).setIfInBounds t1.i true := Array.setIfInBounds_comm _ _ h4
      have e2 : addA a [(s1, b), (t1, c)] = (a.put (some s1.t) (.pointer (some ⟨b, 0, none⟩))).put (some t1.t) (.pointer (some ⟨c, 0, none⟩)) :=
        Act.put_comm (x := some t1.t) (y := some s1.t) a _ _ (fun d hd hd' => h3 (Option.some.inj (hd.trans hd'.symm)))
      rw [e1, e2]
      exact H w' h' c b u (hb _ (by simp)) (hb _ (by simp)) (Ne.symm hbc) _ ((ka.put h2 _).put h1 _)

/-! #### The tail -/
def chkT (ops : Array Oper) (k0 : Nat) (L : Array Bool) (i : Nat) : Bool :=
  decide (i < ops.size) && decide (k0 ≤ i) && Region.noSelect ops && (Region.ready .any ops L == [i])
theorem A.one {a : Act} {i : Nat} (hc : chkT ops k0 L i = true) {Q : Exit → Act → World → Prop} {o : Oper} (ho : ops[i]? = some o) {R' : Value → World → Prop} (h : OpR P ops o a w R') (hT : ∀ v w', R' v w' → Tl M w w')
    (hK : ∀ v w', R' v w' → A M P ops Q k0 (L.setIfInBounds i true) (a.put o.dst v) w') : A M P ops Q k0 L a w := by
  unfold chkT at hc
  simp only [Bool.and_eq_true, decide_eq_true_eq, beq_iff_eq] at hc
  refine A.intro (fun h0 => by rw [hc.2] at h0; cases h0) (fun j hj => ?_)
  rw [hc.2, List.mem_singleton] at hj
  subst hj
  exact OpR.wpOp ho h (fun v w' hr => ⟨Rl.tl hc.1.1.2 (hT v w' hr), hK v w' hr⟩)
theorem chkT_get {i : Nat} (hc : chkT ops k0 L i = true) : ops[i]? = some (opAt ops i) ∧ Region.noSelect ops = true := by
  unfold chkT at hc
  simp only [Bool.and_eq_true, decide_eq_true_eq, beq_iff_eq] at hc
  exact ⟨opAt_get hc.1.1.1, hc.1.2⟩
/-- A value, in the tail. -/
theorem T.val (i t : Nat) (v : Value) (w' : World) (hc : (chkT ops k0 L i && knownOp Γ (opAt ops i) && ((opAt ops i).dst == some t) && decide (t < n)) = true) (hw : wantE ops Γ (opAt ops i) = some true)
    (hr : (execOp (ev Γ) (opAt ops i)).run P w = .ok (.value v) w') (k : AG M P n N R X ops k0 (L.setIfInBounds i true) ((t, v) :: Γ) w') (hT : Tl M w w' := by exact Tl.refl _ _) : AG M P n N R X ops k0 L Γ w := by
  simp only [Bool.and_eq_true, decide_eq_true_eq, beq_iff_eq] at hc
  obtain ⟨⟨⟨h1, h2⟩, h3⟩, h4⟩ := hc
  obtain ⟨hg, hs⟩ := chkT_get h1
  intro a ka
  refine A.one h1 hg (R' := fun u w1 => u = v ∧ w1 = w') ⟨ka.want hw, .inl ⟨v, w', ?_, rfl, rfl⟩⟩ (fun _ _ e => e.2 ▸ hT) ?_
  · rw [ka.exec (Region.noSelect_spec hs i _ · · hg) h2]; exact hr
  · rintro _ _ ⟨rfl, rfl⟩
    rw [h3]
    exact k _ (ka.put h4 _)
/-- A store, in the tail. -/
theorem T.store (i : Nat) (w' : World) (hc : (chkT ops k0 L i && knownOp Γ (opAt ops i) && ((opAt ops i).dst == none)) = true) (hw : wantE ops Γ (opAt ops i) = some true)
    (hr : (execOp (ev Γ) (opAt ops i)).run P w = .ok .skip w') (hT : Tl M w w') (k : AG M P n N R X ops k0 (L.setIfInBounds i true) Γ w') : AG M P n N R X ops k0 L Γ w := by
  simp only [Bool.and_eq_true, beq_iff_eq] at hc
  obtain ⟨⟨h1, h2⟩, h3⟩ := hc
  obtain ⟨hg, hs⟩ := chkT_get h1
  intro a ka
  refine A.one h1 hg (R' := fun u w1 => u = undef ∧ w1 = w') ⟨ka.want hw, .inr (.inl ⟨w', ?_, rfl, rfl⟩)⟩ (fun _ _ e => e.2 ▸ hT) ?_
  · rw [ka.exec (Region.noSelect_spec hs i _ · · hg) h2]; exact hr
  · rintro _ _ ⟨rfl, rfl⟩
    rw [h3]
    exact k _ ka
theorem T.done (hc : (Region.ready .any ops L).isEmpty = true) (k : ∀ a, Kn n a Γ → N a w) : AG M P n N R X ops k0 L Γ w :=
  fun a ka => A.done hc (k a ka)
theorem T.next {y : Code} {N' R' : Po} {X' : Nat → Po} (hc : (Region.ready .any ops L).isEmpty = true) (k : CG P n N' R' X' y Γ w) : AG M P n (fun a w => y.wp P (mkQ N' R' X') a w) R X ops k0 L Γ w :=
  fun a ka => A.done hc (k a ka)
end steps
end Go.Proofs.YtmkonbkdjmfjhaaGreatDoor
