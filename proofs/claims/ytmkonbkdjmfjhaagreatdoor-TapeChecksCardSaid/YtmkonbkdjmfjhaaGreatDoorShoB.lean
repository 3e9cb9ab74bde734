/- The engine's short laws: regions as listed. No program in sight. -/
import Derived.Test.YtmkonbkdjmfjhaaGreatDoorSho
namespace Go.Proofs.YtmkonbkdjmfjhaaGreatDoor
open Go.RowKit

theorem wr64 {n : Int} (h0 : -9223372036854775808 ≤ n) (h1 : n ≤ 9223372036854775807) : IntKind.wrap .i64 n = n := by rw [IntKind.wrap_i64]; omega
/-- The element of an index, what append and make are handed, as the operation tells. -/
def ixE (P : Program) (ρ : Operand → Value) (o : Oper) : Option (Value × Value × Nat) :=
  match o.op with
  | .indexAddr t x ix => match P.underlying t with
    | some (.slice e) => (P.info? e).map fun i => (ρ x, ρ ix, i.size)
    | _ => none
  | _ => none
theorem ixE_run {P : Program} {Γ : Env} {o : Oper} {A : Option Addr} {len cap sz : Nat} {i : Int} {k : Nat} (h : ixE P (ev Γ) o = some (.slice A len cap, .int .i64 i, sz)) (hA : A = some ⟨aB A, aO A, none⟩) (hk : i = k) (hlt : k < len) (w : World) :
    (execOp (ev Γ) o).run P w = .ok (.value (.pointer (some ⟨aB A, aO A + k * sz, none⟩))) w := by
  unfold ixE at h
  split at h
  · rename_i t x ix ho
    split at h
    · rename_i e hu
      cases hi : P.info? e with
      | none => rw [hi] at h; cases h
      | some inf =>
        rw [hi] at h
        simp only [Option.map_some, Option.some.injEq, Prod.mk.injEq] at h
        exact ixAddr (P := P) k ho h.1 h.2.1 hu (by rw [hi]; simp [h.2.2]) hA hk hlt w
    · cases h
  · cases h
def slE (P : Program) (ρ : Operand → Value) (o : Oper) : Option (Value × Option Value × Option Value × Nat) :=
  match o.op with
  | .slice t x lo' hi' none => match P.underlying t with
    | some (.slice e) => (P.info? e).map fun i => (ρ x, lo'.map ρ, hi'.map ρ, i.size)
    | _ => none
  | _ => none
theorem e0add (a : Addr) : a.add 0 = a := by unfold Addr.add; simp
/-- A slice's beginning, its end, a part. -/
theorem slE_to {P : Program} {Γ : Env} {o : Oper} {A : Option Addr} {len cap sz : Nat} {i : Int} (k : Nat) (h : slE P (ev Γ) o = some (.slice A len cap, none, some (.int .i64 i), sz)) (hk : i = k) (hlt : k ≤ cap) (w : World) :
    (execOp (ev Γ) o).run P w = .ok (.value (.slice A k cap)) w := by
  unfold slE at h
  split at h
  · rename_i t x l r ho
    split at h
    · rename_i e hu
      cases hi : P.info? e with
      | none => rw [hi] at h; cases h
      | some inf =>
        rw [hi] at h
        simp only [Option.map_some, Option.some.injEq, Prod.mk.injEq, Option.map_eq_none_iff, Option.map_eq_some_iff] at h
        obtain ⟨h1, rfl, ⟨y, rfl, h3⟩, h4⟩ := h
        exact slTo (P := P) k ho h1 h3 hu (by rw [hi]; rfl) hk hlt w
    · cases h
  · cases h
theorem slE_from {P : Program} {Γ : Env} {o : Oper} {A : Option Addr} {len cap sz : Nat} {i : Int} (k : Nat) (h : slE P (ev Γ) o = some (.slice A len cap, some (.int .i64 i), none, sz)) (hk : i = k) (hlt : k ≤ len) (w : World) :
    (execOp (ev Γ) o).run P w = .ok (.value (.slice (if cap = k then A else A.map (·.add (k * sz))) (len - k) (cap - k))) w := by
  unfold slE at h
  split at h
  · rename_i t x l r ho
    split at h
    · rename_i e hu
      cases hi : P.info? e with
      | none => rw [hi] at h; cases h
      | some inf =>
        rw [hi] at h
        simp only [Option.map_some, Option.some.injEq, Prod.mk.injEq, Option.map_eq_none_iff, Option.map_eq_some_iff] at h
        obtain ⟨h1, ⟨y, rfl, h3⟩, rfl, h4⟩ := h
        exact slFrom (P := P) k ho h1 h3 hu (by rw [hi]; simp [h4]) hk hlt w
    · cases h
  · cases h
def mkE (P : Program) (ρ : Operand → Value) (o : Oper) : Option (Value × Value × TypeId × Value × Nat × Nat) :=
  match o.op with
  | .makeSlice t x y => match P.underlying t with
    | some (.slice e) => match P.info? e with
      | some i => i.zero.map fun z => (ρ x, ρ y, e, z, i.size, i.bytes)
      | _ => none
    | _ => none
  | _ => none
theorem mkE_run {P : Program} {Γ : Env} {o : Oper} {e : TypeId} {z : Value} {m sz bt : Nat} {α : Type} {f : α → List Value} {x0 : α} (h : mkE P (ev Γ) o = some (.int .i64 (m : Int), .int .i64 (m : Int), e, z, sz, bt)) (hzc : z.cells.toList = f x0) (hzs : z.cells.size = sz) (hpos : 0 < sz) (hm : bt * m ≤ 140737488355328) (hm2 : m < 9223372036854775808) (w : World) :
    (execOp (ev Γ) o).run P w = .ok (.value (.slice (some ⟨w.heap.size, 0, none⟩) m m)) (w.alloc (.cells ((List.replicate m x0).flatMap f).toArray e (0, 0))) := by
  unfold mkE at h
  split at h
  · rename_i t x y ho
    split at h
    · rename_i e' hu
      split at h
      · rename_i inf hi
        simp only [Option.map_eq_some_iff, Prod.mk.injEq] at h
        obtain ⟨z', hz, h1, h2, rfl, rfl, h3, h4⟩ := h
        exact mkSl (P := P) ho h1 h2 hu (by rw [hi]; simp [hz, h3, h4]) hzc hzs hpos hm hm2 w
      · cases h
    · cases h
  · cases h
def apE (P : Program) (ρ : Operand → Value) (o : Oper) : Option (Value × Value × TypeId × Value × Nat × Nat) :=
  match o.op with
  | .call { callee := .builtin .append, args := ⟨[x, y]⟩, argTypes := ⟨[t, u]⟩ } => if t = u then match P.underlying t with
    | some (.slice e) => match P.info? e with
      | some i => i.zero.map fun z => (ρ x, ρ y, e, z, i.size, i.bytes)
      | _ => none
    | _ => none else none
  | _ => none
theorem apE_op {P : Program} {ρ : Operand → Value} {o : Oper} {r : Value × Value × TypeId × Value × Nat × Nat} (h : apE P ρ o = some r) : ∃ x y t, o.op = .call { callee := .builtin .append, args := #[x, y], argTypes := #[t, t] } ∧ ρ x = r.1 ∧ ρ y = r.2.1 ∧ P.underlying t = some (.slice r.2.2.1) ∧ (P.info? r.2.2.1).map (fun i => (i.zero, i.size, i.bytes)) = some (some r.2.2.2.1, r.2.2.2.2.1, r.2.2.2.2.2) := by
  unfold apE at h
  split at h
  · rename_i x y t u ho
    split at h
    · rename_i htu
      subst htu
      split at h
      · rename_i e hu
        split at h
        · rename_i inf hi
          simp only [Option.map_eq_some_iff] at h
          obtain ⟨z, hz, rfl⟩ := h
          exact ⟨x, y, t, ho, rfl, rfl, hu, by rw [hi]; simp [hz]⟩
        · cases h
      · cases h
    · cases h
  · cases h

section listed
variable {P : Program} {n : Nat} {N R : Po} {X : Nat → Po} {ops : Array Oper} {k : Nat} {Γ : Env} {w : World} {h : Hp} {w0 : World} {h0 : Hp} {B : List Bx} {Rs : List Rw} {F : List (Hp → Prop)}
def cL (ops : Array Oper) (Γ : Env) (k t n : Nat) : Bool := chkL ops Γ k && ((opAt ops k).dst == some t) && decide (t < n) && (wantE ops Γ (opAt ops k) == some true)
def cS (ops : Array Oper) (Γ : Env) (k : Nat) : Bool := chkL ops Γ k && ((opAt ops k).dst == none) && (wantE ops Γ (opAt ops k) == some true)
theorem cL_1 {t : Nat} (h : cL ops Γ k t n = true) : (chkL ops Γ k && ((opAt ops k).dst == some t) && decide (t < n)) = true ∧ wantE ops Γ (opAt ops k) = some true := by
  unfold cL at h
  rw [Bool.and_eq_true] at h
  exact ⟨h.1, by simpa using h.2⟩
theorem cS_1 (h : cS ops Γ k = true) : (chkL ops Γ k && ((opAt ops k).dst == none)) = true ∧ wantE ops Γ (opAt ops k) = some true := by
  unfold cS at h
  rw [Bool.and_eq_true] at h
  exact ⟨h.1, by simpa using h.2⟩
theorem lV (t : Nat) (v : Value) (H : LG P n N R X ops (k + 1) ((t, v) :: Γ) w) (hc : cL ops Γ k t n = true := by kernel_rfl) (hr : (execOp (ev Γ) (opAt ops k)).run P w = .ok (.value v) w := by kernel_rfl) : LG P n N R X ops k Γ w :=
  LG.val t v w (cL_1 hc).1 (cL_1 hc).2 hr H
theorem lB (t : Nat) {e b : Bool} (hb : e = b) (H : LG P n N R X ops (k + 1) ((t, .bool b) :: Γ) w) (hc : cL ops Γ k t n = true := by kernel_rfl) (hr : (execOp (ev Γ) (opAt ops k)).run P w = .ok (.value (.bool e)) w := by kernel_rfl) : LG P n N R X ops k Γ w :=
  LG.val t _ w (cL_1 hc).1 (cL_1 hc).2 (hb ▸ hr) H
/-- An int of 64 bits that does not overflow. -/
theorem lI (t : Nat) (m : Int) (H : LG P n N R X ops (k + 1) ((t, .int .i64 m) :: Γ) w) (hc : cL ops Γ k t n = true := by kernel_rfl) (hr : (execOp (ev Γ) (opAt ops k)).run P w = .ok (.value (.int .i64 (IntKind.wrap .i64 m))) w := by kernel_rfl) (h0 : -9223372036854775808 ≤ m := by omega) (h1 : m ≤ 9223372036854775807 := by omega) : LG P n N R X ops k Γ w :=
  LG.val t _ w (cL_1 hc).1 (cL_1 hc).2 (by rw [wr64 h0 h1] at hr; exact hr) H
theorem lIn (t : Nat) (m : Int) (j : Nat) (H : LG P n N R X ops (k + 1) ((t, .int .i64 (j : Int)) :: Γ) w) (hc : cL ops Γ k t n = true := by kernel_rfl) (hr : (execOp (ev Γ) (opAt ops k)).run P w = .ok (.value (.int .i64 (IntKind.wrap .i64 m))) w := by kernel_rfl) (he : m = j := by omega) (h1 : m ≤ 9223372036854775807 := by omega) : LG P n N R X ops k Γ w :=
  LG.val t _ w (cL_1 hc).1 (cL_1 hc).2 (by rw [wr64 (by omega) h1, he] at hr; exact hr) H
/-- An int whose value is put in other words. -/
theorem lE (t : Nat) {ik : IntKind} {m j : Int} (he : m = j) (H : LG P n N R X ops (k + 1) ((t, .int ik j) :: Γ) w) (hc : cL ops Γ k t n = true := by kernel_rfl) (hr : (execOp (ev Γ) (opAt ops k)).run P w = .ok (.value (.int ik m)) w := by kernel_rfl) : LG P n N R X ops k Γ w :=
  LG.val t _ w (cL_1 hc).1 (cL_1 hc).2 (he ▸ hr) H
theorem lO (t : Nat) (ps : List (Nat × Nat × Nat)) (v : Value) (s : SS w0 h0 w h B Rs F) (H : LG P n N R X ops (k + 1) ((t, v) :: Γ) w) (hc : cL ops Γ k t n = true := by kernel_rfl) (hp : partsOk B ps = true := by kernel_rfl) (he : evalL P (execOp (ev Γ) (opAt ops k)) (partsV B ps) = some (.value v, partsA B ps) := by kernel_rfl) : LG P n N R X ops k Γ w :=
  LG.own t ps v s.st (cL_1 hc).1 (cL_1 hc).2 hp he H
/-- A run of values and of loads from the function's own variables. -/
def evS (P : Program) (ops : Array Oper) (B : List Bx) : Env → Nat → List (Nat × Value × List (Nat × Nat × Nat)) → List (Option (Next × List Addr))
  | _, _, [] => []
  | Γ, k, x :: l => evalL P (execOp (ev Γ) (opAt ops k)) (partsV B x.2.2) :: evS P ops B ((x.1, x.2.1) :: Γ) (k + 1) l
def ckS (n : Nat) (ops : Array Oper) (B : List Bx) : Env → Nat → List (Nat × Value × List (Nat × Nat × Nat)) → Bool
  | _, _, [] => true
  | Γ, k, x :: l => cL ops Γ k x.1 n && partsOk B x.2.2 && ckS n ops B ((x.1, x.2.1) :: Γ) (k + 1) l
def pushS (Γ : Env) : List (Nat × Value × List (Nat × Nat × Nat)) → Env
  | [] => Γ
  | x :: l => pushS ((x.1, x.2.1) :: Γ) l
theorem lS (s : SS w0 h0 w h B Rs F) (l : List (Nat × Value × List (Nat × Nat × Nat))) (H : LG P n N R X ops (k + l.length) (pushS Γ l) w) (hc : ckS n ops B Γ k l = true := by kernel_rfl) (he : evS P ops B Γ k l = l.map (fun x => some (.value x.2.1, partsA B x.2.2)) := by kernel_rfl) : LG P n N R X ops k Γ w := by
  induction l generalizing Γ k with
  | nil => exact H
  | cons x l ih =>
    unfold ckS at hc
    simp only [Bool.and_eq_true] at hc
    unfold evS at he
    rw [List.map_cons] at he
    injection he with e1 e2
    refine lO x.1 x.2.2 x.2.1 s (ih ?_ hc.2 e2) hc.1.1 hc.1.2 e1
    have : k + 1 + l.length = k + (x :: l).length := by simp; omega
    rw [this]
    exact H
theorem lP (j o : Nat) (cs : List Value) (s : SS w0 h0 w h B Rs F) (H : ∀ w', SS w0 h0 w' h (setB B j o cs) Rs F → LG P n N R X ops (k + 1) Γ w') (hc : cS ops Γ k = true := by kernel_rfl)
    (hj : (decide (j < B.length) && decide (o + cs.length ≤ (bxAt B j).vs.length)) = true := by kernel_rfl) (he : evalW P (execOp (ev Γ) (opAt ops k)) = some (.skip, mkl (bxAt B j).b o cs) := by kernel_rfl) : LG P n N R X ops k Γ w :=
  LG.put j o cs s.st s.g0 (cS_1 hc).1 (cS_1 hc).2 hj he (fun w' p s' => H w' (s.put0 (of_decide_eq_true (Bool.and_eq_true _ _ ▸ hj).1) p s' (setB_b (of_decide_eq_true (Bool.and_eq_true _ _ ▸ hj).1))))
theorem lA (t : Nat) (ty : TypeId) (vs : List Value) (s : SS w0 h0 w h B Rs F) (H : ∀ b w' h', SS w0 h0 w' h' (⟨b, ty, vs⟩ :: B) Rs F → LG P n N R X ops (k + 1) ((t, .pointer (some ⟨b, 0, none⟩)) :: Γ) w') (hc : cL ops Γ k t n = true := by kernel_rfl)
    (hr : (execOp (ev Γ) (opAt ops k)).run P w = .ok (.value (.pointer (some ⟨w.heap.size, 0, none⟩))) (w.alloc (.cells vs.toArray ty (0, 0))) := by kernel_rfl) : LG P n N R X ops k Γ w :=
  LG.var t ty vs s.st (cL_1 hc).1 (cL_1 hc).2 hr (fun b w' h' hb u s' => H b w' h' (s.new u hb s'))
theorem lC (t : Nat) {f : FuncId} {args : Array Value} {Φ : Value → Hp → Prop} (s : SS w0 h0 w h B Rs F) (c : Calls P f args w (Ret w h Φ)) (H : ∀ v w' h', SS w0 h0 w' h' B Rs F → Φ v h' → LG P n N R X ops (k + 1) ((t, v) :: Γ) w') (hc : cL ops Γ k t n = true := by kernel_rfl) (hr : (execOp (ev Γ) (opAt ops k)).run P w = .ok (.enter f args) w := by kernel_rfl) : LG P n N R X ops k Γ w :=
  LG.call t f args (cL_1 hc).1 (cL_1 hc).2 hr (c.mono fun e w' ⟨v, h', he, u, hΦ⟩ => ⟨v, he, H v w' h' (s.step u) hΦ⟩)
/-- A call, its frame as it comes. -/
theorem lCu (t : Nat) {f : FuncId} {args : Array Value} {Φ : Value → Hp → Prop} (c : Calls P f args w (Ret w h Φ)) (H : ∀ v w' h', Up w h w' h' → Φ v h' → LG P n N R X ops (k + 1) ((t, v) :: Γ) w') (hc : cL ops Γ k t n = true := by kernel_rfl) (hr : (execOp (ev Γ) (opAt ops k)).run P w = .ok (.enter f args) w := by kernel_rfl) : LG P n N R X ops k Γ w :=
  LG.call t f args (cL_1 hc).1 (cL_1 hc).2 hr (c.mono fun e w' ⟨v, h', he, u, hΦ⟩ => ⟨v, he, H v w' h' u hΦ⟩)
theorem lCm (t : Nat) {f : FuncId} {args : Array Value} {rb : Nat} {Φ : Value → World → Hp → Prop} (c : Calls P f args w (RetM rb w h Φ)) (H : ∀ v w' h', UpM [rb] w h w' h' → Φ v w' h' → LG P n N R X ops (k + 1) ((t, v) :: Γ) w') (hc : cL ops Γ k t n = true := by kernel_rfl) (hr : (execOp (ev Γ) (opAt ops k)).run P w = .ok (.enter f args) w := by kernel_rfl) : LG P n N R X ops k Γ w :=
  LG.call t f args (cL_1 hc).1 (cL_1 hc).2 hr (c.mono fun e w' ⟨v, h', he, u, hΦ⟩ => ⟨v, he, H v w' h' u hΦ⟩)
/-- A load of cells that a fact tells. -/
theorem lH (t : Nat) (v : Value) {b o : Nat} {cs : List Value} (s : SS w0 h0 w h B Rs F) (sg : Seg h b o cs) (H : LG P n N R X ops (k + 1) ((t, v) :: Γ) w) (hc : cL ops Γ k t n = true := by kernel_rfl) (he : evalL P (execOp (ev Γ) (opAt ops k)) cs = some (.value v, mka b o cs.length) := by kernel_rfl) : LG P n N R X ops k Γ w :=
  LG.val t v w (cL_1 hc).1 (cL_1 hc).2 (Seg.run sg s.g (Ext.refl _) he) H
theorem lHe (t : Nat) (v : Value) {u : Value} {b o : Nat} {cs : List Value} (s : SS w0 h0 w h B Rs F) (sg : Seg h b o cs) (e : v = u) (H : LG P n N R X ops (k + 1) ((t, u) :: Γ) w) (hc : cL ops Γ k t n = true := by kernel_rfl) (he : evalL P (execOp (ev Γ) (opAt ops k)) cs = some (.value v, mka b o cs.length) := by kernel_rfl) : LG P n N R X ops k Γ w :=
  LG.val t u w (cL_1 hc).1 (cL_1 hc).2 (e ▸ Seg.run sg s.g (Ext.refl _) he) H
/-- The address of an element. -/
theorem lX (t : Nat) (A : Option Addr) (len cap sz : Nat) (i : Int) (j : Nat) (hA : A = some ⟨aB A, aO A, none⟩) (H : LG P n N R X ops (k + 1) ((t, .pointer (some ⟨aB A, aO A + j * sz, none⟩)) :: Γ) w) (hc : cL ops Γ k t n = true := by kernel_rfl) (he : ixE P (ev Γ) (opAt ops k) = some (.slice A len cap, .int .i64 i, sz) := by kernel_rfl) (hk : i = j := by omega) (hlt : j < len := by omega) : LG P n N R X ops k Γ w :=
  LG.val t _ w (cL_1 hc).1 (cL_1 hc).2 (ixE_run he hA hk hlt w) H
theorem lT (t : Nat) (A : Option Addr) (len cap sz : Nat) (i : Int) (j : Nat) (H : LG P n N R X ops (k + 1) ((t, .slice A j cap) :: Γ) w) (hc : cL ops Γ k t n = true := by kernel_rfl) (he : slE P (ev Γ) (opAt ops k) = some (.slice A len cap, none, some (.int .i64 i), sz) := by kernel_rfl) (hk : i = j := by omega) (hlt : j ≤ cap := by omega) : LG P n N R X ops k Γ w :=
  LG.val t _ w (cL_1 hc).1 (cL_1 hc).2 (slE_to j he hk hlt w) H
theorem lF (t : Nat) (A : Option Addr) (len cap sz : Nat) (i : Int) (j : Nat) (H : LG P n N R X ops (k + 1) ((t, .slice (if cap = j then A else A.map (·.add (j * sz))) (len - j) (cap - j)) :: Γ) w) (hc : cL ops Γ k t n = true := by kernel_rfl) (he : slE P (ev Γ) (opAt ops k) = some (.slice A len cap, some (.int .i64 i), none, sz) := by kernel_rfl) (hk : i = j := by omega) (hlt : j ≤ len := by omega) : LG P n N R X ops k Γ w :=
  LG.val t _ w (cL_1 hc).1 (cL_1 hc).2 (slE_from j he hk hlt w) H
/-- A new row that is not written again. -/
theorem lR (t : Nat) (ty : TypeId) (m : Nat) (cs : List Value) (s : SS w0 h0 w h B Rs F) (H : ∀ b w' h', SS w0 h0 w' h' B Rs ((fun h => Seg h b 0 cs) :: F) → LG P n N R X ops (k + 1) ((t, .slice (some ⟨b, 0, none⟩) m m) :: Γ) w') (hc : cL ops Γ k t n = true := by kernel_rfl)
    (hr : (execOp (ev Γ) (opAt ops k)).run P w = .ok (.value (.slice (some ⟨w.heap.size, 0, none⟩) m m)) (w.alloc (.cells cs.toArray ty (0, 0))) := by kernel_rfl) : LG P n N R X ops k Γ w :=
  LG.row t ty m cs s.g (cL_1 hc).1 (cL_1 hc).2 hr (fun b w' h' u sg => H b w' h' ((s.step u).a_Seg sg))
/-- A new array of the function's own. -/
theorem lK {α : Type} (t : Nat) (ty : TypeId) (m sz bt : Nat) (z : Value) (f : α → List Value) (x0 : α) (s : SS w0 h0 w h B Rs F) (H : ∀ b w' h', SS w0 h0 w' h' (⟨b, ty, (List.replicate m x0).flatMap f⟩ :: B) Rs F → LG P n N R X ops (k + 1) ((t, .slice (some ⟨b, 0, none⟩) m m) :: Γ) w') (hc : cL ops Γ k t n = true := by kernel_rfl)
    (he : mkE P (ev Γ) (opAt ops k) = some (.int .i64 (m : Int), .int .i64 (m : Int), ty, z, sz, bt) := by kernel_rfl) (hzc : z.cells.toList = f x0 := by kernel_rfl) (hzs : z.cells.size = sz := by kernel_rfl) (hpos : 0 < sz := by decide) (hm : bt * m ≤ 140737488355328 := by omega) (hm2 : m < 9223372036854775808 := by omega) : LG P n N R X ops k Γ w :=
  LG.arr t ty m _ s.st (cL_1 hc).1 (cL_1 hc).2 (mkE_run he hzc hzs hpos hm hm2 w) (fun b w' h' hb u s' => H b w' h' (s.new u hb s'))
theorem lQ {α : Type} (t j : Nat) (l : List α) (f : α → List Value) (sz : Nat) (d : α) (e : Nat) (v : Value) (s : SS w0 h0 w h B Rs F) (hk : e < l.length) (H : LG P n N R X ops (k + 1) ((t, v) :: Γ) w) (hc : cL ops Γ k t n = true := by kernel_rfl)
    (hj : decide (j < B.length) = true := by kernel_rfl) (hB : (bxAt B j).vs = l.flatMap f := by kernel_rfl) (hf : ∀ x, (f x).length = sz := by intro _; rfl)
    (he : evalL P (execOp (ev Γ) (opAt ops k)) (f (l.getD e d)) = some (.value v, mka (bxAt B j).b (0 + e * sz) (f (l.getD e d)).length) := by kernel_rfl) : LG P n N R X ops k Γ w :=
  LG.ownA t j l f sz d e v s.st (cL_1 hc).1 (cL_1 hc).2 hj hB hf hk he H
theorem lW {α : Type} (j : Nat) (l : List α) (f : α → List Value) (sz e : Nat) (x : α) (s : SS w0 h0 w h B Rs F) (hk : e < l.length) (H : ∀ w', SS w0 h0 w' h (setV B j ((l.set e x).flatMap f)) Rs F → LG P n N R X ops (k + 1) Γ w') (hc : cS ops Γ k = true := by kernel_rfl)
    (hj : decide (j < B.length) = true := by kernel_rfl) (hB : (bxAt B j).vs = l.flatMap f := by kernel_rfl) (hf : ∀ x, (f x).length = sz := by intro _; rfl)
    (he : evalW P (execOp (ev Γ) (opAt ops k)) = some (.skip, mkl (bxAt B j).b (0 + e * sz) (f x)) := by kernel_rfl) : LG P n N R X ops k Γ w :=
  LG.putA j l f sz e x s.st s.g0 (cS_1 hc).1 (cS_1 hc).2 hj hB hf hk he (fun w' p s' => H w' (s.put0 (of_decide_eq_true hj) p s' (setV_b (of_decide_eq_true hj))))
theorem rw_get {R : List Rw} {j : Nat} {r : Rw} (hr : R.getD j default = r) (hj : j < R.length) : R[j] = r := by rw [← hr]; simp [hj]
/-- append of elements that lie elsewhere, to row j. -/
theorem lYn (t j : Nat) {ty : TypeId} {sz c m : Nat} {A : Option Addr} {cs : List Value} {bt m2 c2 : Nat} {z : Value} {a : Addr} (news : List Value) (s : SS w0 h0 w h B Rs F) (hnews : ∀ i u, news[i]? = some u → w.cell? (a.add i) = some u) (hl : news.length = m2 * sz) (h1 : ∀ u ∈ news, u.oneCell' = true) (hj : j < Rs.length) (hr : Rs[j] = ⟨ty, sz, A, c, m, cs⟩)
    (hc : cL ops Γ k t n = true) (he : apE P (ev Γ) (opAt ops k) = some (.slice A m c, .slice (some a) m2 c2, ty, z, sz, bt)) (hzs : z.cells.size = sz) (hpos : 0 < sz) (hm : m + m2 ≤ 1099511627776) (hb : (m + m2) * bt ≤ 140737488355328)
    (H : ∀ A' c' w' h', SS w0 h0 w' h' B (Rs.set j ⟨ty, sz, A', c', m + m2, cs ++ news⟩) F → LG P n N R X ops (k + 1) ((t, .slice A' (m + m2) c') :: Γ) w') : LG P n N R X ops k Γ w := by
  obtain ⟨x, y, ty', ho, hx, hy, hu, hi⟩ := apE_op he
  have r := s.ro _ (List.getElem_mem hj)
  rw [hr] at r
  obtain ⟨v', w', hrun, ow, gr, hloc⟩ := app_run (P := P) ho hx hy hu hi hzs hpos s.st r hl hnews h1 hm hb
  have hg := s.grown (j := j) hj (w' := w') (v' := v') (m2 := m2) (news := news) (by rw [hr]; exact ow) (by rw [hr]; exact gr) (by rw [hr]; exact hloc)
  rw [hr] at hg
  obtain ⟨h', A', c', rfl, _, s'⟩ := hg
  exact LG.val t _ w' (cL_1 hc).1 (cL_1 hc).2 hrun (H A' c' w' h' s')
theorem snoc_row {α : Type} {f : α → List Value} {l : List α} {x : α} : l.flatMap f ++ f x = (l ++ [x]).flatMap f := by simp
/-- append of one element. -/
theorem lY {α : Type} (t j : Nat) (ty : TypeId) (sz c : Nat) (A : Option Addr) (l : List α) (f : α → List Value) (x : α) (bt b : Nat) (z : Value) (s : SS w0 h0 w h B Rs F) (sg : Seg h b 0 (f x))
    (H : ∀ A' c' w' h', SS w0 h0 w' h' B (Rs.set j ⟨ty, sz, A', c', (l ++ [x]).length, (l ++ [x]).flatMap f⟩) F → LG P n N R X ops (k + 1) ((t, .slice A' (l ++ [x]).length c') :: Γ) w')
    (hc : cL ops Γ k t n = true := by kernel_rfl) (he : apE P (ev Γ) (opAt ops k) = some (.slice A l.length c, .slice (some ⟨b, 0, none⟩) 1 1, ty, z, sz, bt) := by kernel_rfl) (hzs : z.cells.size = sz := by kernel_rfl) (hpos : 0 < sz := by decide)
    (hr : Rs.getD j default = ⟨ty, sz, A, c, l.length, l.flatMap f⟩ := by kernel_rfl) (hj : decide (j < Rs.length) = true := by kernel_rfl) (h1 : (f x).all (·.oneCell') = true := by kernel_rfl) (hl : (f x).length = 1 * sz := by kernel_rfl) (hm : l.length + 1 ≤ 1099511627776 := by omega) (hb : (l.length + 1) * bt ≤ 140737488355328 := by omega) : LG P n N R X ops k Γ w := by
  have hj' := of_decide_eq_true hj
  refine lYn t j (f x) s (seg_news s.g sg) hl (fun u hu => (List.all_eq_true.1 h1) u hu) hj' (rw_get hr hj') hc he hzs hpos hm hb (fun A' c' w' h' s' => ?_)
  have e1 : l.length + 1 = (l ++ [x]).length := by simp
  rw [snoc_row, e1] at s'
  rw [e1]
  exact H A' c' w' h' s'
end listed
/-! ### Code -/
section code
variable {P : Program} {n : Nat} {N R : Po} {X : Nat → Po} {Γ : Env} {w : World}
theorem cSL {id : Nat} {ops : Array Oper} {y : Code} (H : LG P n (fun a w => y.wp P (mkQ N R X) a w) R X ops 0 Γ w) : CG P n N R X (.seq (.region id ops false) y) Γ w := CG.seq (CG.listed H)
theorem cIT {c : Operand} {x y : Code} (ht : CG P n N R X x Γ w) (hc : inEnv Γ c = true := by kernel_rfl) (hv : ev Γ c = .bool true := by kernel_rfl) : CG P n N R X (.cond c x y) Γ w := CG.condT hc hv ht
theorem cIF {c : Operand} {x y : Code} (ht : CG P n N R X y Γ w) (hc : inEnv Γ c = true := by kernel_rfl) (hv : ev Γ c = .bool false := by kernel_rfl) : CG P n N R X (.cond c x y) Γ w := CG.condF hc hv ht
theorem cTo {c : Code} (Γ' : Env) (H : CG P n N R X c Γ' w) (he : pickE Γ (Γ'.map (·.1)) = Γ' := by kernel_rfl) : CG P n N R X c Γ w := CG.to Γ' he H
theorem lN {ops : Array Oper} {k : Nat} {y : Code} {N' R' : Po} {X' : Nat → Po} (H : CG P n N' R' X' y Γ w) (hc : (k == ops.size) = true := by kernel_rfl) : LG P n (fun a w => y.wp P (mkQ N' R' X') a w) R X ops k Γ w := LG.next hc H
theorem lD {ops : Array Oper} {k : Nat} (H : ∀ a, Kn n a Γ → N a w) (hc : (k == ops.size) = true := by kernel_rfl) : LG P n N R X ops k Γ w := LG.done hc H
/-- A value that is left out by its guard. -/
theorem lG {ops : Array Oper} {k : Nat} (t : Nat) (H : LG P n N R X ops (k + 1) ((t, undef) :: Γ) w) (hc : (decide (k < ops.size) && ((opAt ops k).dst == some t) && decide (t < n)) = true := by kernel_rfl) (hw : wantE ops Γ (opAt ops k) = some false := by kernel_rfl) : LG P n N R X ops k Γ w := LG.out t hc hw H
theorem SS.ret {fn : Func} {Φ : Value → Hp → Prop} {w0 : World} {h0 : Hp} {h : Hp} {B : List Bx} {Rs : List Rw} {F : List (Hp → Prop)} (s : SS w0 h0 w h B Rs F) (ps : List (Nat × Nat × Nat)) (v : Value) (hΦ : Φ v h) (hk : (resK fn Γ && partsOk B ps) = true := by kernel_rfl) (he : evalL P (resE fn Γ) (partsV B ps) = some (v, partsA B ps) := by kernel_rfl) : ∀ a, Kn n a Γ → RetP P fn (Ret w0 h0 Φ) a w := retP s.st ps v hk he hΦ
theorem SS.retM {fn : Func} {rb : Nat} {Φ : Value → World → Hp → Prop} {w0 wz : World} {h0 hz : Hp} {h : Hp} {B : List Bx} {Rs : List Rw} {F : List (Hp → Prop)} (s : SS wz hz w h B Rs F) (um : UpM [rb] w0 h0 w h) (ps : List (Nat × Nat × Nat)) (v : Value) (hΦ : Φ v w h) (hk : (resK fn Γ && partsOk B ps) = true := by kernel_rfl) (he : evalL P (resE fn Γ) (partsV B ps) = some (v, partsA B ps) := by kernel_rfl) : ∀ a, Kn n a Γ → RetP P fn (RetM rb w0 h0 Φ) a w := Go.Proofs.YtmkonbkdjmfjhaaGreatDoor.retM s.st um ps v hk he hΦ
theorem go {f : FuncId} {fn : Func} {c : Code} {args : Array Value} {Ro : Ending → World → Prop} (hf : P.funcs[f]? = some fn) (Γ0 : Env) (hb : fn.body = some c) (H : CG P fn.ntmps (RetP P fn Ro) (RetP P fn Ro) (fun _ _ _ => False) c Γ0 w) (hs : Nat.ble args.size fn.ntmps = true := by kernel_rfl) (hΓ : Γ0 = envOf args.toList := by kernel_rfl) : Calls P f args w Ro :=
  enter hf hb rfl (Nat.le_of_ble_eq_true hs) Γ0 hΓ H
end code
end Go.Proofs.YtmkonbkdjmfjhaaGreatDoor
