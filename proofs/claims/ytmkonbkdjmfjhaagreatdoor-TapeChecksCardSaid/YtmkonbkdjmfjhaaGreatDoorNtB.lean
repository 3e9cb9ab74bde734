/- Contracts of frac.Max, net.activated (straight, ramp), net.known, Check, suits, of nets that are well formed. -/
import Derived.Test.YtmkonbkdjmfjhaaGreatDoorNtA
namespace Go.Proofs.YtmkonbkdjmfjhaaGreatDoor
open Go.RowKit


theorem sm0 : Sm 0 := ⟨by decide, by decide⟩
theorem cmpR_le (a b : Rat) : cmpR a b ≤ 1 := by unfold cmpR cmpI; split; omega; split <;> omega
def maxR (a b : Rat) : Rat := if 0 < cmpR b a then b else a
theorem max_t {a b : Rat} (h : 0 < cmpR b a) : qv b = qv (maxR a b) := by unfold maxR; rw [if_pos h]
theorem max_f {a b : Rat} (h : ¬ 0 < cmpR b a) : qv a = qv (maxR a b) := by unfold maxR; rw [if_neg h]

set_option maxRecDepth 100000 in
set_option maxHeartbeats 600000 in
theorem cMax (a b : Rat) (ha : Sm a) (hb : Sm b) (w : World) (h : Hp) (g : G w h) :
    Calls Tryz.prog 85 #[qv a, qv b] w (Ret w h fun v _ => v = qv (maxR a b)) := by
  have hs := St.start g
  refine enter (n := 11) Tryz.func85 rfl rfl (Nat.le_of_ble_eq_true (by kernel_rfl)) [(0, qv a), (1, qv b)] rfl ?_
  refine CG.seq ?_
  refine CG.listed ?_
  refine LG.var 2 60 (qc a) hs (by kernel_rfl) (by kernel_rfl) (by kernel_rfl) (fun b1 w2 h3 nb_ u4 hs => ?_)
  refine LG.var 3 60 (qc b) hs (by kernel_rfl) (by kernel_rfl) (by kernel_rfl) (fun b5 w6 h7 nb_ u8 hs => ?_)
  refine LG.var 4 60 ([.bool false, .int .u64 0, .string (⟨#[]⟩), .int .u64 0, .string (⟨#[]⟩)]) hs (by kernel_rfl) (by kernel_rfl) (by kernel_rfl) (fun b9 w10 h11 nb_ u12 hs => ?_)
  refine LG.next (by kernel_rfl) ?_
  refine CG.seq ?_
  refine CG.seq ?_
  refine CG.listed ?_
  refine LG.own 5 [(1, 0, 5)] (qv b) hs (by kernel_rfl) (by kernel_rfl) (by kernel_rfl) (by kernel_rfl) ?_
  refine LG.own 6 [(2, 0, 5)] (qv a) hs (by kernel_rfl) (by kernel_rfl) (by kernel_rfl) (by kernel_rfl) ?_
  refine LG.call 7 46 #[qv b, qv a] (by kernel_rfl) (by kernel_rfl) (by kernel_rfl) ?_
  refine (cCmp b a hb ha w10 h11 hs.g).mono ?_
  rintro _ w13 ⟨vu15, h14, rfl, u15, rfl⟩
  refine ⟨_, rfl, ?_⟩
  replace hs := hs.step u15
  cases hb16 : (decide ((0 : Int) < (cmpR b a : Int)))
  ·
    have phb16 := of_decide_eq_false hb16
    refine LG.val 8 (.bool false) w13 (by kernel_rfl) (by kernel_rfl) (rb (by kernel_rfl) hb16) ?_
    refine LG.next (by kernel_rfl) ?_
    refine CG.condF (by kernel_rfl) (by kernel_rfl) ?_
    refine CG.skipN ?_
    refine CG.to [(2, .pointer (some ⟨b1, 0, none⟩)), (4, .pointer (some ⟨b9, 0, none⟩))] (by kernel_rfl) ?_
    refine CG.seq ?_
    refine CG.listed ?_
    refine LG.own 10 [(2, 0, 5)] (qv a) hs (by kernel_rfl) (by kernel_rfl) (by kernel_rfl) (by kernel_rfl) ?_
    refine LG.put 0 0 (qc a) hs g (by kernel_rfl) (by kernel_rfl) (by kernel_rfl) (by kernel_rfl) (fun w17 pu hs => ?_)
    refine LG.next (by kernel_rfl) ?_
    refine CG.ret ?_
    exact retP hs [(0, 0, 5)] (qv a) (by kernel_rfl) (by kernel_rfl) (max_f (by assumption))
  ·
    have phb16 := of_decide_eq_true hb16
    refine LG.val 8 (.bool true) w13 (by kernel_rfl) (by kernel_rfl) (rb (by kernel_rfl) hb16) ?_
    refine LG.next (by kernel_rfl) ?_
    refine CG.condT (by kernel_rfl) (by kernel_rfl) ?_
    refine CG.seq ?_
    refine CG.listed ?_
    refine LG.own 9 [(1, 0, 5)] (qv b) hs (by kernel_rfl) (by kernel_rfl) (by kernel_rfl) (by kernel_rfl) ?_
    refine LG.put 0 0 (qc b) hs g (by kernel_rfl) (by kernel_rfl) (by kernel_rfl) (by kernel_rfl) (fun w18 pu hs => ?_)
    refine LG.next (by kernel_rfl) ?_
    refine CG.to [(2, .pointer (some ⟨b1, 0, none⟩)), (4, .pointer (some ⟨b9, 0, none⟩))] (by kernel_rfl) ?_
    refine CG.ret ?_
    exact retP hs [(0, 0, 5)] (qv b) (by kernel_rfl) (by kernel_rfl) (max_t (by assumption))


/-- What the kinds do (straight, ramp). -/
def act (k : Int) (u : Rat) : Rat := if k = 2 then maxR u 0 else u

/-- A layer. -/
structure Lay where
  k : Int
  W : List (List Rat)
  B : List Rat
def lay0 : Lay := ⟨0, [], []⟩
abbrev LV := Int × Value × Value
def lvc (t : LV) : List Value := [.int .i64 t.1, t.2.1, t.2.2]
def lvd : LV := (0, undef, undef)
/-- The cells ts are the layers ls. -/
structure NetL (h : Hp) (ts : List LV) (ls : List Lay) : Prop where
  len : ts.length = ls.length
  at_ : ∀ i, i < ls.length → (ts.getD i lvd).1 = (ls.getD i lay0).k ∧ (∃ A c, ∃ us : List Value, (ts.getD i lvd).2.1 = .slice A us.length c ∧ us.length ≤ c ∧ SlO 1 vc undef h A us ∧ QVs h us (ls.getD i lay0).W) ∧ SlV 5 qc 0 h (ts.getD i lvd).2.2 (ls.getD i lay0).B
theorem NetL.gw {h h' : Hp} {ts : List LV} {ls : List Lay} (r : NetL h ts ls) (u : Gw h h') : NetL h' ts ls := ⟨r.len, fun i hi => by
  obtain ⟨h1, ⟨A, c, us, h2, h3, h4, h5⟩, h6⟩ := r.at_ i hi
  exact ⟨h1, ⟨A, c, us, h2, h3, h4.gw u, h5.gw u⟩, h6.gw u⟩⟩
/-- A net that is well formed, of straight layers and ramps: d i numbers go into layer i. -/
structure NetOk (ls : List Lay) (d : Nat → Nat) : Prop where
  len : 1 ≤ ls.length ∧ ls.length ≤ 4
  first : d 0 ≤ 20
  lay : ∀ i, i < ls.length → Mat (ls.getD i lay0).W (d (i + 1)) (d i) ∧ (ls.getD i lay0).B.length = d (i + 1) ∧ d (i + 1) ≤ 12 ∧ ((ls.getD i lay0).k = 1 ∨ (ls.getD i lay0).k = 2)
theorem NetOk.small {ls : List Lay} {d : Nat → Nat} (o : NetOk ls d) (i : Nat) (h : i < ls.length) : d i ≤ 20 := by
  cases i with
  | zero => exact o.first
  | succ i => have := (o.lay i (by omega)).2.2.1; omega

end Go.Proofs.YtmkonbkdjmfjhaaGreatDoor
