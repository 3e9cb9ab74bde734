/- Contracts of frac.Max, net.activated (straight, ramp), net.known, Check, suits, of nets that are well formed. -/
import Derived.Test.YtbhpcpkcjgkcpaaGreatDoorNtA
namespace Go.Proofs.YtbhpcpkcjgkcpaaGreatDoor
open Go.RowKit


theorem sm0 : Sm 0 := ⟨by decide, by decide⟩
theorem cmpR_le (a b : Rat) : cmpR a b ≤ 1 := by unfold cmpR cmpI; split; omega; split <;> omega
def maxR (a b : Rat) : Rat := if 0 < cmpR b a then b else a
theorem max_t {a b : Rat} (h : 0 < cmpR b a) : qv b = qv (maxR a b) := by unfold maxR; rw [if_pos h]
theorem max_f {a b : Rat} (h : ¬ 0 < cmpR b a) : qv a = qv (maxR a b) := by unfold maxR; rw [if_neg h]

set_option maxRecDepth 100000 in
set_option maxHeartbeats 600000 in
theorem cMax (a b : Rat) (ha : Sm a) (hb : Sm b) (w : World) (h : Hp) (g : G w h) :
    Calls Tryz.prog 132 #[qv a, qv b] w (Ret w h fun v _ => v = qv (maxR a b)) := by
  have hs := St.start g
  refine enter (n := 11) Tryz.func132 rfl rfl (Nat.le_of_ble_eq_true (by kernel_rfl)) [(0, qv a), (1, qv b)] rfl ?_
  refine CG.seq ?_
  refine CG.listed ?_
  refine LG.var 2 45 (qc a) hs (by kernel_rfl) (by kernel_rfl) (by kernel_rfl) (fun b1 w2 h3 nb_ u4 hs => ?_)
  refine LG.var 3 45 (qc b) hs (by kernel_rfl) (by kernel_rfl) (by kernel_rfl) (fun b5 w6 h7 nb_ u8 hs => ?_)
  refine LG.var 4 45 ([.bool false, .int .u64 0, .string (⟨#[]⟩), .int .u64 0, .string (⟨#[]⟩)]) hs (by kernel_rfl) (by kernel_rfl) (by kernel_rfl) (fun b9 w10 h11 nb_ u12 hs => ?_)
  refine LG.next (by kernel_rfl) ?_
  refine CG.seq ?_
  refine CG.seq ?_
  refine CG.listed ?_
  refine LG.own 5 [(1, 0, 5)] (qv b) hs (by kernel_rfl) (by kernel_rfl) (by kernel_rfl) (by kernel_rfl) ?_
  refine LG.own 6 [(2, 0, 5)] (qv a) hs (by kernel_rfl) (by kernel_rfl) (by kernel_rfl) (by kernel_rfl) ?_
  refine LG.call 7 18 #[qv b, qv a] (by kernel_rfl) (by kernel_rfl) (by kernel_rfl) ?_
  refine (cCmp b a hb ha w10 h11 hs.g).mono ?_
  rintro _ w13 ⟨vu15, h14, rfl, u15, rfl⟩
  refine ⟨_, rfl, ?_⟩
  replace hs := hs.step u15
  cases hb16 : (decide ((0 : Int) < (cmpR b a : Int)))
  ·
    have phb16 := of_decide_eq_false hb16
    refine LG.val 8 (.bool false) w13 (by kernel_rfl) (by kernel_rfl) (rb (by kernel_rfl) hb16) ?_
    refine LG.next (by kernel_rfl) ?_
    refine CG.condF (by kernel_rfl) (by kernel_rfl) ?_
    refine CG.skipN ?_
    refine CG.to [(2, .pointer (some ⟨b1, 0, none⟩)), (4, .pointer (some ⟨b9, 0, none⟩))] (by kernel_rfl) ?_
    refine CG.seq ?_
    refine CG.listed ?_
    refine LG.own 10 [(2, 0, 5)] (qv a) hs (by kernel_rfl) (by kernel_rfl) (by kernel_rfl) (by kernel_rfl) ?_
    refine LG.put 0 0 (qc a) hs g (by kernel_rfl) (by kernel_rfl) (by kernel_rfl) (by kernel_rfl) (fun w17 pu hs => ?_)
    refine LG.next (by kernel_rfl) ?_
    refine CG.ret ?_
    exact retP hs [(0, 0, 5)] (qv a) (by kernel_rfl) (by kernel_rfl) (max_f (by assumption))
  ·
    have phb16 := of_decide_eq_true hb16
    refine LG.val 8 (.bool true) w13 (by kernel_rfl) (by kernel_rfl) (rb (by kernel_rfl) hb16) ?_
    refine LG.next (by kernel_rfl) ?_
    refine CG.condT (by kernel_rfl) (by kernel_rfl) ?_
    refine CG.seq ?_
    refine CG.listed ?_
    refine LG.own 9 [(1, 0, 5)] (qv b) hs (by kernel_rfl) (by kernel_rfl) (by kernel_rfl) (by kernel_rfl) ?_
    refine LG.put 0 0 (qc b) hs g (by kernel_rfl) (by kernel_rfl) (by kernel_rfl) (by kernel_rfl) (fun w18 pu hs => ?_)
    refine LG.next (by kernel_rfl) ?_
    refine CG.to [(2, .pointer (some ⟨b1, 0, none⟩)), (4, .pointer (some ⟨b9, 0, none⟩))] (by kernel_rfl) ?_
    refine CG.ret ?_
    exact retP hs [(0, 0, 5)] (qv b) (by kernel_rfl) (by kernel_rfl) (max_t (by assumption))

set_option maxRecDepth 100000 in
set_option maxHeartbeats 600000 in
theorem nAct1 (u : Rat) (w : World) (h : Hp) (g : G w h) :
    Calls Tryz.prog 92 #[.int .i64 1, qv u] w (Ret w h fun v _ => v = qv u) := by
  have hs := St.start g
  refine enter (n := 26) Tryz.func92 rfl rfl (Nat.le_of_ble_eq_true (by kernel_rfl)) [(0, .int .i64 1), (1, qv u)] rfl ?_
  refine CG.seq ?_
  refine CG.listed ?_
  refine LG.var 3 45 (qc u) hs (by kernel_rfl) (by kernel_rfl) (by kernel_rfl) (fun b1 w2 h3 nb_ u4 hs => ?_)
  refine LG.var 4 45 ([.bool false, .int .u64 0, .string (⟨#[]⟩), .int .u64 0, .string (⟨#[]⟩)]) hs (by kernel_rfl) (by kernel_rfl) (by kernel_rfl) (fun b5 w6 h7 nb_ u8 hs => ?_)
  refine LG.next (by kernel_rfl) ?_
  refine CG.seq ?_
  refine CG.seq ?_
  refine CG.listed ?_
  refine LG.val 7 (.int .i64 1) w6 (by kernel_rfl) (by kernel_rfl) (by kernel_rfl) ?_
  refine LG.next (by kernel_rfl) ?_
  refine CG.block ?_
  refine CG.seq ?_
  refine CG.listed ?_
  refine LG.val 9 (.bool false) w6 (by kernel_rfl) (by kernel_rfl) (by kernel_rfl) ?_
  refine LG.val 8 (.bool false) w6 (by kernel_rfl) (by kernel_rfl) (by kernel_rfl) ?_
  refine LG.next (by kernel_rfl) ?_
  refine CG.condF (by kernel_rfl) (by kernel_rfl) ?_
  refine CG.seq ?_
  refine CG.listed ?_
  refine LG.val 14 (.bool false) w6 (by kernel_rfl) (by kernel_rfl) (by kernel_rfl) ?_
  refine LG.val 13 (.bool false) w6 (by kernel_rfl) (by kernel_rfl) (by kernel_rfl) ?_
  refine LG.next (by kernel_rfl) ?_
  refine CG.condF (by kernel_rfl) (by kernel_rfl) ?_
  refine CG.skipN ?_
  refine CG.to [(3, .pointer (some ⟨b1, 0, none⟩)), (4, .pointer (some ⟨b5, 0, none⟩))] (by kernel_rfl) ?_
  refine CG.seq ?_
  refine CG.listed ?_
  refine LG.own 25 [(1, 0, 5)] (qv u) hs (by kernel_rfl) (by kernel_rfl) (by kernel_rfl) (by kernel_rfl) ?_
  refine LG.put 0 0 (qc u) hs g (by kernel_rfl) (by kernel_rfl) (by kernel_rfl) (by kernel_rfl) (fun w9 pu hs => ?_)
  refine LG.next (by kernel_rfl) ?_
  refine CG.ret ?_
  exact retP hs [(0, 0, 5)] (qv u) (by kernel_rfl) (by kernel_rfl) rfl

set_option maxRecDepth 100000 in
set_option maxHeartbeats 600000 in
theorem nAct2 (u : Rat) (hu : Sm u) (w : World) (h : Hp) (g : G w h) :
    Calls Tryz.prog 92 #[.int .i64 2, qv u] w (Ret w h fun v _ => v = qv (maxR u 0)) := by
  have hs := St.start g
  refine enter (n := 26) Tryz.func92 rfl rfl (Nat.le_of_ble_eq_true (by kernel_rfl)) [(0, .int .i64 2), (1, qv u)] rfl ?_
  refine CG.seq ?_
  refine CG.listed ?_
  refine LG.var 3 45 (qc u) hs (by kernel_rfl) (by kernel_rfl) (by kernel_rfl) (fun b1 w2 h3 nb_ u4 hs => ?_)
  refine LG.var 4 45 ([.bool false, .int .u64 0, .string (⟨#[]⟩), .int .u64 0, .string (⟨#[]⟩)]) hs (by kernel_rfl) (by kernel_rfl) (by kernel_rfl) (fun b5 w6 h7 nb_ u8 hs => ?_)
  refine LG.next (by kernel_rfl) ?_
  refine CG.seq ?_
  refine CG.seq ?_
  refine CG.listed ?_
  refine LG.val 7 (.int .i64 2) w6 (by kernel_rfl) (by kernel_rfl) (by kernel_rfl) ?_
  refine LG.next (by kernel_rfl) ?_
  refine CG.block ?_
  refine CG.seq ?_
  refine CG.listed ?_
  refine LG.val 9 (.bool true) w6 (by kernel_rfl) (by kernel_rfl) (by kernel_rfl) ?_
  refine LG.val 8 (.bool true) w6 (by kernel_rfl) (by kernel_rfl) (by kernel_rfl) ?_
  refine LG.next (by kernel_rfl) ?_
  refine CG.condT (by kernel_rfl) (by kernel_rfl) ?_
  refine CG.seq ?_
  refine CG.listed ?_
  refine LG.own 10 [(1, 0, 5)] (qv u) hs (by kernel_rfl) (by kernel_rfl) (by kernel_rfl) (by kernel_rfl) ?_
  refine LG.val 11 (qv 0) w6 (by kernel_rfl) (by kernel_rfl) (by kernel_rfl) ?_
  refine LG.call 12 132 #[qv u, qv 0] (by kernel_rfl) (by kernel_rfl) (by kernel_rfl) ?_
  refine (cMax u 0 hu sm0 w6 h7 hs.g).mono ?_
  rintro _ w9 ⟨vu11, h10, rfl, u11, rfl⟩
  refine ⟨_, rfl, ?_⟩
  replace hs := hs.step u11
  refine LG.put 0 0 (qc (maxR u 0)) hs g (by kernel_rfl) (by kernel_rfl) (by kernel_rfl) (by kernel_rfl) (fun w12 pu hs => ?_)
  refine LG.next (by kernel_rfl) ?_
  refine CG.to [(3, .pointer (some ⟨b1, 0, none⟩)), (4, .pointer (some ⟨b5, 0, none⟩))] (by kernel_rfl) ?_
  refine CG.ret ?_
  exact retP hs [(0, 0, 5)] (qv (maxR u 0)) (by kernel_rfl) (by kernel_rfl) rfl


/-- What the kinds do (straight, ramp). -/
def act (k : Int) (u : Rat) : Rat := if k = 2 then maxR u 0 else u
theorem nAct (k : Int) (hk : k = 1 ∨ k = 2) (u : Rat) (hu : Sm u) (w : World) (h : Hp) (g : G w h) : Calls Tryz.prog 92 #[.int .i64 k, qv u] w (Ret w h fun v _ => v = qv (act k u)) := by
  rcases hk with rfl | rfl
  · exact nAct1 u w h g
  · exact nAct2 u hu w h g

set_option maxRecDepth 100000 in
set_option maxHeartbeats 600000 in
theorem nKnown1  (w : World) (h : Hp) (g : G w h) :
    Calls Tryz.prog 73 #[.int .i64 1] w (Ret w h fun v _ => v = .bool true) := by
  have hs := St.start g
  refine enter (n := 13) Tryz.func73 rfl rfl (Nat.le_of_ble_eq_true (by kernel_rfl)) [(0, .int .i64 1)] rfl ?_
  refine CG.seq ?_
  refine CG.listed ?_
  refine LG.val 2 (.bool false) w (by kernel_rfl) (by kernel_rfl) (by kernel_rfl) ?_
  refine LG.next (by kernel_rfl) ?_
  refine CG.seq ?_
  refine CG.listed ?_
  refine LG.val 3 (.int .i64 1) w (by kernel_rfl) (by kernel_rfl) (by kernel_rfl) ?_
  refine LG.val 4 (.bool true) w (by kernel_rfl) (by kernel_rfl) (by kernel_rfl) ?_
  refine LG.val 5 (.bool true) w (by kernel_rfl) (by kernel_rfl) (by kernel_rfl) ?_
  refine LG.out 6 (by kernel_rfl) (by kernel_rfl) ?_
  refine LG.out 7 (by kernel_rfl) (by kernel_rfl) ?_
  refine LG.val 8 (.bool true) w (by kernel_rfl) (by kernel_rfl) (by kernel_rfl) ?_
  refine LG.val 9 (.bool true) w (by kernel_rfl) (by kernel_rfl) (by kernel_rfl) ?_
  refine LG.out 10 (by kernel_rfl) (by kernel_rfl) ?_
  refine LG.out 11 (by kernel_rfl) (by kernel_rfl) ?_
  refine LG.val 12 (.bool true) w (by kernel_rfl) (by kernel_rfl) (by kernel_rfl) ?_
  refine LG.val 2 (.bool true) w (by kernel_rfl) (by kernel_rfl) (by kernel_rfl) ?_
  refine LG.next (by kernel_rfl) ?_
  refine CG.to [(2, .bool true)] (by kernel_rfl) ?_
  refine CG.ret ?_
  exact retP hs [] (.bool true) (by kernel_rfl) (by kernel_rfl) rfl

set_option maxRecDepth 100000 in
set_option maxHeartbeats 600000 in
theorem nKnown2  (w : World) (h : Hp) (g : G w h) :
    Calls Tryz.prog 73 #[.int .i64 2] w (Ret w h fun v _ => v = .bool true) := by
  have hs := St.start g
  refine enter (n := 13) Tryz.func73 rfl rfl (Nat.le_of_ble_eq_true (by kernel_rfl)) [(0, .int .i64 2)] rfl ?_
  refine CG.seq ?_
  refine CG.listed ?_
  refine LG.val 2 (.bool false) w (by kernel_rfl) (by kernel_rfl) (by kernel_rfl) ?_
  refine LG.next (by kernel_rfl) ?_
  refine CG.seq ?_
  refine CG.listed ?_
  refine LG.val 3 (.int .i64 2) w (by kernel_rfl) (by kernel_rfl) (by kernel_rfl) ?_
  refine LG.val 4 (.bool false) w (by kernel_rfl) (by kernel_rfl) (by kernel_rfl) ?_
  refine LG.val 5 (.bool false) w (by kernel_rfl) (by kernel_rfl) (by kernel_rfl) ?_
  refine LG.val 6 (.int .i64 2) w (by kernel_rfl) (by kernel_rfl) (by kernel_rfl) ?_
  refine LG.val 7 (.bool true) w (by kernel_rfl) (by kernel_rfl) (by kernel_rfl) ?_
  refine LG.val 8 (.bool true) w (by kernel_rfl) (by kernel_rfl) (by kernel_rfl) ?_
  refine LG.val 9 (.bool true) w (by kernel_rfl) (by kernel_rfl) (by kernel_rfl) ?_
  refine LG.out 10 (by kernel_rfl) (by kernel_rfl) ?_
  refine LG.out 11 (by kernel_rfl) (by kernel_rfl) ?_
  refine LG.val 12 (.bool true) w (by kernel_rfl) (by kernel_rfl) (by kernel_rfl) ?_
  refine LG.val 2 (.bool true) w (by kernel_rfl) (by kernel_rfl) (by kernel_rfl) ?_
  refine LG.next (by kernel_rfl) ?_
  refine CG.to [(2, .bool true)] (by kernel_rfl) ?_
  refine CG.ret ?_
  exact retP hs [] (.bool true) (by kernel_rfl) (by kernel_rfl) rfl


theorem nKnown (k : Int) (hk : k = 1 ∨ k = 2) (w : World) (h : Hp) (g : G w h) : Calls Tryz.prog 73 #[.int .i64 k] w (Ret w h fun v _ => v = .bool true) := by
  rcases hk with rfl | rfl
  · exact nKnown1 w h g
  · exact nKnown2 w h g
/-- A layer. -/
structure Lay where
  k : Int
  W : List (List Rat)
  B : List Rat
def lay0 : Lay := ⟨0, [], []⟩
abbrev LV := Int × Value × Value
def lvc (t : LV) : List Value := [.int .i64 t.1, t.2.1, t.2.2]
def lvd : LV := (0, undef, undef)
/-- The cells ts are the layers ls. -/
structure NetL (h : Hp) (ts : List LV) (ls : List Lay) : Prop where
  len : ts.length = ls.length
  at_ : ∀ i, i < ls.length → (ts.getD i lvd).1 = (ls.getD i lay0).k ∧ (∃ A c, ∃ us : List Value, (ts.getD i lvd).2.1 = .slice A us.length c ∧ us.length ≤ c ∧ SlO 1 vc undef h A us ∧ QVs h us (ls.getD i lay0).W) ∧ SlV 5 qc 0 h (ts.getD i lvd).2.2 (ls.getD i lay0).B
theorem NetL.gw {h h' : Hp} {ts : List LV} {ls : List Lay} (r : NetL h ts ls) (u : Gw h h') : NetL h' ts ls := ⟨r.len, fun i hi => by
  obtain ⟨h1, ⟨A, c, us, h2, h3, h4, h5⟩, h6⟩ := r.at_ i hi
  exact ⟨h1, ⟨A, c, us, h2, h3, h4.gw u, h5.gw u⟩, h6.gw u⟩⟩
/-- A net that is well formed, of straight layers and ramps: d i numbers go into layer i. -/
structure NetOk (ls : List Lay) (d : Nat → Nat) : Prop where
  len : 1 ≤ ls.length ∧ ls.length ≤ 4
  first : d 0 ≤ 20
  lay : ∀ i, i < ls.length → Mat (ls.getD i lay0).W (d (i + 1)) (d i) ∧ (ls.getD i lay0).B.length = d (i + 1) ∧ d (i + 1) ≤ 12 ∧ ((ls.getD i lay0).k = 1 ∨ (ls.getD i lay0).k = 2)
theorem NetOk.small {ls : List Lay} {d : Nat → Nat} (o : NetOk ls d) (i : Nat) (h : i < ls.length) : d i ≤ 20 := by
  cases i with
  | zero => exact o.first
  | succ i => have := (o.lay i (by omega)).2.2.1; omega

set_option maxRecDepth 100000 in
set_option maxHeartbeats 600000 in
theorem nCheck (A : Option Addr) (cap : Nat) (ts : List LV) (ls : List Lay) (d : Nat → Nat) (hO : NetOk ls d) (w : World) (h : Hp) (g : G w h) (hA : SlO 3 lvc lvd h A ts) (hN : NetL h ts ls) :
    Calls Tryz.prog 34 #[.agg #[.slice A ts.length cap]] w (Ret w h fun v _ => v = .int .i64 0) := by
  have hs := St.start g
  have hl := hN.len
  obtain ⟨o1, o2⟩ := hO.len
  have o3 := hO.first
  refine enter (n := 77) Tryz.func34 rfl rfl (Nat.le_of_ble_eq_true (by kernel_rfl)) [(0, .agg #[.slice A ts.length cap])] rfl ?_
  refine CG.seq ?_
  refine CG.listed ?_
  refine LG.var 1 25 ([.slice A ts.length cap]) hs (by kernel_rfl) (by kernel_rfl) (by kernel_rfl) (fun b1 w2 h3 nb_ u4 hs => ?_)
  replace hA := hA.gw u4.gr.gw
  replace hN := hN.gw u4.gr.gw
  refine LG.val 2 (.int .i64 0) w2 (by kernel_rfl) (by kernel_rfl) (by kernel_rfl) ?_
  refine LG.next (by kernel_rfl) ?_
  refine CG.seq ?_
  refine CG.seq ?_
  refine CG.listed ?_
  refine LG.val 5 (.pointer (some ⟨b1, 0, none⟩)) w2 (by kernel_rfl) (by kernel_rfl) (by kernel_rfl) ?_
  refine LG.own 6 [(0, 0, 1)] (.slice A ts.length cap) hs (by kernel_rfl) (by kernel_rfl) (by kernel_rfl) (by kernel_rfl) ?_
  refine LG.val 7 (.int .i64 (ts.length : Nat)) w2 (by kernel_rfl) (by kernel_rfl) (by kernel_rfl) ?_
  have hb5 : (decide (((ts.length : Nat) : Int) < (1 : Int))) = false := decide_eq_false (by omega)
  have phb5 := of_decide_eq_false hb5
  refine LG.val 8 (.bool false) w2 (by kernel_rfl) (by kernel_rfl) (rb (by kernel_rfl) hb5) ?_
  refine LG.val 9 (.bool false) w2 (by kernel_rfl) (by kernel_rfl) (by kernel_rfl) ?_
  refine LG.val 10 (.pointer (some ⟨b1, 0, none⟩)) w2 (by kernel_rfl) (by kernel_rfl) (by kernel_rfl) ?_
  refine LG.own 11 [(0, 0, 1)] (.slice A ts.length cap) hs (by kernel_rfl) (by kernel_rfl) (by kernel_rfl) (by kernel_rfl) ?_
  refine LG.val 12 (.int .i64 (ts.length : Nat)) w2 (by kernel_rfl) (by kernel_rfl) (by kernel_rfl) ?_
  have hb6 : (decide ((4 : Int) < ((ts.length : Nat) : Int))) = false := decide_eq_false (by omega)
  have phb6 := of_decide_eq_false hb6
  refine LG.val 13 (.bool false) w2 (by kernel_rfl) (by kernel_rfl) (rb (by kernel_rfl) hb6) ?_
  refine LG.val 14 (.bool false) w2 (by kernel_rfl) (by kernel_rfl) (by kernel_rfl) ?_
  refine LG.next (by kernel_rfl) ?_
  refine CG.to [(1, .pointer (some ⟨b1, 0, none⟩)), (2, .int .i64 0), (14, .bool false)] (by kernel_rfl) ?_
  refine CG.condF (by kernel_rfl) (by kernel_rfl) ?_
  refine CG.skipN ?_
  refine CG.seq ?_
  refine CG.seq ?_
  refine CG.listed ?_
  refine LG.val 15 (.pointer (some ⟨b1, 0, none⟩)) w2 (by kernel_rfl) (by kernel_rfl) (by kernel_rfl) ?_
  refine LG.own 16 [(0, 0, 1)] (.slice A ts.length cap) hs (by kernel_rfl) (by kernel_rfl) (by kernel_rfl) (by kernel_rfl) ?_
  refine LG.val 17 (.int .i64 (ts.length : Nat)) w2 (by kernel_rfl) (by kernel_rfl) (by kernel_rfl) ?_
  refine LG.val 18 (.int .i64 0) w2 (by kernel_rfl) (by kernel_rfl) (by kernel_rfl) ?_
  refine LG.next (by kernel_rfl) ?_
  refine CG.block ?_
  refine CG.to [(1, .pointer (some ⟨b1, 0, none⟩)), (16, .slice A ts.length cap), (17, .int .i64 (ts.length : Nat)), (18, .int .i64 0)] (by kernel_rfl) ?_
  refine CG.loop (fun μ_ Γ w_ => ∃ (k : Nat) (h_ : Hp), μ_ = ls.length - k ∧ Γ = [(1, .pointer (some ⟨b1, 0, none⟩)), (16, .slice A ts.length cap), (17, .int .i64 (ts.length : Nat)), (18, .int .i64 (k : Nat))] ∧ St w h w_ h_ [⟨b1, 25, [.slice A ts.length cap]⟩] ∧ (SlO 3 lvc lvd h_ A ts) ∧ (NetL h_ ts ls) ∧ (k ≤ ls.length)) _ ⟨0, h3, rfl, rfl, hs.to _ (by kernel_rfl), hA, hN, Nat.zero_le _⟩ ?_
  rintro _ _ w7 ⟨k, h8, hm9, rfl, hs, hA, hN, hk⟩
  have hk1 : 0 < k → (ls.getD (k - 1) lay0).W.length = d k := fun h0 => by have := (hO.lay (k - 1) (by omega)).1.rows; rw [this]; congr 1; omega
  have hsm := fun h0 => hO.small k h0
  -- round
  refine CG.seq ?_
  refine CG.listed ?_
  cases hb10 : (decide (((k : Nat) : Int) < ((ts.length : Nat) : Int)))
  ·
    have phb10 := of_decide_eq_false hb10
    refine LG.val 19 (.bool false) w7 (by kernel_rfl) (by kernel_rfl) (rb (by kernel_rfl) hb10) ?_
    refine LG.next (by kernel_rfl) ?_
    refine CG.seq ?_
    refine CG.condF (by kernel_rfl) (by kernel_rfl) ?_
    refine CG.exit ?_
    show CG _ _ _ _ _ _ _ _
    refine CG.seq ?_
    refine CG.listed ?_
    refine LG.val 2 (.int .i64 0) w7 (by kernel_rfl) (by kernel_rfl) (by kernel_rfl) ?_
    refine LG.next (by kernel_rfl) ?_
    refine CG.ret ?_
    exact retP hs [] (.int .i64 0) (by kernel_rfl) (by kernel_rfl) rfl
  ·
    have phb10 := of_decide_eq_true hb10
    refine LG.val 19 (.bool true) w7 (by kernel_rfl) (by kernel_rfl) (rb (by kernel_rfl) hb10) ?_
    refine LG.next (by kernel_rfl) ?_
    refine CG.seq ?_
    refine CG.condT (by kernel_rfl) (by kernel_rfl) ?_
    refine CG.skipN ?_
    refine CG.seq ?_
    refine CG.block ?_
    refine CG.seq ?_
    refine CG.listed ?_
    refine LG.val 20 (.int .i64 (k : Nat)) w7 (by kernel_rfl) (by kernel_rfl) (by kernel_rfl) ?_
    refine LG.val 21 (.pointer (some ⟨(aB A), aO A + k * 3, none⟩)) w7 (by kernel_rfl) (by kernel_rfl) (ixAddr (t := 23) (e := 57) (x := .tmp 16) (ix := .tmp 18) (A := A) (len := ts.length) (cap := cap) (sz := 3) (i := (k : Nat)) k (by kernel_rfl) (by kernel_rfl) (by kernel_rfl) (by kernel_rfl) (by kernel_rfl) (hA.ok (by omega)) (by omega) (by omega) _) ?_
    obtain ⟨ekx, ⟨AWx, cWx, usx, eWx, hcWx, hAWx, hUx⟩, ⟨ABx, cBx, eBx, hcBx, hABx⟩⟩ := hN.at_ k (by omega)
    obtain ⟨mtx, lbx, r12x, kdx⟩ := hO.lay k (by omega)
    have lux := hUx.len; have mrx := mtx.rows; have mpx := mtx.rpos; have mcx := mtx.cpos; have m0x := mtx.row 0 (by omega)
    refine LG.val 22 (.agg #[.int .i64 ((ls.getD k lay0).k), .slice AWx usx.length cWx, .slice ABx ((ls.getD k lay0).B.length) cBx]) w7 (by kernel_rfl) (by kernel_rfl) (rval (v := .agg #[.int .i64 ((ts.getD k lvd).1), (ts.getD k lvd).2.1, (ts.getD k lvd).2.2]) (Seg.run (hA.el k (by omega)) hs.g (Ext.refl _) (by kernel_rfl)) (by rw [ekx, eWx, eBx])) ?_
    refine LG.var 4 57 ([.int .i64 0, .slice none 0 0, .slice none 0 0]) hs (by kernel_rfl) (by kernel_rfl) (by kernel_rfl) (fun b11 w12 h13 nb_ u14 hs => ?_)
    replace hA := hA.gw u14.gr.gw
    replace hN := hN.gw u14.gr.gw
    replace hAWx := hAWx.gw u14.gr.gw
    replace hUx := hUx.gw u14.gr.gw
    replace hABx := hABx.gw u14.gr.gw
    refine LG.val 3 (.int .i64 (k : Nat)) w12 (by kernel_rfl) (by kernel_rfl) (by kernel_rfl) ?_
    refine LG.put 0 0 ([.int .i64 ((ls.getD k lay0).k), .slice AWx usx.length cWx, .slice ABx ((ls.getD k lay0).B.length) cBx]) hs g (by kernel_rfl) (by kernel_rfl) (by kernel_rfl) (by kernel_rfl) (fun w15 pu hs => ?_)
    refine LG.next (by kernel_rfl) ?_
    refine CG.seq ?_
    refine CG.seq ?_
    refine CG.listed ?_
    refine LG.val 23 (.pointer (some ⟨b11, 1, none⟩)) w15 (by kernel_rfl) (by kernel_rfl) (by kernel_rfl) ?_
    refine LG.own 24 [(0, 1, 1)] (.slice AWx usx.length cWx) hs (by kernel_rfl) (by kernel_rfl) (by kernel_rfl) (by kernel_rfl) ?_
    refine LG.call 25 79 #[.slice AWx usx.length cWx] (by kernel_rfl) (by kernel_rfl) (by kernel_rfl) ?_
    refine (mRight AWx cWx usx (ls.getD k lay0).W (d (k + 1)) (d k) mtx (by omega) (by have := hO.small k (by omega); omega) w15 h13 hs.g hAWx hUx).mono ?_
    rintro _ w16 ⟨vu18, h17, rfl, u18, rfl⟩
    refine ⟨_, rfl, ?_⟩
    replace hs := hs.step u18
    replace hA := hA.gw u18.gr.gw
    replace hN := hN.gw u18.gr.gw
    replace hAWx := hAWx.gw u18.gr.gw
    replace hUx := hUx.gw u18.gr.gw
    replace hABx := hABx.gw u18.gr.gw
    refine LG.val 26 (.bool false) w16 (by kernel_rfl) (by kernel_rfl) (by kernel_rfl) ?_
    refine LG.val 27 (.bool false) w16 (by kernel_rfl) (by kernel_rfl) (by kernel_rfl) ?_
    refine LG.val 28 (.pointer (some ⟨b11, 1, none⟩)) w16 (by kernel_rfl) (by kernel_rfl) (by kernel_rfl) ?_
    refine LG.own 29 [(0, 1, 1)] (.slice AWx usx.length cWx) hs (by kernel_rfl) (by kernel_rfl) (by kernel_rfl) (by kernel_rfl) ?_
    refine LG.val 30 (.int .i64 (usx.length : Nat)) w16 (by kernel_rfl) (by kernel_rfl) (by kernel_rfl) ?_
    have hb19 : (decide ((12 : Int) < ((usx.length : Nat) : Int))) = false := decide_eq_false (by omega)
    have phb19 := of_decide_eq_false hb19
    refine LG.val 31 (.bool false) w16 (by kernel_rfl) (by kernel_rfl) (rb (by kernel_rfl) hb19) ?_
    refine LG.val 32 (.bool false) w16 (by kernel_rfl) (by kernel_rfl) (by kernel_rfl) ?_
    refine LG.val 33 (.bool false) w16 (by kernel_rfl) (by kernel_rfl) (by kernel_rfl) ?_
    refine LG.val 34 (.pointer (some ⟨b11, 2, none⟩)) w16 (by kernel_rfl) (by kernel_rfl) (by kernel_rfl) ?_
    refine LG.own 35 [(0, 2, 1)] (.slice ABx ((ls.getD k lay0).B.length) cBx) hs (by kernel_rfl) (by kernel_rfl) (by kernel_rfl) (by kernel_rfl) ?_
    refine LG.val 36 (.int .i64 ((ls.getD k lay0).B.length : Nat)) w16 (by kernel_rfl) (by kernel_rfl) (by kernel_rfl) ?_
    refine LG.val 37 (.pointer (some ⟨b11, 1, none⟩)) w16 (by kernel_rfl) (by kernel_rfl) (by kernel_rfl) ?_
    refine LG.own 38 [(0, 1, 1)] (.slice AWx usx.length cWx) hs (by kernel_rfl) (by kernel_rfl) (by kernel_rfl) (by kernel_rfl) ?_
    refine LG.val 39 (.int .i64 (usx.length : Nat)) w16 (by kernel_rfl) (by kernel_rfl) (by kernel_rfl) ?_
    have hb20 : ((((ls.getD k lay0).B.length : Nat) : Int) != ((usx.length : Nat) : Int)) = false := bneF (by omega)
    have phb20 := eqOfBne hb20
    refine LG.val 40 (.bool false) w16 (by kernel_rfl) (by kernel_rfl) (rb (by kernel_rfl) hb20) ?_
    refine LG.val 41 (.bool false) w16 (by kernel_rfl) (by kernel_rfl) (by kernel_rfl) ?_
    refine LG.next (by kernel_rfl) ?_
    refine CG.to [(1, .pointer (some ⟨b1, 0, none⟩)), (16, .slice A ts.length cap), (17, .int .i64 (ts.length : Nat)), (18, .int .i64 (k : Nat)), (4, .pointer (some ⟨b11, 0, none⟩)), (3, .int .i64 (k : Nat)), (41, .bool false)] (by kernel_rfl) ?_
    refine CG.condF (by kernel_rfl) (by kernel_rfl) ?_
    refine CG.skipN ?_
    refine CG.seq ?_
    refine CG.seq ?_
    have hsr := hs
    refine CG.region [] 30 [] mixed (by kernel_rfl) hs.g al_nil (fun _ hb => by cases hb) ?_
    refine Rg.pure 0 42 (.int .i64 (k : Nat)) (by kernel_rfl) (by kernel_rfl) (fun _ => by kernel_rfl) ?_
    cases hb21 : (((k : Nat) : Int) == (0 : Int))
    ·
      have phb21 := neOfBeq hb21
      refine Rg.pure 1 43 (.bool false) (by kernel_rfl) (by kernel_rfl) (fun _ => rb (by kernel_rfl) hb21) ?_
      refine Rg.pure 2 44 (.bool false) (by kernel_rfl) (by kernel_rfl) (fun _ => by kernel_rfl) ?_
      refine Rg.skip 3 45 (by kernel_rfl) (by kernel_rfl) ?_
      refine Rg.skip 4 46 (by kernel_rfl) (by kernel_rfl) ?_
      refine Rg.skip 5 47 (by kernel_rfl) (by kernel_rfl) ?_
      refine Rg.skip 6 48 (by kernel_rfl) (by kernel_rfl) ?_
      refine Rg.skip 7 49 (by kernel_rfl) (by kernel_rfl) ?_
      refine Rg.skip 8 50 (by kernel_rfl) (by kernel_rfl) ?_
      refine Rg.pure 9 51 (.bool false) (by kernel_rfl) (by kernel_rfl) (fun _ => by kernel_rfl) ?_
      refine Rg.pure 10 52 (.bool false) (by kernel_rfl) (by kernel_rfl) (fun _ => by kernel_rfl) ?_
      refine Rg.pure 11 53 (.int .i64 (k : Nat)) (by kernel_rfl) (by kernel_rfl) (fun _ => by kernel_rfl) ?_
      have hb22 : (decide ((0 : Int) < ((k : Nat) : Int))) = true := decide_eq_true (by omega)
      have phb22 := of_decide_eq_true hb22
      refine Rg.pure 12 54 (.bool true) (by kernel_rfl) (by kernel_rfl) (fun _ => rb (by kernel_rfl) hb22) ?_
      refine Rg.pure 13 55 (.bool true) (by kernel_rfl) (by kernel_rfl) (fun _ => by kernel_rfl) ?_
      refine Rg.pure 14 56 (.pointer (some ⟨b11, 1, none⟩)) (by kernel_rfl) (by kernel_rfl) (fun _ => by kernel_rfl) ?_
      refine Rg.own 15 57 [(0, 1, 1)] (.slice AWx usx.length cWx) hs (by kernel_rfl) (by kernel_rfl) (fun _ _ => List.not_mem_nil) (by kernel_rfl) (by kernel_rfl) ?_
      refine Rg.pure 16 58 (.pointer (some ⟨(aB AWx), aO AWx + 0 * 1, none⟩)) (by kernel_rfl) (by kernel_rfl) (fun _ => ixAddr (t := 55) (e := 32) (x := .tmp 57) (ix := .const (.int .i64 0)) (A := AWx) (len := usx.length) (cap := cWx) (sz := 1) (i := 0) 0 (by kernel_rfl) (by kernel_rfl) (by kernel_rfl) (by kernel_rfl) (by kernel_rfl) (hAWx.ok (by omega)) (by omega) (by omega) _) ?_
      obtain ⟨Arq, crq, erq, hcrq, hRrq⟩ := hUx.at_ 0 (by omega)
      refine Rg.load 17 59 (.slice Arq ((((ls.getD k lay0).W).getD 0 []).length) crq) (by kernel_rfl) (by kernel_rfl) (fun _ hx => rval (Seg.run (hAWx.el 0 (by omega)) hs.g hx.ext (by kernel_rfl)) erq) ?_
      refine Rg.pure 18 60 (.int .i64 ((((ls.getD k lay0).W).getD 0 []).length : Nat)) (by kernel_rfl) (by kernel_rfl) (fun _ => by kernel_rfl) ?_
      refine Rg.pure 19 61 (.pointer (some ⟨b1, 0, none⟩)) (by kernel_rfl) (by kernel_rfl) (fun _ => by kernel_rfl) ?_
      refine Rg.own 20 62 [(1, 0, 1)] (.slice A ts.length cap) hs (by kernel_rfl) (by kernel_rfl) (fun _ _ => List.not_mem_nil) (by kernel_rfl) (by kernel_rfl) ?_
      refine Rg.pure 21 63 (.int .i64 (k : Nat)) (by kernel_rfl) (by kernel_rfl) (fun _ => by kernel_rfl) ?_
      refine Rg.pure 22 64 (.int .i64 (k - 1 : Nat)) (by kernel_rfl) (by kernel_rfl) (fun _ => rint (ri64 (n := (k : Nat) - 1) (by kernel_rfl) (by omega) (by omega)) (by omega)) ?_
      refine Rg.pure 23 65 (.pointer (some ⟨(aB A), aO A + (k - 1) * 3, none⟩)) (by kernel_rfl) (by kernel_rfl) (fun _ => ixAddr (t := 23) (e := 57) (x := .tmp 62) (ix := .tmp 64) (A := A) (len := ts.length) (cap := cap) (sz := 3) (i := (k - 1 : Nat)) (k - 1) (by kernel_rfl) (by kernel_rfl) (by kernel_rfl) (by kernel_rfl) (by kernel_rfl) (hA.ok (by omega)) (by omega) (by omega) _) ?_
      refine Rg.pure 24 66 (.pointer (some ⟨(aB A), aO A + (k - 1) * 3 + 1, none⟩)) (by kernel_rfl) (by kernel_rfl) (fun _ => by kernel_rfl) ?_
      obtain ⟨eky, ⟨AWy, cWy, usy, eWy, hcWy, hAWy, hUy⟩, ⟨ABy, cBy, eBy, hcBy, hABy⟩⟩ := hN.at_ (k - 1) (by omega)
      obtain ⟨mty, lby, r12y, kdy⟩ := hO.lay (k - 1) (by omega)
      have luy := hUy.len; have mry := mty.rows; have mpy := mty.rpos; have mcy := mty.cpos; have m0y := mty.row 0 (by omega)
      refine Rg.load 25 67 (.slice AWy usy.length cWy) (by kernel_rfl) (by kernel_rfl) (fun _ hx => rval (Seg.run ((hA.el (k - 1) (by omega)).part 1 1) hs.g hx.ext (by kernel_rfl)) eWy) ?_
      refine Rg.pure 26 68 (.int .i64 (usy.length : Nat)) (by kernel_rfl) (by kernel_rfl) (fun _ => by kernel_rfl) ?_
      have hb23 : ((((((ls.getD k lay0).W).getD 0 []).length : Nat) : Int) != ((usy.length : Nat) : Int)) = false := bneF (by have := hk1 (by omega); omega)
      have phb23 := eqOfBne hb23
      refine Rg.pure 27 69 (.bool false) (by kernel_rfl) (by kernel_rfl) (fun _ => rb (by kernel_rfl) hb23) ?_
      refine Rg.pure 28 70 (.bool false) (by kernel_rfl) (by kernel_rfl) (fun _ => by kernel_rfl) ?_
      refine Rg.pure 29 71 (.bool false) (by kernel_rfl) (by kernel_rfl) (fun _ => by kernel_rfl) ?_
      refine Rg.fin0 (by kernel_rfl) (fun w24 h25 u26 => ?_)
      replace hs := hs.step u26
      replace hA := hA.gw u26.gr.gw
      replace hN := hN.gw u26.gr.gw
      replace hAWx := hAWx.gw u26.gr.gw
      replace hUx := hUx.gw u26.gr.gw
      replace hABx := hABx.gw u26.gr.gw
      replace hRrq := hRrq.gw u26.gr.gw
      replace hAWy := hAWy.gw u26.gr.gw
      replace hUy := hUy.gw u26.gr.gw
      replace hABy := hABy.gw u26.gr.gw
      refine T.next (by kernel_rfl) ?_
      refine CG.to [(1, .pointer (some ⟨b1, 0, none⟩)), (16, .slice A ts.length cap), (17, .int .i64 (ts.length : Nat)), (18, .int .i64 (k : Nat)), (4, .pointer (some ⟨b11, 0, none⟩)), (71, .bool false)] (by kernel_rfl) ?_
      refine CG.condF (by kernel_rfl) (by kernel_rfl) ?_
      refine CG.skipN ?_
      refine CG.seq ?_
      refine CG.listed ?_
      refine LG.val 72 (.pointer (some ⟨b11, 0, none⟩)) w24 (by kernel_rfl) (by kernel_rfl) (by kernel_rfl) ?_
      refine LG.own 73 [(0, 0, 1)] (.int .i64 ((ls.getD k lay0).k)) hs (by kernel_rfl) (by kernel_rfl) (by kernel_rfl) (by kernel_rfl) ?_
      refine LG.call 74 73 #[.int .i64 ((ls.getD k lay0).k)] (by kernel_rfl) (by kernel_rfl) (by kernel_rfl) ?_
      refine (nKnown _ kdx w24 h25 hs.g).mono ?_
      rintro _ w27 ⟨vu29, h28, rfl, u29, rfl⟩
      refine ⟨_, rfl, ?_⟩
      replace hs := hs.step u29
      replace hA := hA.gw u29.gr.gw
      replace hN := hN.gw u29.gr.gw
      replace hAWx := hAWx.gw u29.gr.gw
      replace hUx := hUx.gw u29.gr.gw
      replace hABx := hABx.gw u29.gr.gw
      replace hRrq := hRrq.gw u29.gr.gw
      replace hAWy := hAWy.gw u29.gr.gw
      replace hUy := hUy.gw u29.gr.gw
      replace hABy := hABy.gw u29.gr.gw
      refine LG.val 75 (.bool false) w27 (by kernel_rfl) (by kernel_rfl) (by kernel_rfl) ?_
      refine LG.next (by kernel_rfl) ?_
      refine CG.condF (by kernel_rfl) (by kernel_rfl) ?_
      refine CG.skipN ?_
      refine CG.listed ?_
      refine LG.val 76 (.int .i64 (k + 1 : Nat)) w27 (by kernel_rfl) (by kernel_rfl) (rint (ri64 (n := (k : Nat) + 1) (by kernel_rfl) (by omega) (by omega)) (by omega)) ?_
      refine LG.val 18 (.int .i64 (k + 1 : Nat)) w27 (by kernel_rfl) (by kernel_rfl) (by kernel_rfl) ?_
      refine LG.done (by kernel_rfl) ?_
      intro a_ ka
      replace hs := hs.drop 1
      refine ⟨_, _, ?_, ⟨k + 1, h28, rfl, rfl, hs.to _ (by kernel_rfl), hA, hN, by omega⟩, ka.to [(1, .pointer (some ⟨b1, 0, none⟩)), (16, .slice A ts.length cap), (17, .int .i64 (ts.length : Nat)), (18, .int .i64 ((k + 1) : Nat))] (by kernel_rfl)⟩
      omega
    ·
      have phb21 := eq_of_beq hb21
      refine Rg.pure 1 43 (.bool true) (by kernel_rfl) (by kernel_rfl) (fun _ => rb (by kernel_rfl) hb21) ?_
      refine Rg.pure 2 44 (.bool true) (by kernel_rfl) (by kernel_rfl) (fun _ => by kernel_rfl) ?_
      refine Rg.pure 3 45 (.pointer (some ⟨b11, 1, none⟩)) (by kernel_rfl) (by kernel_rfl) (fun _ => by kernel_rfl) ?_
      refine Rg.own 4 46 [(0, 1, 1)] (.slice AWx usx.length cWx) hs (by kernel_rfl) (by kernel_rfl) (fun _ _ => List.not_mem_nil) (by kernel_rfl) (by kernel_rfl) ?_
      refine Rg.pure 5 47 (.pointer (some ⟨(aB AWx), aO AWx + 0 * 1, none⟩)) (by kernel_rfl) (by kernel_rfl) (fun _ => ixAddr (t := 55) (e := 32) (x := .tmp 46) (ix := .const (.int .i64 0)) (A := AWx) (len := usx.length) (cap := cWx) (sz := 1) (i := 0) 0 (by kernel_rfl) (by kernel_rfl) (by kernel_rfl) (by kernel_rfl) (by kernel_rfl) (hAWx.ok (by omega)) (by omega) (by omega) _) ?_
      obtain ⟨Arp, crp, erp, hcrp, hRrp⟩ := hUx.at_ 0 (by omega)
      refine Rg.load 6 48 (.slice Arp ((((ls.getD k lay0).W).getD 0 []).length) crp) (by kernel_rfl) (by kernel_rfl) (fun _ hx => rval (Seg.run (hAWx.el 0 (by omega)) hs.g hx.ext (by kernel_rfl)) erp) ?_
      refine Rg.pure 7 49 (.int .i64 ((((ls.getD k lay0).W).getD 0 []).length : Nat)) (by kernel_rfl) (by kernel_rfl) (fun _ => by kernel_rfl) ?_
      have hb30 : (decide ((20 : Int) < (((((ls.getD k lay0).W).getD 0 []).length : Nat) : Int))) = false := decide_eq_false (by omega)
      have phb30 := of_decide_eq_false hb30
      refine Rg.pure 8 50 (.bool false) (by kernel_rfl) (by kernel_rfl) (fun _ => rb (by kernel_rfl) hb30) ?_
      refine Rg.pure 9 51 (.bool false) (by kernel_rfl) (by kernel_rfl) (fun _ => by kernel_rfl) ?_
      refine Rg.pure 10 52 (.bool false) (by kernel_rfl) (by kernel_rfl) (fun _ => by kernel_rfl) ?_
      refine Rg.pure 11 53 (.int .i64 (k : Nat)) (by kernel_rfl) (by kernel_rfl) (fun _ => by kernel_rfl) ?_
      have hb31 : (decide ((0 : Int) < ((k : Nat) : Int))) = false := decide_eq_false (by omega)
      have phb31 := of_decide_eq_false hb31
      refine Rg.pure 12 54 (.bool false) (by kernel_rfl) (by kernel_rfl) (fun _ => rb (by kernel_rfl) hb31) ?_
      refine Rg.pure 13 55 (.bool false) (by kernel_rfl) (by kernel_rfl) (fun _ => by kernel_rfl) ?_
      refine Rg.skip 14 56 (by kernel_rfl) (by kernel_rfl) ?_
      refine Rg.skip 15 57 (by kernel_rfl) (by kernel_rfl) ?_
      refine Rg.skip 16 58 (by kernel_rfl) (by kernel_rfl) ?_
      refine Rg.skip 17 59 (by kernel_rfl) (by kernel_rfl) ?_
      refine Rg.skip 18 60 (by kernel_rfl) (by kernel_rfl) ?_
      refine Rg.skip 19 61 (by kernel_rfl) (by kernel_rfl) ?_
      refine Rg.skip 20 62 (by kernel_rfl) (by kernel_rfl) ?_
      refine Rg.skip 21 63 (by kernel_rfl) (by kernel_rfl) ?_
      refine Rg.skip 22 64 (by kernel_rfl) (by kernel_rfl) ?_
      refine Rg.skip 23 65 (by kernel_rfl) (by kernel_rfl) ?_
      refine Rg.skip 24 66 (by kernel_rfl) (by kernel_rfl) ?_
      refine Rg.skip 25 67 (by kernel_rfl) (by kernel_rfl) ?_
      refine Rg.skip 26 68 (by kernel_rfl) (by kernel_rfl) ?_
      refine Rg.skip 27 69 (by kernel_rfl) (by kernel_rfl) ?_
      refine Rg.pure 28 70 (.bool false) (by kernel_rfl) (by kernel_rfl) (fun _ => by kernel_rfl) ?_
      refine Rg.pure 29 71 (.bool false) (by kernel_rfl) (by kernel_rfl) (fun _ => by kernel_rfl) ?_
      refine Rg.fin0 (by kernel_rfl) (fun w32 h33 u34 => ?_)
      replace hs := hs.step u34
      replace hA := hA.gw u34.gr.gw
      replace hN := hN.gw u34.gr.gw
      replace hAWx := hAWx.gw u34.gr.gw
      replace hUx := hUx.gw u34.gr.gw
      replace hABx := hABx.gw u34.gr.gw
      replace hRrp := hRrp.gw u34.gr.gw
      refine T.next (by kernel_rfl) ?_
      refine CG.to [(1, .pointer (some ⟨b1, 0, none⟩)), (16, .slice A ts.length cap), (17, .int .i64 (ts.length : Nat)), (18, .int .i64 (k : Nat)), (4, .pointer (some ⟨b11, 0, none⟩)), (71, .bool false)] (by kernel_rfl) ?_
      refine CG.condF (by kernel_rfl) (by kernel_rfl) ?_
      refine CG.skipN ?_
      refine CG.seq ?_
      refine CG.listed ?_
      refine LG.val 72 (.pointer (some ⟨b11, 0, none⟩)) w32 (by kernel_rfl) (by kernel_rfl) (by kernel_rfl) ?_
      refine LG.own 73 [(0, 0, 1)] (.int .i64 ((ls.getD k lay0).k)) hs (by kernel_rfl) (by kernel_rfl) (by kernel_rfl) (by kernel_rfl) ?_
      refine LG.call 74 73 #[.int .i64 ((ls.getD k lay0).k)] (by kernel_rfl) (by kernel_rfl) (by kernel_rfl) ?_
      refine (nKnown _ kdx w32 h33 hs.g).mono ?_
      rintro _ w35 ⟨vu37, h36, rfl, u37, rfl⟩
      refine ⟨_, rfl, ?_⟩
      replace hs := hs.step u37
      replace hA := hA.gw u37.gr.gw
      replace hN := hN.gw u37.gr.gw
      replace hAWx := hAWx.gw u37.gr.gw
      replace hUx := hUx.gw u37.gr.gw
      replace hABx := hABx.gw u37.gr.gw
      replace hRrp := hRrp.gw u37.gr.gw
      refine LG.val 75 (.bool false) w35 (by kernel_rfl) (by kernel_rfl) (by kernel_rfl) ?_
      refine LG.next (by kernel_rfl) ?_
      refine CG.condF (by kernel_rfl) (by kernel_rfl) ?_
      refine CG.skipN ?_
      refine CG.listed ?_
      refine LG.val 76 (.int .i64 (k + 1 : Nat)) w35 (by kernel_rfl) (by kernel_rfl) (rint (ri64 (n := (k : Nat) + 1) (by kernel_rfl) (by omega) (by omega)) (by omega)) ?_
      refine LG.val 18 (.int .i64 (k + 1 : Nat)) w35 (by kernel_rfl) (by kernel_rfl) (by kernel_rfl) ?_
      refine LG.done (by kernel_rfl) ?_
      intro a_ ka
      replace hs := hs.drop 1
      refine ⟨_, _, ?_, ⟨k + 1, h36, rfl, rfl, hs.to _ (by kernel_rfl), hA, hN, by omega⟩, ka.to [(1, .pointer (some ⟨b1, 0, none⟩)), (16, .slice A ts.length cap), (17, .int .i64 (ts.length : Nat)), (18, .int .i64 ((k + 1) : Nat))] (by kernel_rfl)⟩
      omega

end Go.Proofs.YtbhpcpkcjgkcpaaGreatDoor
