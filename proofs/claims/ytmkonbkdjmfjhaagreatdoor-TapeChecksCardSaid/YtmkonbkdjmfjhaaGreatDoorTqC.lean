/- Contracts of tape.Same of a tape and itself. -/
import Derived.Test.YtmkonbkdjmfjhaaGreatDoorTpA
namespace Go.Proofs.YtmkonbkdjmfjhaaGreatDoor
open Go.RowKit


theorem cmpR_self (q : Rat) : cmpR q q = 0 := by unfold cmpR cmpI; simp

set_option maxRecDepth 100000 in
set_option maxHeartbeats 600000 in
theorem tAlike (s : Stp) (hq : Sm s.q) (w : World) (h : Hp) (g : G w h) :
    Calls Tryz.prog 27 #[.agg #[.int .i64 s.op, .int .i64 s.a, .int .i64 s.b, .int .i64 s.n, .bool (ineg s.q.num), .int .u64 (lo (iabs s.q.num)), .string (hi (iabs s.q.num)), .int .u64 (lo (qd s.q)), .string (hi (qd s.q))], .agg #[.int .i64 s.op, .int .i64 s.a, .int .i64 s.b, .int .i64 s.n, .bool (ineg s.q.num), .int .u64 (lo (iabs s.q.num)), .string (hi (iabs s.q.num)), .int .u64 (lo (qd s.q)), .string (hi (qd s.q))]] w (Ret w h fun v _ => v = .bool true) := by
  have hs := SS.start g
  refine go Tryz.func27 [(0, .agg #[.int .i64 s.op, .int .i64 s.a, .int .i64 s.b, .int .i64 s.n, .bool (ineg s.q.num), .int .u64 (lo (iabs s.q.num)), .string (hi (iabs s.q.num)), .int .u64 (lo (qd s.q)), .string (hi (qd s.q))]), (1, .agg #[.int .i64 s.op, .int .i64 s.a, .int .i64 s.b, .int .i64 s.n, .bool (ineg s.q.num), .int .u64 (lo (iabs s.q.num)), .string (hi (iabs s.q.num)), .int .u64 (lo (qd s.q)), .string (hi (qd s.q))])] rfl ?_
  refine cSL ?_
  refine lA 2 62 ([.int .i64 s.op, .int .i64 s.a, .int .i64 s.b, .int .i64 s.n, .bool (ineg s.q.num), .int .u64 (lo (iabs s.q.num)), .string (hi (iabs s.q.num)), .int .u64 (lo (qd s.q)), .string (hi (qd s.q))]) hs (fun b1 w2 h3 hs => ?_)
  refine lA 3 62 ([.int .i64 s.op, .int .i64 s.a, .int .i64 s.b, .int .i64 s.n, .bool (ineg s.q.num), .int .u64 (lo (iabs s.q.num)), .string (hi (iabs s.q.num)), .int .u64 (lo (qd s.q)), .string (hi (qd s.q))]) hs (fun b4 w5 h6 hs => ?_)
  refine lS hs [(4, .bool false, [])] ?_
  refine lN ?_
  refine cSL ?_
  refine lS hs [(5, .pointer (some ⟨b1, 0, none⟩), []), (6, .int .i64 s.op, [(1, 0, 1)]), (7, .pointer (some ⟨b4, 0, none⟩), []), (8, .int .i64 s.op, [(0, 0, 1)])] ?_
  have hb7 : ((s.op : Int) == (s.op : Int)) = true := beqT (by omega)
  have phb7 := eq_of_beq hb7
  refine lB 9 hb7 ?_
  refine lS hs [(10, .bool true, []), (11, .pointer (some ⟨b1, 1, none⟩), []), (12, .int .i64 s.a, [(1, 1, 1)]), (13, .pointer (some ⟨b4, 1, none⟩), []), (14, .int .i64 s.a, [(0, 1, 1)])] ?_
  have hb8 : ((s.a : Int) == (s.a : Int)) = true := beqT (by omega)
  have phb8 := eq_of_beq hb8
  refine lB 15 hb8 ?_
  refine lS hs [(16, .bool true, []), (17, .bool true, []), (18, .pointer (some ⟨b1, 2, none⟩), []), (19, .int .i64 s.b, [(1, 2, 1)]), (20, .pointer (some ⟨b4, 2, none⟩), []), (21, .int .i64 s.b, [(0, 2, 1)])] ?_
  have hb9 : ((s.b : Int) == (s.b : Int)) = true := beqT (by omega)
  have phb9 := eq_of_beq hb9
  refine lB 22 hb9 ?_
  refine lS hs [(23, .bool true, []), (24, .bool true, []), (25, .pointer (some ⟨b1, 3, none⟩), []), (26, .int .i64 s.n, [(1, 3, 1)]), (27, .pointer (some ⟨b4, 3, none⟩), []), (28, .int .i64 s.n, [(0, 3, 1)])] ?_
  have hb10 : ((s.n : Int) == (s.n : Int)) = true := beqT (by omega)
  have phb10 := eq_of_beq hb10
  refine lB 29 hb10 ?_
  refine lS hs [(30, .bool true, []), (31, .bool true, []), (32, .pointer (some ⟨b1, 4, none⟩), []), (33, .agg #[.bool (ineg s.q.num), .int .u64 (lo (iabs s.q.num)), .string (hi (iabs s.q.num)), .int .u64 (lo (qd s.q)), .string (hi (qd s.q))], [(1, 4, 5)]), (34, .pointer (some ⟨b4, 4, none⟩), []), (35, .agg #[.bool (ineg s.q.num), .int .u64 (lo (iabs s.q.num)), .string (hi (iabs s.q.num)), .int .u64 (lo (qd s.q)), .string (hi (qd s.q))], [(0, 4, 5)])] ?_
  refine lC 36 hs (cCmp s.q s.q hq hq _ _ hs.g) ?_
  rintro _ w11 h12 hs rfl
  have hcc : cmpR s.q s.q = 0 := cmpR_self s.q
  have hb13 : ((cmpR s.q s.q : Int) == (0 : Int)) = true := beqT (by omega)
  have phb13 := eq_of_beq hb13
  refine lB 37 hb13 ?_
  refine lS hs [(38, .bool true, []), (4, .bool true, [])] ?_
  refine lN ?_
  refine cTo [(4, .bool true)] ?_
  refine CG.ret ?_
  exact hs.ret [] (.bool true) rfl

set_option maxRecDepth 100000 in
set_option maxHeartbeats 600000 in
theorem sEqualI (A : Option Addr) (c : Nat) (os : List Int) (hl : os.length ≤ 1000000) (w : World) (h : Hp) (g : G w h) (hO : SlO 1 i64c 0 h A os) :
    Calls Tryz.prog 25 #[.slice A os.length c, .slice A os.length c] w (Ret w h fun v _ => v = .bool true) := by
  have hs := SS.start g
  replace hs := (hs.a_SlO hO)
  refine go Tryz.func25 [(0, .slice A os.length c), (1, .slice A os.length c)] rfl ?_
  refine cSL ?_
  refine lS hs [(4, .bool false, [])] ?_
  refine lN ?_
  refine CG.seq ?_
  refine cSL ?_
  refine lS hs [(6, .slice A os.length c, []), (7, .int .i64 (os.length : Nat), []), (8, .slice A os.length c, []), (9, .int .i64 (os.length : Nat), [])] ?_
  have hb1 : (((os.length : Nat) : Int) != ((os.length : Nat) : Int)) = false := bneF (by omega)
  have phb1 := eqOfBne hb1
  refine lB 10 hb1 ?_
  refine lN ?_
  refine cIF ?_
  refine CG.skipN ?_
  refine CG.seq ?_
  refine cSL ?_
  refine lS hs [(11, .slice A os.length c, []), (12, .int .i64 (os.length : Nat), []), (13, .int .i64 0, [])] ?_
  refine lN ?_
  refine CG.block ?_
  refine cTo [(0, .slice A os.length c), (1, .slice A os.length c), (12, .int .i64 (os.length : Nat)), (13, .int .i64 0)] ?_
  refine CG.loop (fun μ_ Γ w_ => ∃ (k : Nat) (h_ : Hp), μ_ = os.length - k ∧ Γ = [(0, .slice A os.length c), (1, .slice A os.length c), (12, .int .i64 (os.length : Nat)), (13, .int .i64 (k : Nat))] ∧ SS w h w_ h_ [] [] [fun h_ => SlO 1 i64c 0 h_ A os] ∧ (k ≤ os.length)) _ ⟨0, h, rfl, rfl, hs.to _ _, Nat.zero_le _⟩ ?_
  rintro _ _ w2 ⟨k, h3, hm4, rfl, hs, hk⟩
  refine cSL ?_
  cases hb5 : (decide (((k : Nat) : Int) < ((os.length : Nat) : Int)))
  ·
    have phb5 := of_decide_eq_false hb5
    refine lB 14 hb5 ?_
    refine lN ?_
    refine CG.seq ?_
    refine cIF ?_
    refine CG.exit ?_
    show CG _ _ _ _ _ _ _ _
    refine cSL ?_
    refine lS hs [(4, .bool true, [])] ?_
    refine lN ?_
    refine CG.ret ?_
    exact hs.ret [] (.bool true) rfl
  ·
    have phb5 := of_decide_eq_true hb5
    refine lB 14 hb5 ?_
    refine lN ?_
    refine CG.seq ?_
    refine cIT ?_
    refine CG.skipN ?_
    refine CG.seq ?_
    refine CG.block ?_
    refine cSL ?_
    refine lS hs [(15, .int .i64 (k : Nat), []), (5, .int .i64 (k : Nat), [])] ?_
    refine lN ?_
    refine CG.seq ?_
    refine cR 9 [] mixed hs al_nil ?_
    refine eV 0 16 (.slice A os.length c) ?_
    refine eV 1 17 (.int .i64 (k : Nat)) ?_
    refine eX 2 18 A os.length c 1 (k : Nat) k ((hs.f.1).ok (by omega)) ?_
    refine eH 3 19 (.int .i64 (os.getD k 0)) hs ((hs.f.1).el k (by omega)) ?_
    refine eV 4 20 (.slice A os.length c) ?_
    refine eV 5 21 (.int .i64 (k : Nat)) ?_
    refine eX 6 22 A os.length c 1 (k : Nat) k ((hs.f.1).ok (by omega)) ?_
    refine eH 7 23 (.int .i64 (os.getD k 0)) hs ((hs.f.1).el k (by omega)) ?_
    have hb6 : ((os.getD k 0 : Int) != (os.getD k 0 : Int)) = false := bneF (by omega)
    have phb6 := eqOfBne hb6
    refine eB 8 24 hb6 ?_
    refine eD0 hs (fun w7 h8 hs => ?_)
    refine tN ?_
    refine cIF ?_
    refine CG.skipN ?_
    refine CG.listed ?_
    refine lIn 25 ((k : Nat) + 1) (k + 1) ?_
    refine lS hs [(13, .int .i64 (k + 1 : Nat), [])] ?_
    refine lD ?_
    intro a_ ka
    have q9 : (k + 1) ≤ os.length := by omega
    refine ⟨_, _, ?_, ⟨k + 1, h8, rfl, rfl, hs.to _ _, q9⟩, ka.to [(0, .slice A os.length c), (1, .slice A os.length c), (12, .int .i64 (os.length : Nat)), (13, .int .i64 ((k + 1) : Nat))] (by kernel_rfl)⟩
    omega

set_option maxRecDepth 100000 in
set_option maxHeartbeats 600000 in
theorem sEqualS (A : Option Addr) (c : Nat) (l : List Stp) (hl : l.length ≤ 1000000) (hq : ∀ i, i < l.length → Sm (l.getD i stp0).q) (w : World) (h : Hp) (g : G w h) (hA : SlO 9 stc stp0 h A l) :
    Calls Tryz.prog 26 #[.slice A l.length c, .slice A l.length c, .func (.func 27) #[] #[]] w (Ret w h fun v _ => v = .bool true) := by
  have hs := SS.start g
  replace hs := (hs.a_SlO hA)
  refine go Tryz.func26 [(0, .slice A l.length c), (1, .slice A l.length c), (2, .func (.func 27) #[] #[])] rfl ?_
  refine cSL ?_
  refine lS hs [(6, .bool false, [])] ?_
  refine lN ?_
  refine CG.seq ?_
  refine cSL ?_
  refine lS hs [(10, .slice A l.length c, []), (11, .int .i64 (l.length : Nat), []), (12, .slice A l.length c, []), (13, .int .i64 (l.length : Nat), [])] ?_
  have hb1 : (((l.length : Nat) : Int) != ((l.length : Nat) : Int)) = false := bneF (by omega)
  have phb1 := eqOfBne hb1
  refine lB 14 hb1 ?_
  refine lN ?_
  refine cIF ?_
  refine CG.skipN ?_
  refine CG.seq ?_
  refine cSL ?_
  refine lS hs [(15, .slice A l.length c, []), (16, .int .i64 (l.length : Nat), []), (17, .int .i64 0, [])] ?_
  refine lN ?_
  refine CG.block ?_
  refine cTo [(1, .slice A l.length c), (2, .func (.func 27) #[] #[]), (15, .slice A l.length c), (16, .int .i64 (l.length : Nat)), (17, .int .i64 0)] ?_
  refine CG.loop (fun μ_ Γ w_ => ∃ (k : Nat) (h_ : Hp), μ_ = l.length - k ∧ Γ = [(1, .slice A l.length c), (2, .func (.func 27) #[] #[]), (15, .slice A l.length c), (16, .int .i64 (l.length : Nat)), (17, .int .i64 (k : Nat))] ∧ SS w h w_ h_ [] [] [fun h_ => SlO 9 stc stp0 h_ A l] ∧ (k ≤ l.length)) _ ⟨0, h, rfl, rfl, hs.to _ _, Nat.zero_le _⟩ ?_
  rintro _ _ w2 ⟨k, h3, hm4, rfl, hs, hk⟩
  refine cSL ?_
  cases hb5 : (decide (((k : Nat) : Int) < ((l.length : Nat) : Int)))
  ·
    have phb5 := of_decide_eq_false hb5
    refine lB 18 hb5 ?_
    refine lN ?_
    refine CG.seq ?_
    refine cIF ?_
    refine CG.exit ?_
    show CG _ _ _ _ _ _ _ _
    refine cSL ?_
    refine lS hs [(6, .bool true, [])] ?_
    refine lN ?_
    refine CG.ret ?_
    exact hs.ret [] (.bool true) rfl
  ·
    have phb5 := of_decide_eq_true hb5
    refine lB 18 hb5 ?_
    refine lN ?_
    refine CG.seq ?_
    refine cIT ?_
    refine CG.skipN ?_
    refine CG.seq ?_
    refine CG.block ?_
    refine cSL ?_
    refine lS hs [(19, .int .i64 (k : Nat), [])] ?_
    refine lX 20 A l.length c 9 (k : Nat) k ((hs.f.1).ok (by omega)) ?_
    refine lH 21 (.agg #[.int .i64 ((l.getD k stp0).op), .int .i64 ((l.getD k stp0).a), .int .i64 ((l.getD k stp0).b), .int .i64 ((l.getD k stp0).n), .bool (ineg ((l.getD k stp0).q).num), .int .u64 (lo (iabs ((l.getD k stp0).q).num)), .string (hi (iabs ((l.getD k stp0).q).num)), .int .u64 (lo (qd ((l.getD k stp0).q))), .string (hi (qd ((l.getD k stp0).q)))]) hs ((hs.f.1).el k (by omega)) ?_
    refine lA 8 62 ([.int .i64 0, .int .i64 0, .int .i64 0, .int .i64 0, .bool false, .int .u64 0, .string (⟨#[]⟩), .int .u64 0, .string (⟨#[]⟩)]) hs (fun b6 w7 h8 hs => ?_)
    refine lS hs [(7, .int .i64 (k : Nat), [])] ?_
    refine lP 0 0 ([.int .i64 ((l.getD k stp0).op), .int .i64 ((l.getD k stp0).a), .int .i64 ((l.getD k stp0).b), .int .i64 ((l.getD k stp0).n), .bool (ineg ((l.getD k stp0).q).num), .int .u64 (lo (iabs ((l.getD k stp0).q).num)), .string (hi (iabs ((l.getD k stp0).q).num)), .int .u64 (lo (qd ((l.getD k stp0).q))), .string (hi (qd ((l.getD k stp0).q)))]) hs (fun w9 hs => ?_)
    refine lN ?_
    refine cSL ?_
    refine lS hs [(22, .slice A l.length c, []), (23, .int .i64 (k : Nat), [])] ?_
    refine lX 24 A l.length c 9 (k : Nat) k ((hs.f.1).ok (by omega)) ?_
    refine lH 25 (.agg #[.int .i64 ((l.getD k stp0).op), .int .i64 ((l.getD k stp0).a), .int .i64 ((l.getD k stp0).b), .int .i64 ((l.getD k stp0).n), .bool (ineg ((l.getD k stp0).q).num), .int .u64 (lo (iabs ((l.getD k stp0).q).num)), .string (hi (iabs ((l.getD k stp0).q).num)), .int .u64 (lo (qd ((l.getD k stp0).q))), .string (hi (qd ((l.getD k stp0).q)))]) hs ((hs.f.1).el k (by omega)) ?_
    refine lA 9 62 ([.int .i64 0, .int .i64 0, .int .i64 0, .int .i64 0, .bool false, .int .u64 0, .string (⟨#[]⟩), .int .u64 0, .string (⟨#[]⟩)]) hs (fun b10 w11 h12 hs => ?_)
    refine lP 0 0 ([.int .i64 ((l.getD k stp0).op), .int .i64 ((l.getD k stp0).a), .int .i64 ((l.getD k stp0).b), .int .i64 ((l.getD k stp0).n), .bool (ineg ((l.getD k stp0).q).num), .int .u64 (lo (iabs ((l.getD k stp0).q).num)), .string (hi (iabs ((l.getD k stp0).q).num)), .int .u64 (lo (qd ((l.getD k stp0).q))), .string (hi (qd ((l.getD k stp0).q)))]) hs (fun w13 hs => ?_)
    refine lN ?_
    refine cSL ?_
    refine lS hs [(26, .func (.func 27) #[] #[], []), (27, .agg #[.int .i64 ((l.getD k stp0).op), .int .i64 ((l.getD k stp0).a), .int .i64 ((l.getD k stp0).b), .int .i64 ((l.getD k stp0).n), .bool (ineg ((l.getD k stp0).q).num), .int .u64 (lo (iabs ((l.getD k stp0).q).num)), .string (hi (iabs ((l.getD k stp0).q).num)), .int .u64 (lo (qd ((l.getD k stp0).q))), .string (hi (qd ((l.getD k stp0).q)))], [(1, 0, 9)]), (28, .agg #[.int .i64 ((l.getD k stp0).op), .int .i64 ((l.getD k stp0).a), .int .i64 ((l.getD k stp0).b), .int .i64 ((l.getD k stp0).n), .bool (ineg ((l.getD k stp0).q).num), .int .u64 (lo (iabs ((l.getD k stp0).q).num)), .string (hi (iabs ((l.getD k stp0).q).num)), .int .u64 (lo (qd ((l.getD k stp0).q))), .string (hi (qd ((l.getD k stp0).q)))], [(0, 0, 9)])] ?_
    refine lC 29 hs (tAlike (l.getD k stp0) (hq k (by omega)) _ _ hs.g) ?_
    rintro _ w14 h15 hs rfl
    refine lS hs [(30, .bool false, [])] ?_
    refine lN ?_
    refine cTo [(1, .slice A l.length c), (2, .func (.func 27) #[] #[]), (15, .slice A l.length c), (16, .int .i64 (l.length : Nat)), (17, .int .i64 (k : Nat)), (30, .bool false)] ?_
    refine cIF ?_
    refine CG.skipN ?_
    refine CG.listed ?_
    refine lIn 31 ((k : Nat) + 1) (k + 1) ?_
    refine lS hs [(17, .int .i64 (k + 1 : Nat), [])] ?_
    refine lD ?_
    intro a_ ka
    have q16 : (k + 1) ≤ l.length := by omega
    replace hs := hs.drop 2 0
    refine ⟨_, _, ?_, ⟨k + 1, h15, rfl, rfl, hs.to _ _, q16⟩, ka.to [(1, .slice A l.length c), (2, .func (.func 27) #[] #[]), (15, .slice A l.length c), (16, .int .i64 (l.length : Nat)), (17, .int .i64 ((k + 1) : Nat))] (by kernel_rfl)⟩
    omega

set_option maxRecDepth 100000 in
set_option maxHeartbeats 600000 in
theorem tSame (inp : Int) (A : Option Addr) (c : Nat) (l : List Stp) (O : Option Addr) (d : Nat) (os : List Int) (hl : l.length ≤ 1000000) (ho : os.length ≤ 1000000) (hq : ∀ i, i < l.length → Sm (l.getD i stp0).q) (w : World) (h : Hp) (g : G w h) (hA : SlO 9 stc stp0 h A l) (hO : SlO 1 i64c 0 h O os) :
    Calls Tryz.prog 10 #[.agg #[.int .i64 inp, .slice A ((l).length) c, .slice O ((os).length) d], .agg #[.int .i64 inp, .slice A ((l).length) c, .slice O ((os).length) d]] w (Ret w h fun v _ => v = .bool true) := by
  have hs := SS.start g
  replace hs := ((hs.a_SlO hA).a_SlO hO)
  refine go Tryz.func10 [(0, .agg #[.int .i64 inp, .slice A ((l).length) c, .slice O ((os).length) d]), (1, .agg #[.int .i64 inp, .slice A ((l).length) c, .slice O ((os).length) d])] rfl ?_
  refine cSL ?_
  refine lA 2 30 ([.int .i64 inp, .slice A ((l).length) c, .slice O ((os).length) d]) hs (fun b1 w2 h3 hs => ?_)
  refine lA 3 30 ([.int .i64 inp, .slice A ((l).length) c, .slice O ((os).length) d]) hs (fun b4 w5 h6 hs => ?_)
  refine lS hs [(4, .bool false, [])] ?_
  refine lN ?_
  refine cSL ?_
  refine lS hs [(5, .pointer (some ⟨b1, 0, none⟩), []), (6, .int .i64 inp, [(1, 0, 1)]), (7, .pointer (some ⟨b4, 0, none⟩), []), (8, .int .i64 inp, [(0, 0, 1)])] ?_
  have hb7 : ((inp : Int) == (inp : Int)) = true := beqT (by omega)
  have phb7 := eq_of_beq hb7
  refine lB 9 hb7 ?_
  refine lS hs [(10, .bool true, []), (11, .pointer (some ⟨b1, 2, none⟩), []), (12, .slice O ((os).length) d, [(1, 2, 1)]), (13, .pointer (some ⟨b4, 2, none⟩), []), (14, .slice O ((os).length) d, [(0, 2, 1)])] ?_
  refine lC 15 hs (sEqualI O d os ho _ _ hs.g (hs.f.1)) ?_
  rintro _ w8 h9 hs rfl
  refine lS hs [(16, .bool true, []), (17, .bool true, []), (18, .pointer (some ⟨b1, 1, none⟩), []), (19, .slice A ((l).length) c, [(1, 1, 1)]), (20, .pointer (some ⟨b4, 1, none⟩), []), (21, .slice A ((l).length) c, [(0, 1, 1)])] ?_
  refine lC 22 hs (sEqualS A c l hl hq _ _ hs.g (hs.f.2.1)) ?_
  rintro _ w10 h11 hs rfl
  refine lS hs [(23, .bool true, []), (4, .bool true, [])] ?_
  refine lN ?_
  refine cTo [(4, .bool true)] ?_
  refine CG.ret ?_
  exact hs.ret [] (.bool true) rfl

end Go.Proofs.YtmkonbkdjmfjhaaGreatDoor
