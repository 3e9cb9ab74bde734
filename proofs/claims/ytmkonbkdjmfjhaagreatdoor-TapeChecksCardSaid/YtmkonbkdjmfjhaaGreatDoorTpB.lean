/- law28.known: chapter 28's example holds; law28.TapeHeavy answers true. -/
import Derived.Test.YtmkonbkdjmfjhaaGreatDoorTpA
import Derived.Test.YtmkonbkdjmfjhaaGreatDoorNtA
namespace Go.Proofs.YtmkonbkdjmfjhaaGreatDoor
open Go.RowKit


def sqN : Stp := ⟨2, 0, 0, 0, 0⟩
def sqM : Stp := ⟨5, 0, 0, 0, 0⟩
instance decSm (q : Rat) : Decidable (Sm q) := by unfold Sm; infer_instance
theorem cAddE (a b c : Rat) (ha : Sm a) (hb : Sm b) (e : a + b = c) (w : World) : Calls Tryz.prog 36 #[qv a, qv b] w fun e w' => e = .returned (qv c) ∧ Ext w w' := e ▸ cAdd a b ha hb w
theorem cMulE (a b c : Rat) (ha : Sm a) (hb : Sm b) (e : a * b = c) (w : World) : Calls Tryz.prog 40 #[qv a, qv b] w fun e w' => e = .returned (qv c) ∧ Ext w w' := e ▸ cMul a b ha hb w
theorem cSignE (a : Rat) (c : Int) (ha : Sm a) (e : a.num.sign = c) (w : World) : Calls Tryz.prog 37 #[qv a] w fun e w' => e = .returned (.int .i64 c) ∧ Ext w w' := e ▸ cSign a ha w
theorem sqSm : ∀ i, i < [sqN, sqM].length → Sm ([sqN, sqM].getD i stp0).q := by decide +kernel

set_option maxRecDepth 100000 in
set_option maxHeartbeats 600000 in
theorem tApplyM (a b : Rat) (ha : Sm a) (hb : Sm b) (w : World) (h : Hp) (g : G w h) :
    Calls Tryz.prog 57 #[.agg #[.int .i64 5, .int .i64 0, .int .i64 0, .int .i64 0, .bool (ineg (0 : Rat).num), .int .u64 (lo (iabs (0 : Rat).num)), .string (hi (iabs (0 : Rat).num)), .int .u64 (lo (qd (0 : Rat))), .string (hi (qd (0 : Rat)))], qv a, qv b] w (Ret w h fun v _ => v = .tuple #[qv (a * b), .bool true]) := by
  have hs := SS.start g
  refine go Tryz.func57 [(0, .agg #[.int .i64 5, .int .i64 0, .int .i64 0, .int .i64 0, .bool (ineg (0 : Rat).num), .int .u64 (lo (iabs (0 : Rat).num)), .string (hi (iabs (0 : Rat).num)), .int .u64 (lo (qd (0 : Rat))), .string (hi (qd (0 : Rat)))]), (1, qv a), (2, qv b)] rfl ?_
  refine cSL ?_
  refine lA 3 62 ([.int .i64 5, .int .i64 0, .int .i64 0, .int .i64 0, .bool (ineg (0 : Rat).num), .int .u64 (lo (iabs (0 : Rat).num)), .string (hi (iabs (0 : Rat).num)), .int .u64 (lo (qd (0 : Rat))), .string (hi (qd (0 : Rat)))]) hs (fun b1 w2 h3 hs => ?_)
  refine lA 4 60 (qc a) hs (fun b4 w5 h6 hs => ?_)
  refine lA 5 60 (qc b) hs (fun b7 w8 h9 hs => ?_)
  refine lA 6 60 ([.bool false, .int .u64 0, .string (⟨#[]⟩), .int .u64 0, .string (⟨#[]⟩)]) hs (fun b10 w11 h12 hs => ?_)
  refine lS hs [(7, .bool false, [])] ?_
  refine lN ?_
  refine CG.seq ?_
  refine cSL ?_
  refine lS hs [(8, .pointer (some ⟨b1, 0, none⟩), []), (9, .int .i64 5, [(3, 0, 1)])] ?_
  refine lN ?_
  refine CG.block ?_
  refine cSL ?_
  refine lS hs [(11, .bool false, []), (10, .bool false, [])] ?_
  refine lN ?_
  refine cIF ?_
  refine cSL ?_
  refine lS hs [(15, .bool false, []), (14, .bool false, [])] ?_
  refine lN ?_
  refine cIF ?_
  refine cSL ?_
  refine lS hs [(20, .bool false, []), (19, .bool false, [])] ?_
  refine lN ?_
  refine cIF ?_
  refine cSL ?_
  refine lS hs [(25, .bool true, []), (24, .bool true, [])] ?_
  refine lN ?_
  refine cIT ?_
  refine cSL ?_
  refine lS hs [(26, qv a, [(2, 0, 5)]), (27, qv b, [(1, 0, 5)])] ?_
  refine lC 28 hs (Ret.of_ext hs.g (cMul a b ha hb _)) ?_
  rintro _ w13 h14 hs rfl
  refine lP 0 0 (qc (a * b)) hs (fun w15 hs => ?_)
  refine lS hs [(7, .bool true, [])] ?_
  refine lN ?_
  refine cTo [(4, .pointer (some ⟨b4, 0, none⟩)), (5, .pointer (some ⟨b7, 0, none⟩)), (6, .pointer (some ⟨b10, 0, none⟩)), (7, .bool true)] ?_
  refine CG.ret ?_
  exact hs.ret [(0, 0, 5)] (.tuple #[qv (a * b), .bool true]) rfl


theorem tApplyME (a b c : Rat) (ha : Sm a) (hb : Sm b) (e : a * b = c) (w : World) (h : Hp) (g : G w h) : Calls Tryz.prog 57 #[.agg #[.int .i64 5, .int .i64 0, .int .i64 0, .int .i64 0, .bool (ineg (0 : Rat).num), .int .u64 (lo (iabs (0 : Rat).num)), .string (hi (iabs (0 : Rat).num)), .int .u64 (lo (qd (0 : Rat))), .string (hi (qd (0 : Rat)))], qv a, qv b] w (Ret w h fun v _ => v = .tuple #[qv c, .bool true]) := e ▸ tApplyM a b ha hb w h g

set_option maxRecDepth 100000 in
set_option maxHeartbeats 600000 in
theorem tKinkedM (a b : Rat) (w : World) (h : Hp) (g : G w h) :
    Calls Tryz.prog 58 #[.agg #[.int .i64 5, .int .i64 0, .int .i64 0, .int .i64 0, .bool (ineg (0 : Rat).num), .int .u64 (lo (iabs (0 : Rat).num)), .string (hi (iabs (0 : Rat).num)), .int .u64 (lo (qd (0 : Rat))), .string (hi (qd (0 : Rat)))], qv a, qv b] w (Ret w h fun v _ => v = .bool false) := by
  have hs := SS.start g
  refine go Tryz.func58 [(0, .agg #[.int .i64 5, .int .i64 0, .int .i64 0, .int .i64 0, .bool (ineg (0 : Rat).num), .int .u64 (lo (iabs (0 : Rat).num)), .string (hi (iabs (0 : Rat).num)), .int .u64 (lo (qd (0 : Rat))), .string (hi (qd (0 : Rat)))]), (1, qv a), (2, qv b)] rfl ?_
  refine cSL ?_
  refine lA 3 62 ([.int .i64 5, .int .i64 0, .int .i64 0, .int .i64 0, .bool (ineg (0 : Rat).num), .int .u64 (lo (iabs (0 : Rat).num)), .string (hi (iabs (0 : Rat).num)), .int .u64 (lo (qd (0 : Rat))), .string (hi (qd (0 : Rat)))]) hs (fun b1 w2 h3 hs => ?_)
  refine lA 4 60 (qc a) hs (fun b4 w5 h6 hs => ?_)
  refine lA 5 60 (qc b) hs (fun b7 w8 h9 hs => ?_)
  refine lS hs [(6, .bool false, [])] ?_
  refine lN ?_
  refine CG.seq ?_
  refine cSL ?_
  refine lS hs [(7, .pointer (some ⟨b1, 0, none⟩), []), (8, .int .i64 5, [(2, 0, 1)])] ?_
  refine lN ?_
  refine CG.block ?_
  refine CG.seq ?_
  refine cSL ?_
  refine lS hs [(10, .bool false, []), (9, .bool false, [])] ?_
  refine lN ?_
  refine cIF ?_
  refine CG.listed ?_
  refine lS hs [(11, .bool false, []), (9, .bool false, [])] ?_
  refine lN ?_
  refine cIF ?_
  refine CG.seq ?_
  refine cSL ?_
  refine lS hs [(16, .bool false, []), (15, .bool false, [])] ?_
  refine lN ?_
  refine cIF ?_
  refine CG.listed ?_
  refine lS hs [(17, .bool false, []), (15, .bool false, [])] ?_
  refine lN ?_
  refine cIF ?_
  refine CG.skipN ?_
  refine cTo [(6, .bool false)] ?_
  refine cSL ?_
  refine lS hs [(6, .bool false, [])] ?_
  refine lN ?_
  refine CG.ret ?_
  exact hs.ret [] (.bool false) rfl

set_option maxRecDepth 100000 in
set_option maxHeartbeats 600000 in
theorem tSlopesM (a b : Rat) (w : World) (h : Hp) (g : G w h) :
    Calls Tryz.prog 38 #[.agg #[.int .i64 5, .int .i64 0, .int .i64 0, .int .i64 0, .bool (ineg (0 : Rat).num), .int .u64 (lo (iabs (0 : Rat).num)), .string (hi (iabs (0 : Rat).num)), .int .u64 (lo (qd (0 : Rat))), .string (hi (qd (0 : Rat)))], qv a, qv b] w (Ret w h fun v _ => v = .tuple #[qv b, qv a]) := by
  have hs := SS.start g
  refine go Tryz.func38 [(0, .agg #[.int .i64 5, .int .i64 0, .int .i64 0, .int .i64 0, .bool (ineg (0 : Rat).num), .int .u64 (lo (iabs (0 : Rat).num)), .string (hi (iabs (0 : Rat).num)), .int .u64 (lo (qd (0 : Rat))), .string (hi (qd (0 : Rat)))]), (1, qv a), (2, qv b)] rfl ?_
  refine cSL ?_
  refine lA 3 62 ([.int .i64 5, .int .i64 0, .int .i64 0, .int .i64 0, .bool (ineg (0 : Rat).num), .int .u64 (lo (iabs (0 : Rat).num)), .string (hi (iabs (0 : Rat).num)), .int .u64 (lo (qd (0 : Rat))), .string (hi (qd (0 : Rat)))]) hs (fun b1 w2 h3 hs => ?_)
  refine lA 4 60 (qc a) hs (fun b4 w5 h6 hs => ?_)
  refine lA 5 60 (qc b) hs (fun b7 w8 h9 hs => ?_)
  refine lA 6 60 ([.bool false, .int .u64 0, .string (⟨#[]⟩), .int .u64 0, .string (⟨#[]⟩)]) hs (fun b10 w11 h12 hs => ?_)
  refine lA 7 60 ([.bool false, .int .u64 0, .string (⟨#[]⟩), .int .u64 0, .string (⟨#[]⟩)]) hs (fun b13 w14 h15 hs => ?_)
  refine lN ?_
  refine cSL ?_
  refine lC 10 hs (Ret.of_ext hs.g (cOf (1) (by decide) (by decide) _)) ?_
  rintro _ w16 h17 hs rfl
  refine lS hs [(11, .agg #[.bool false, .int .u64 0, .string (⟨#[]⟩), .int .u64 0, .string (⟨#[]⟩)], [])] ?_
  refine lA 8 60 ([.bool false, .int .u64 0, .string (⟨#[]⟩), .int .u64 0, .string (⟨#[]⟩)]) hs (fun b18 w19 h20 hs => ?_)
  refine lA 9 60 ([.bool false, .int .u64 0, .string (⟨#[]⟩), .int .u64 0, .string (⟨#[]⟩)]) hs (fun b21 w22 h23 hs => ?_)
  refine lP 1 0 (qc ((1 : Int) : Rat)) hs (fun w24 hs => ?_)
  refine lP 0 0 ([.bool false, .int .u64 0, .string (⟨#[]⟩), .int .u64 0, .string (⟨#[]⟩)]) hs (fun w25 hs => ?_)
  refine lN ?_
  refine CG.seq ?_
  refine cSL ?_
  refine lS hs [(12, .pointer (some ⟨b1, 0, none⟩), []), (13, .int .i64 5, [(6, 0, 1)])] ?_
  refine lN ?_
  refine CG.block ?_
  refine cSL ?_
  refine lS hs [(15, .bool false, []), (14, .bool false, [])] ?_
  refine lN ?_
  refine cIF ?_
  refine cSL ?_
  refine lS hs [(19, .bool false, []), (18, .bool false, [])] ?_
  refine lN ?_
  refine cIF ?_
  refine cSL ?_
  refine lS hs [(24, .bool true, []), (23, .bool true, [])] ?_
  refine lN ?_
  refine cIT ?_
  refine CG.seq ?_
  have hsr := hs
  refine cRz 2 [] [b10, b13] mixed hs al_nil ?_
  refine eOz 0 25 [(4, 0, 5)] (qv b) hsr hs ?_ (hM := fun p hp => by obtain rfl := List.mem_singleton.1 hp; exact fun hm => by rcases List.mem_cons.1 hm with e | hm; exact bx_ne hs.st (i := 4) (j := 3) (by kernel_rfl) (by kernel_rfl) (by kernel_rfl) e; rcases List.mem_cons.1 hm with e | hm; exact bx_ne hs.st (i := 4) (j := 2) (by kernel_rfl) (by kernel_rfl) (by kernel_rfl) e; cases hm)
  refine eOz 1 26 [(5, 0, 5)] (qv a) hsr hs ?_ (hM := fun p hp => by obtain rfl := List.mem_singleton.1 hp; exact fun hm => by rcases List.mem_cons.1 hm with e | hm; exact bx_ne hs.st (i := 5) (j := 3) (by kernel_rfl) (by kernel_rfl) (by kernel_rfl) e; rcases List.mem_cons.1 hm with e | hm; exact bx_ne hs.st (i := 5) (j := 2) (by kernel_rfl) (by kernel_rfl) (by kernel_rfl) e; cases hm)
  refine eD0 hs (fun w26 h27 hs => ?_)
  refine tP 2 3 0 (qc b) hs (fun w28 hs => ?_) (hz := tlz_mem (List.mem_cons_self))
  refine tP 3 2 0 (qc a) hs (fun w29 hs => ?_) (hz := tlz_mem (List.mem_cons_of_mem _ <| List.mem_cons_self))
  refine tN ?_
  refine cTo [(6, .pointer (some ⟨b10, 0, none⟩)), (7, .pointer (some ⟨b13, 0, none⟩)), (9, .pointer (some ⟨b21, 0, none⟩))] ?_
  refine CG.ret ?_
  exact hs.ret [(3, 0, 5), (2, 0, 5)] (.tuple #[qv b, qv a]) rfl

set_option maxRecDepth 100000 in
set_option maxHeartbeats 600000 in
theorem tOutsS (A : Option Addr) (c : Nat) (O : Option Addr) (d : Nat) (V : Option Addr) (cv : Nat) (w : World) (h : Hp) (g : G w h) (hA : SlO 9 stc stp0 h A [sqN, sqM]) (hO : SlO 1 i64c 0 h O [1]) (hV : SlO 5 qc 0 h V [((3 : Int) : Rat), ((9 : Int) : Rat)]) :
    Calls Tryz.prog 41 #[.agg #[.int .i64 1, .slice A 2 c, .slice O 1 d], .slice V 2 cv] w (Ret w h fun v h1 => ∃ A1, v = .slice A1 1 1 ∧ SlO 5 qc 0 h1 A1 [((9 : Int) : Rat)]) := by
  have hs := SS.start g
  replace hs := (((hs.a_SlO hA).a_SlO hO).a_SlO hV)
  have hln : [sqN, sqM].length = 2 := rfl
  have hlo : [(1 : Int)].length = 1 := rfl
  have hlv : [((3 : Int) : Rat), ((9 : Int) : Rat)].length = 2 := rfl
  refine go Tryz.func41 [(0, .agg #[.int .i64 1, .slice A 2 c, .slice O 1 d]), (1, .slice V 2 cv)] rfl ?_
  refine cSL ?_
  refine lA 2 30 ([.int .i64 1, .slice A 2 c, .slice O 1 d]) hs (fun b1 w2 h3 hs => ?_)
  refine lS hs [(4, .slice none 0 0, [])] ?_
  refine lN ?_
  refine cSL ?_
  refine lS hs [(8, .pointer (some ⟨b1, 2, none⟩), []), (9, .slice O 1 d, [(0, 2, 1)]), (10, .int .i64 1, [])] ?_
  refine lK 11 60 1 5 56 (.agg #[.bool false, .int .u64 0, .string (⟨#[]⟩), .int .u64 0, .string (⟨#[]⟩)]) qc 0 hs (fun b4 w5 h6 hs => ?_)
  have hl7 : (List.replicate 1 0).length = 1 := by simp
  replace hs := hs.to [⟨b4, 60, (([0] : List Rat)).flatMap qc⟩, ⟨b1, 30, [.int .i64 1, .slice A 2 c, .slice O 1 d]⟩] []
  refine lS hs [(5, .slice (some ⟨b4, 0, none⟩) 1 1, [])] ?_
  refine lN ?_
  refine CG.seq ?_
  refine cSL ?_
  refine lS hs [(12, .pointer (some ⟨b1, 2, none⟩), []), (13, .slice O 1 d, [(1, 2, 1)]), (14, .int .i64 1, []), (15, .int .i64 0, [])] ?_
  refine lN ?_
  refine CG.block ?_
  refine cU ?_
  refine cN ?_
  refine cSL ?_
  refine lS hs [(16, .bool true, [])] ?_
  refine lN ?_
  refine CG.seq ?_
  refine cIT ?_
  refine CG.skipN ?_
  refine CG.seq ?_
  refine CG.block ?_
  refine cSL ?_
  refine lS hs [(17, .int .i64 0, [])] ?_
  refine lX 18 O 1 d 1 0 0 ((hs.f.2.1).ok (by omega)) ?_
  refine lH 19 (.int .i64 1) hs ((hs.f.2.1).el 0 (by omega)) ?_
  refine lS hs [(6, .int .i64 0, []), (7, .int .i64 1, [])] ?_
  refine lN ?_
  refine CG.listed ?_
  refine lS hs [(20, .slice (some ⟨b4, 0, none⟩) 1 1, []), (21, .int .i64 0, []), (22, .slice V 2 cv, []), (23, .int .i64 1, [])] ?_
  refine lX 24 V 2 cv 5 1 1 ((hs.f.1).ok (by omega)) ?_
  refine lH 25 (qv ((9 : Int) : Rat)) hs ((hs.f.1).el 1 (by omega)) ?_
  refine lX 26 (some ⟨b4, 0, none⟩) 1 1 5 0 0 rfl ?_
  refine lW 0 ([0] : List Rat) qc 5 0 ((9 : Int) : Rat) hs (by decide) (fun w8 hs => ?_)
  have hl9 : (([((9 : Int) : Rat)] : List Rat)).length = 1 := rfl
  replace hs := hs.to [⟨b4, 60, (([((9 : Int) : Rat)] : List Rat)).flatMap qc⟩, ⟨b1, 30, [.int .i64 1, .slice A 2 c, .slice O 1 d]⟩] []
  refine lN ?_
  refine cTo [(1, .slice V 2 cv), (4, .slice none 0 0), (5, .slice (some ⟨b4, 0, none⟩) 1 1), (13, .slice O 1 d), (14, .int .i64 1), (15, .int .i64 0), (16, .bool true), (17, .int .i64 0), (18, .pointer (some ⟨(aB O), aO O + 0 * 1, none⟩)), (19, .int .i64 1), (6, .int .i64 0), (7, .int .i64 1), (20, .slice (some ⟨b4, 0, none⟩) 1 1), (21, .int .i64 0), (22, .slice V 2 cv), (23, .int .i64 1), (24, .pointer (some ⟨(aB V), aO V + 1 * 5, none⟩)), (25, qv ((9 : Int) : Rat)), (26, .pointer (some ⟨b4, 0 + 0 * 5, none⟩))] ?_
  refine CG.listed ?_
  refine lS hs [(27, .int .i64 1, []), (15, .int .i64 1, [])] ?_
  refine lD ?_
  refine CL.to [(1, .slice V 2 cv), (4, .slice none 0 0), (5, .slice (some ⟨b4, 0, none⟩) 1 1), (13, .slice O 1 d), (14, .int .i64 1), (15, .int .i64 1), (16, .bool true), (17, .int .i64 0), (18, .pointer (some ⟨(aB O), aO O + 0 * 1, none⟩)), (19, .int .i64 1), (6, .int .i64 0), (7, .int .i64 1), (20, .slice (some ⟨b4, 0, none⟩) 1 1), (21, .int .i64 0), (22, .slice V 2 cv), (23, .int .i64 1), (24, .pointer (some ⟨(aB V), aO V + 1 * 5, none⟩)), (25, qv ((9 : Int) : Rat)), (26, .pointer (some ⟨b4, 0 + 0 * 5, none⟩)), (27, .int .i64 1)] ?_
  replace hs := hs.to [⟨b4, 60, (([((9 : Int) : Rat)] : List Rat)).flatMap qc⟩, ⟨b1, 30, [.int .i64 1, .slice A 2 c, .slice O 1 d]⟩] []
  refine cN ?_
  refine cSL ?_
  refine lS hs [(16, .bool false, [])] ?_
  refine lN ?_
  refine CG.seq ?_
  refine cIF ?_
  refine CG.exit ?_
  show CG _ _ _ _ _ _ _ _
  refine cTo [(4, .slice none 0 0), (5, .slice (some ⟨b4, 0, none⟩) 1 1)] ?_
  refine cSL ?_
  refine lS hs [(28, .slice (some ⟨b4, 0, none⟩) 1 1, []), (4, .slice (some ⟨b4, 0, none⟩) 1 1, [])] ?_
  refine lN ?_
  refine CG.ret ?_
  have hle : (([((9 : Int) : Rat)] : List Rat) : List Rat) = [((9 : Int) : Rat)] := by decide +kernel
  obtain ⟨h10, hs, sg11, lo12, bc13⟩ := hs.pub 0
  replace hs := (hs.to [⟨b1, 30, [.int .i64 1, .slice A 2 c, .slice O 1 d]⟩] []).a_SlO (SlO.of_flat (sz := 5) (f := qc) (d := 0) (b := b4) (o := 0) (l := ([((9 : Int) : Rat)] : List Rat)) (fun _ => rfl) sg11)
  have hfin := (hs.f.1)
  rw [hle] at hfin
  exact hs.ret [] (.slice (some ⟨b4, 0, none⟩) 1 1) (⟨_, rfl, hfin⟩)

set_option maxRecDepth 100000 in
set_option maxHeartbeats 600000 in
theorem tValuesS (A : Option Addr) (c : Nat) (O : Option Addr) (d : Nat) (X : Option Addr) (cx : Nat) (w : World) (h : Hp) (g : G w h) (hA : SlO 9 stc stp0 h A [sqN, sqM]) (hO : SlO 1 i64c 0 h O [1]) (hX : SlO 5 qc 0 h X [((3 : Int) : Rat)]) :
    Calls Tryz.prog 35 #[.agg #[.int .i64 1, .slice A 2 c, .slice O 1 d], .slice X 1 cx, .bool true] w (Ret w h fun v h1 => ∃ A1, v = .tuple #[.slice A1 2 2, .int .i64 0] ∧ SlO 5 qc 0 h1 A1 [((3 : Int) : Rat), ((9 : Int) : Rat)]) := by
  have hs := SS.start g
  replace hs := (((hs.a_SlO hA).a_SlO hO).a_SlO hX)
  have hln : [sqN, sqM].length = 2 := rfl
  have hlo : [(1 : Int)].length = 1 := rfl
  have hlx : [((3 : Int) : Rat)].length = 1 := rfl
  refine go Tryz.func35 [(0, .agg #[.int .i64 1, .slice A 2 c, .slice O 1 d]), (1, .slice X 1 cx), (2, .bool true)] rfl ?_
  refine cSL ?_
  refine lA 3 30 ([.int .i64 1, .slice A 2 c, .slice O 1 d]) hs (fun b1 w2 h3 hs => ?_)
  refine lS hs [(6, .slice none 0 0, []), (7, .int .i64 0, [])] ?_
  refine lN ?_
  refine cSL ?_
  refine lS hs [(15, .pointer (some ⟨b1, 1, none⟩), []), (16, .slice A 2 c, [(0, 1, 1)]), (17, .int .i64 2, [])] ?_
  refine lK 18 60 2 5 56 (.agg #[.bool false, .int .u64 0, .string (⟨#[]⟩), .int .u64 0, .string (⟨#[]⟩)]) qc 0 hs (fun b4 w5 h6 hs => ?_)
  have hl7 : (List.replicate 2 0).length = 2 := by simp
  replace hs := hs.to [⟨b4, 60, (([0, 0] : List Rat)).flatMap qc⟩, ⟨b1, 30, [.int .i64 1, .slice A 2 c, .slice O 1 d]⟩] []
  refine lS hs [(8, .slice (some ⟨b4, 0, none⟩) 2 2, [])] ?_
  refine lN ?_
  refine CG.seq ?_
  refine cSL ?_
  refine lS hs [(19, .pointer (some ⟨b1, 1, none⟩), []), (20, .slice A 2 c, [(1, 1, 1)]), (21, .int .i64 2, []), (22, .int .i64 0, [])] ?_
  refine lN ?_
  refine CG.block ?_
  refine cU ?_
  refine cN ?_
  refine cSL ?_
  refine lS hs [(23, .bool true, [])] ?_
  refine lN ?_
  refine CG.seq ?_
  refine cIT ?_
  refine CG.skipN ?_
  refine CG.seq ?_
  refine CG.block ?_
  refine cSL ?_
  refine lS hs [(24, .int .i64 0, [])] ?_
  refine lX 25 A 2 c 9 0 0 ((hs.f.2.2.1).ok (by omega)) ?_
  refine lH 26 (.agg #[.int .i64 2, .int .i64 0, .int .i64 0, .int .i64 0, .bool (ineg (0 : Rat).num), .int .u64 (lo (iabs (0 : Rat).num)), .string (hi (iabs (0 : Rat).num)), .int .u64 (lo (qd (0 : Rat))), .string (hi (qd (0 : Rat)))]) hs ((hs.f.2.2.1).el 0 (by omega)) ?_
  refine lA 10 62 ([.int .i64 0, .int .i64 0, .int .i64 0, .int .i64 0, .bool false, .int .u64 0, .string (⟨#[]⟩), .int .u64 0, .string (⟨#[]⟩)]) hs (fun b8 w9 h10 hs => ?_)
  refine lS hs [(9, .int .i64 0, [])] ?_
  refine lP 0 0 ([.int .i64 2, .int .i64 0, .int .i64 0, .int .i64 0, .bool (ineg (0 : Rat).num), .int .u64 (lo (iabs (0 : Rat).num)), .string (hi (iabs (0 : Rat).num)), .int .u64 (lo (qd (0 : Rat))), .string (hi (qd (0 : Rat)))]) hs (fun w11 hs => ?_)
  refine lN ?_
  refine CG.seq ?_
  refine cSL ?_
  refine lS hs [(27, .pointer (some ⟨b8, 0, none⟩), []), (28, .int .i64 2, [(0, 0, 1)]), (29, .bool true, [])] ?_
  refine lN ?_
  refine cIT ?_
  refine cSL ?_
  refine lS hs [(30, .slice (some ⟨b4, 0, none⟩) 2 2, []), (31, .int .i64 0, []), (32, .slice X 1 cx, []), (33, .pointer (some ⟨b8, 3, none⟩), []), (34, .int .i64 0, [(0, 3, 1)])] ?_
  refine lX 35 X 1 cx 5 0 0 ((hs.f.1).ok (by omega)) ?_
  refine lH 36 (qv ((3 : Int) : Rat)) hs ((hs.f.1).el 0 (by omega)) ?_
  refine lX 37 (some ⟨b4, 0, none⟩) 2 2 5 0 0 rfl ?_
  refine lW 1 ([0, 0] : List Rat) qc 5 0 ((3 : Int) : Rat) hs (by decide) (fun w12 hs => ?_)
  have hl13 : (([((3 : Int) : Rat), 0] : List Rat)).length = 2 := rfl
  replace hs := hs.to [⟨b8, 62, [.int .i64 2, .int .i64 0, .int .i64 0, .int .i64 0, .bool (ineg (0 : Rat).num), .int .u64 (lo (iabs (0 : Rat).num)), .string (hi (iabs (0 : Rat).num)), .int .u64 (lo (qd (0 : Rat))), .string (hi (qd (0 : Rat)))]⟩, ⟨b4, 60, (([((3 : Int) : Rat), 0] : List Rat)).flatMap qc⟩, ⟨b1, 30, [.int .i64 1, .slice A 2 c, .slice O 1 d]⟩] []
  refine lN ?_
  refine cTo [(1, .slice X 1 cx), (2, .bool true), (6, .slice none 0 0), (7, .int .i64 0), (8, .slice (some ⟨b4, 0, none⟩) 2 2), (20, .slice A 2 c), (21, .int .i64 2), (22, .int .i64 0), (23, .bool true), (24, .int .i64 0), (25, .pointer (some ⟨(aB A), aO A + 0 * 9, none⟩)), (26, .agg #[.int .i64 2, .int .i64 0, .int .i64 0, .int .i64 0, .bool (ineg (0 : Rat).num), .int .u64 (lo (iabs (0 : Rat).num)), .string (hi (iabs (0 : Rat).num)), .int .u64 (lo (qd (0 : Rat))), .string (hi (qd (0 : Rat)))]), (10, .pointer (some ⟨b8, 0, none⟩)), (9, .int .i64 0), (27, .pointer (some ⟨b8, 0, none⟩)), (28, .int .i64 2), (29, .bool true), (30, .slice (some ⟨b4, 0, none⟩) 2 2), (31, .int .i64 0), (32, .slice X 1 cx), (33, .pointer (some ⟨b8, 3, none⟩)), (34, .int .i64 0), (35, .pointer (some ⟨(aB X), aO X + 0 * 5, none⟩)), (36, qv ((3 : Int) : Rat)), (37, .pointer (some ⟨b4, 0 + 0 * 5, none⟩))] ?_
  refine CG.exit ?_
  show CG _ _ _ _ _ _ _ _
  refine cTo [(1, .slice X 1 cx), (2, .bool true), (6, .slice none 0 0), (7, .int .i64 0), (8, .slice (some ⟨b4, 0, none⟩) 2 2), (20, .slice A 2 c), (21, .int .i64 2), (22, .int .i64 0), (23, .bool true), (24, .int .i64 0), (25, .pointer (some ⟨(aB A), aO A + 0 * 9, none⟩)), (26, .agg #[.int .i64 2, .int .i64 0, .int .i64 0, .int .i64 0, .bool (ineg (0 : Rat).num), .int .u64 (lo (iabs (0 : Rat).num)), .string (hi (iabs (0 : Rat).num)), .int .u64 (lo (qd (0 : Rat))), .string (hi (qd (0 : Rat)))]), (10, .pointer (some ⟨b8, 0, none⟩)), (9, .int .i64 0), (27, .pointer (some ⟨b8, 0, none⟩)), (28, .int .i64 2), (29, .bool true), (30, .slice (some ⟨b4, 0, none⟩) 2 2), (31, .int .i64 0), (32, .slice X 1 cx), (33, .pointer (some ⟨b8, 3, none⟩)), (34, .int .i64 0), (35, .pointer (some ⟨(aB X), aO X + 0 * 5, none⟩)), (36, qv ((3 : Int) : Rat)), (37, .pointer (some ⟨b4, 0 + 0 * 5, none⟩))] ?_
  refine CG.listed ?_
  refine lS hs [(68, .int .i64 1, []), (22, .int .i64 1, [])] ?_
  refine lD ?_
  refine CL.to [(1, .slice X 1 cx), (2, .bool true), (6, .slice none 0 0), (7, .int .i64 0), (8, .slice (some ⟨b4, 0, none⟩) 2 2), (20, .slice A 2 c), (21, .int .i64 2), (22, .int .i64 1), (23, .bool true), (24, .int .i64 0), (25, .pointer (some ⟨(aB A), aO A + 0 * 9, none⟩)), (26, .agg #[.int .i64 2, .int .i64 0, .int .i64 0, .int .i64 0, .bool (ineg (0 : Rat).num), .int .u64 (lo (iabs (0 : Rat).num)), .string (hi (iabs (0 : Rat).num)), .int .u64 (lo (qd (0 : Rat))), .string (hi (qd (0 : Rat)))]), (10, .pointer (some ⟨b8, 0, none⟩)), (9, .int .i64 0), (27, .pointer (some ⟨b8, 0, none⟩)), (28, .int .i64 2), (29, .bool true), (30, .slice (some ⟨b4, 0, none⟩) 2 2), (31, .int .i64 0), (32, .slice X 1 cx), (33, .pointer (some ⟨b8, 3, none⟩)), (34, .int .i64 0), (35, .pointer (some ⟨(aB X), aO X + 0 * 5, none⟩)), (36, qv ((3 : Int) : Rat)), (37, .pointer (some ⟨b4, 0 + 0 * 5, none⟩)), (68, .int .i64 1)] ?_
  replace hs := hs.to [⟨b8, 62, [.int .i64 2, .int .i64 0, .int .i64 0, .int .i64 0, .bool (ineg (0 : Rat).num), .int .u64 (lo (iabs (0 : Rat).num)), .string (hi (iabs (0 : Rat).num)), .int .u64 (lo (qd (0 : Rat))), .string (hi (qd (0 : Rat)))]⟩, ⟨b4, 60, (([((3 : Int) : Rat), 0] : List Rat)).flatMap qc⟩, ⟨b1, 30, [.int .i64 1, .slice A 2 c, .slice O 1 d]⟩] []
  refine cN ?_
  refine cSL ?_
  refine lS hs [(23, .bool true, [])] ?_
  refine lN ?_
  refine cTo [(1, .slice X 1 cx), (2, .bool true), (6, .slice none 0 0), (7, .int .i64 0), (8, .slice (some ⟨b4, 0, none⟩) 2 2), (20, .slice A 2 c), (21, .int .i64 2), (22, .int .i64 1), (23, .bool true), (24, .int .i64 0), (25, .pointer (some ⟨(aB A), aO A + 0 * 9, none⟩)), (26, .agg #[.int .i64 2, .int .i64 0, .int .i64 0, .int .i64 0, .bool (ineg (0 : Rat).num), .int .u64 (lo (iabs (0 : Rat).num)), .string (hi (iabs (0 : Rat).num)), .int .u64 (lo (qd (0 : Rat))), .string (hi (qd (0 : Rat)))]), (10, .pointer (some ⟨b8, 0, none⟩)), (9, .int .i64 0), (27, .pointer (some ⟨b8, 0, none⟩)), (28, .int .i64 2), (29, .bool true), (30, .slice (some ⟨b4, 0, none⟩) 2 2), (31, .int .i64 0), (32, .slice X 1 cx), (33, .pointer (some ⟨b8, 3, none⟩)), (34, .int .i64 0), (35, .pointer (some ⟨(aB X), aO X + 0 * 5, none⟩)), (36, qv ((3 : Int) : Rat)), (37, .pointer (some ⟨b4, 0 + 0 * 5, none⟩)), (68, .int .i64 1)] ?_
  refine CG.seq ?_
  refine cIT ?_
  refine CG.skipN ?_
  refine cTo [(1, .slice X 1 cx), (2, .bool true), (6, .slice none 0 0), (7, .int .i64 0), (8, .slice (some ⟨b4, 0, none⟩) 2 2), (20, .slice A 2 c), (21, .int .i64 2), (22, .int .i64 1), (23, .bool true), (24, .int .i64 0), (25, .pointer (some ⟨(aB A), aO A + 0 * 9, none⟩)), (26, .agg #[.int .i64 2, .int .i64 0, .int .i64 0, .int .i64 0, .bool (ineg (0 : Rat).num), .int .u64 (lo (iabs (0 : Rat).num)), .string (hi (iabs (0 : Rat).num)), .int .u64 (lo (qd (0 : Rat))), .string (hi (qd (0 : Rat)))]), (10, .pointer (some ⟨b8, 0, none⟩)), (9, .int .i64 0), (27, .pointer (some ⟨b8, 0, none⟩)), (28, .int .i64 2), (29, .bool true), (30, .slice (some ⟨b4, 0, none⟩) 2 2), (31, .int .i64 0), (32, .slice X 1 cx), (33, .pointer (some ⟨b8, 3, none⟩)), (34, .int .i64 0), (35, .pointer (some ⟨(aB X), aO X + 0 * 5, none⟩)), (36, qv ((3 : Int) : Rat)), (37, .pointer (some ⟨b4, 0 + 0 * 5, none⟩)), (68, .int .i64 1)] ?_
  refine CG.seq ?_
  refine CG.block ?_
  refine cSL ?_
  refine lS hs [(24, .int .i64 1, [])] ?_
  refine lX 25 A 2 c 9 1 1 ((hs.f.2.2.1).ok (by omega)) ?_
  refine lH 26 (.agg #[.int .i64 5, .int .i64 0, .int .i64 0, .int .i64 0, .bool (ineg (0 : Rat).num), .int .u64 (lo (iabs (0 : Rat).num)), .string (hi (iabs (0 : Rat).num)), .int .u64 (lo (qd (0 : Rat))), .string (hi (qd (0 : Rat)))]) hs ((hs.f.2.2.1).el 1 (by omega)) ?_
  refine lA 10 62 ([.int .i64 0, .int .i64 0, .int .i64 0, .int .i64 0, .bool false, .int .u64 0, .string (⟨#[]⟩), .int .u64 0, .string (⟨#[]⟩)]) hs (fun b14 w15 h16 hs => ?_)
  refine lS hs [(9, .int .i64 1, [])] ?_
  refine lP 0 0 ([.int .i64 5, .int .i64 0, .int .i64 0, .int .i64 0, .bool (ineg (0 : Rat).num), .int .u64 (lo (iabs (0 : Rat).num)), .string (hi (iabs (0 : Rat).num)), .int .u64 (lo (qd (0 : Rat))), .string (hi (qd (0 : Rat)))]) hs (fun w17 hs => ?_)
  refine lN ?_
  refine cTo [(1, .slice X 1 cx), (2, .bool true), (6, .slice none 0 0), (7, .int .i64 0), (8, .slice (some ⟨b4, 0, none⟩) 2 2), (20, .slice A 2 c), (21, .int .i64 2), (22, .int .i64 1), (23, .bool true), (24, .int .i64 1), (25, .pointer (some ⟨(aB A), aO A + 1 * 9, none⟩)), (26, .agg #[.int .i64 5, .int .i64 0, .int .i64 0, .int .i64 0, .bool (ineg (0 : Rat).num), .int .u64 (lo (iabs (0 : Rat).num)), .string (hi (iabs (0 : Rat).num)), .int .u64 (lo (qd (0 : Rat))), .string (hi (qd (0 : Rat)))]), (10, .pointer (some ⟨b14, 0, none⟩)), (9, .int .i64 1), (27, .pointer (some ⟨b8, 0, none⟩)), (28, .int .i64 2), (29, .bool true), (30, .slice (some ⟨b4, 0, none⟩) 2 2), (31, .int .i64 0), (32, .slice X 1 cx), (33, .pointer (some ⟨b8, 3, none⟩)), (34, .int .i64 0), (35, .pointer (some ⟨(aB X), aO X + 0 * 5, none⟩)), (36, qv ((3 : Int) : Rat)), (37, .pointer (some ⟨b4, 0 + 0 * 5, none⟩)), (68, .int .i64 1)] ?_
  refine CG.seq ?_
  refine cSL ?_
  refine lS hs [(27, .pointer (some ⟨b14, 0, none⟩), []), (28, .int .i64 5, [(0, 0, 1)]), (29, .bool false, [])] ?_
  refine lN ?_
  refine cTo [(1, .slice X 1 cx), (2, .bool true), (6, .slice none 0 0), (7, .int .i64 0), (8, .slice (some ⟨b4, 0, none⟩) 2 2), (20, .slice A 2 c), (21, .int .i64 2), (22, .int .i64 1), (23, .bool true), (24, .int .i64 1), (25, .pointer (some ⟨(aB A), aO A + 1 * 9, none⟩)), (26, .agg #[.int .i64 5, .int .i64 0, .int .i64 0, .int .i64 0, .bool (ineg (0 : Rat).num), .int .u64 (lo (iabs (0 : Rat).num)), .string (hi (iabs (0 : Rat).num)), .int .u64 (lo (qd (0 : Rat))), .string (hi (qd (0 : Rat)))]), (10, .pointer (some ⟨b14, 0, none⟩)), (9, .int .i64 1), (27, .pointer (some ⟨b14, 0, none⟩)), (28, .int .i64 5), (29, .bool false), (30, .slice (some ⟨b4, 0, none⟩) 2 2), (31, .int .i64 0), (32, .slice X 1 cx), (33, .pointer (some ⟨b8, 3, none⟩)), (34, .int .i64 0), (35, .pointer (some ⟨(aB X), aO X + 0 * 5, none⟩)), (36, qv ((3 : Int) : Rat)), (37, .pointer (some ⟨b4, 0 + 0 * 5, none⟩)), (68, .int .i64 1)] ?_
  refine cIF ?_
  refine CG.skipN ?_
  refine cTo [(1, .slice X 1 cx), (2, .bool true), (6, .slice none 0 0), (7, .int .i64 0), (8, .slice (some ⟨b4, 0, none⟩) 2 2), (20, .slice A 2 c), (21, .int .i64 2), (22, .int .i64 1), (23, .bool true), (24, .int .i64 1), (25, .pointer (some ⟨(aB A), aO A + 1 * 9, none⟩)), (26, .agg #[.int .i64 5, .int .i64 0, .int .i64 0, .int .i64 0, .bool (ineg (0 : Rat).num), .int .u64 (lo (iabs (0 : Rat).num)), .string (hi (iabs (0 : Rat).num)), .int .u64 (lo (qd (0 : Rat))), .string (hi (qd (0 : Rat)))]), (10, .pointer (some ⟨b14, 0, none⟩)), (9, .int .i64 1), (27, .pointer (some ⟨b14, 0, none⟩)), (28, .int .i64 5), (29, .bool false), (30, .slice (some ⟨b4, 0, none⟩) 2 2), (31, .int .i64 0), (32, .slice X 1 cx), (33, .pointer (some ⟨b8, 3, none⟩)), (34, .int .i64 0), (35, .pointer (some ⟨(aB X), aO X + 0 * 5, none⟩)), (36, qv ((3 : Int) : Rat)), (37, .pointer (some ⟨b4, 0 + 0 * 5, none⟩)), (68, .int .i64 1)] ?_
  refine CG.seq ?_
  have hsr := hs
  refine cRz 12 [⟨10, 11, .cells (List.toArray [.bool false, .int .u64 0, .string (⟨#[]⟩), .int .u64 0, .string (⟨#[]⟩)]) 60 (0, 0)⟩, ⟨11, 12, .cells (List.toArray [.bool false, .int .u64 0, .string (⟨#[]⟩), .int .u64 0, .string (⟨#[]⟩)]) 60 (0, 0)⟩] [] mixed hs (al_cons (alOk (by kernel_rfl) (fun _ _ => by kernel_rfl)) (al_cons (alOk (by kernel_rfl) (fun _ _ => by kernel_rfl)) al_nil)) ?_
  refine eV 0 38 (.slice (some ⟨b4, 0, none⟩) 2 2) ?_
  refine eV 1 39 (.pointer (some ⟨b14, 1, none⟩)) ?_
  refine eOz 2 40 [(0, 1, 1)] (.int .i64 0) hsr hs ?_
  refine eX 3 41 (some ⟨b4, 0, none⟩) 2 2 5 0 0 rfl ?_
  refine eQz 4 42 2 ([((3 : Int) : Rat), 0] : List Rat) qc 5 0 0 (qv ((3 : Int) : Rat)) hsr hs (by decide) ?_
  refine eV 5 43 (.slice (some ⟨b4, 0, none⟩) 2 2) ?_
  refine eV 6 44 (.pointer (some ⟨b14, 2, none⟩)) ?_
  refine eOz 7 45 [(0, 2, 1)] (.int .i64 0) hsr hs ?_
  refine eX 8 46 (some ⟨b4, 0, none⟩) 2 2 5 0 0 rfl ?_
  refine eQz 9 47 2 ([((3 : Int) : Rat), 0] : List Rat) qc 5 0 0 (qv ((3 : Int) : Rat)) hsr hs (by decide) ?_
  refine eD2z hsr hs 60 [.bool false, .int .u64 0, .string (⟨#[]⟩), .int .u64 0, .string (⟨#[]⟩)] 60 [.bool false, .int .u64 0, .string (⟨#[]⟩), .int .u64 0, .string (⟨#[]⟩)] (fun w18 h19 b20 b21 hz22 hz23 hs => ?_)
  refine tP 12 0 0 (qc ((3 : Int) : Rat)) hs (fun w24 hs => ?_) (hz := tlz_new hz22)
  refine tP 13 1 0 (qc ((3 : Int) : Rat)) hs (fun w25 hs => ?_) (hz := tlz_new hz23)
  refine tN ?_
  refine cTo [(1, .slice X 1 cx), (2, .bool true), (6, .slice none 0 0), (7, .int .i64 0), (8, .slice (some ⟨b4, 0, none⟩) 2 2), (20, .slice A 2 c), (21, .int .i64 2), (22, .int .i64 1), (23, .bool true), (24, .int .i64 1), (25, .pointer (some ⟨(aB A), aO A + 1 * 9, none⟩)), (26, .agg #[.int .i64 5, .int .i64 0, .int .i64 0, .int .i64 0, .bool (ineg (0 : Rat).num), .int .u64 (lo (iabs (0 : Rat).num)), .string (hi (iabs (0 : Rat).num)), .int .u64 (lo (qd (0 : Rat))), .string (hi (qd (0 : Rat)))]), (10, .pointer (some ⟨b14, 0, none⟩)), (9, .int .i64 1), (27, .pointer (some ⟨b14, 0, none⟩)), (28, .int .i64 5), (29, .bool false), (30, .slice (some ⟨b4, 0, none⟩) 2 2), (31, .int .i64 0), (32, .slice X 1 cx), (33, .pointer (some ⟨b8, 3, none⟩)), (34, .int .i64 0), (35, .pointer (some ⟨(aB X), aO X + 0 * 5, none⟩)), (36, qv ((3 : Int) : Rat)), (37, .pointer (some ⟨b4, 0 + 0 * 5, none⟩)), (68, .int .i64 1), (38, .slice (some ⟨b4, 0, none⟩) 2 2), (39, .pointer (some ⟨b14, 1, none⟩)), (40, .int .i64 0), (41, .pointer (some ⟨b4, 0 + 0 * 5, none⟩)), (42, qv ((3 : Int) : Rat)), (43, .slice (some ⟨b4, 0, none⟩) 2 2), (44, .pointer (some ⟨b14, 2, none⟩)), (45, .int .i64 0), (46, .pointer (some ⟨b4, 0 + 0 * 5, none⟩)), (47, qv ((3 : Int) : Rat)), (12, .pointer (some ⟨b21, 0, none⟩)), (11, .pointer (some ⟨b20, 0, none⟩))] ?_
  refine cSL ?_
  refine lS hs [(49, .agg #[.int .i64 5, .int .i64 0, .int .i64 0, .int .i64 0, .bool (ineg (0 : Rat).num), .int .u64 (lo (iabs (0 : Rat).num)), .string (hi (iabs (0 : Rat).num)), .int .u64 (lo (qd (0 : Rat))), .string (hi (qd (0 : Rat)))], [(2, 0, 9)]), (50, qv ((3 : Int) : Rat), [(0, 0, 5)]), (51, qv ((3 : Int) : Rat), [(1, 0, 5)])] ?_
  refine lC 52 hs (tApplyME (((3 : Int) : Rat)) (((3 : Int) : Rat)) (((9 : Int) : Rat)) (by decide +kernel) (by decide +kernel) (by decide +kernel) _ _ hs.g) ?_
  rintro _ w26 h27 hs rfl
  refine lS hs [(48, .tuple #[qv ((9 : Int) : Rat), .bool true], []), (53, qv ((9 : Int) : Rat), []), (54, .bool true, [])] ?_
  refine lA 13 60 ([.bool false, .int .u64 0, .string (⟨#[]⟩), .int .u64 0, .string (⟨#[]⟩)]) hs (fun b28 w29 h30 hs => ?_)
  refine lP 0 0 (qc ((9 : Int) : Rat)) hs (fun w31 hs => ?_)
  refine lS hs [(14, .bool true, [])] ?_
  refine lN ?_
  refine cTo [(1, .slice X 1 cx), (2, .bool true), (6, .slice none 0 0), (7, .int .i64 0), (8, .slice (some ⟨b4, 0, none⟩) 2 2), (20, .slice A 2 c), (21, .int .i64 2), (22, .int .i64 1), (23, .bool true), (24, .int .i64 1), (25, .pointer (some ⟨(aB A), aO A + 1 * 9, none⟩)), (26, .agg #[.int .i64 5, .int .i64 0, .int .i64 0, .int .i64 0, .bool (ineg (0 : Rat).num), .int .u64 (lo (iabs (0 : Rat).num)), .string (hi (iabs (0 : Rat).num)), .int .u64 (lo (qd (0 : Rat))), .string (hi (qd (0 : Rat)))]), (10, .pointer (some ⟨b14, 0, none⟩)), (9, .int .i64 1), (27, .pointer (some ⟨b14, 0, none⟩)), (28, .int .i64 5), (29, .bool false), (30, .slice (some ⟨b4, 0, none⟩) 2 2), (31, .int .i64 0), (32, .slice X 1 cx), (33, .pointer (some ⟨b8, 3, none⟩)), (34, .int .i64 0), (35, .pointer (some ⟨(aB X), aO X + 0 * 5, none⟩)), (36, qv ((3 : Int) : Rat)), (37, .pointer (some ⟨b4, 0 + 0 * 5, none⟩)), (68, .int .i64 1), (38, .slice (some ⟨b4, 0, none⟩) 2 2), (39, .pointer (some ⟨b14, 1, none⟩)), (40, .int .i64 0), (41, .pointer (some ⟨b4, 0 + 0 * 5, none⟩)), (42, qv ((3 : Int) : Rat)), (43, .slice (some ⟨b4, 0, none⟩) 2 2), (44, .pointer (some ⟨b14, 2, none⟩)), (45, .int .i64 0), (46, .pointer (some ⟨b4, 0 + 0 * 5, none⟩)), (47, qv ((3 : Int) : Rat)), (12, .pointer (some ⟨b21, 0, none⟩)), (11, .pointer (some ⟨b20, 0, none⟩)), (49, .agg #[.int .i64 5, .int .i64 0, .int .i64 0, .int .i64 0, .bool (ineg (0 : Rat).num), .int .u64 (lo (iabs (0 : Rat).num)), .string (hi (iabs (0 : Rat).num)), .int .u64 (lo (qd (0 : Rat))), .string (hi (qd (0 : Rat)))]), (50, qv ((3 : Int) : Rat)), (51, qv ((3 : Int) : Rat)), (52, .tuple #[qv ((9 : Int) : Rat), .bool true]), (48, .tuple #[qv ((9 : Int) : Rat), .bool true]), (53, qv ((9 : Int) : Rat)), (54, .bool true), (13, .pointer (some ⟨b28, 0, none⟩)), (14, .bool true)] ?_
  refine CG.seq ?_
  refine cSL ?_
  refine lS hs [(55, .bool true, []), (56, .bool false, [])] ?_
  refine lN ?_
  refine cTo [(1, .slice X 1 cx), (2, .bool true), (6, .slice none 0 0), (7, .int .i64 0), (8, .slice (some ⟨b4, 0, none⟩) 2 2), (20, .slice A 2 c), (21, .int .i64 2), (22, .int .i64 1), (23, .bool true), (24, .int .i64 1), (25, .pointer (some ⟨(aB A), aO A + 1 * 9, none⟩)), (26, .agg #[.int .i64 5, .int .i64 0, .int .i64 0, .int .i64 0, .bool (ineg (0 : Rat).num), .int .u64 (lo (iabs (0 : Rat).num)), .string (hi (iabs (0 : Rat).num)), .int .u64 (lo (qd (0 : Rat))), .string (hi (qd (0 : Rat)))]), (10, .pointer (some ⟨b14, 0, none⟩)), (9, .int .i64 1), (27, .pointer (some ⟨b14, 0, none⟩)), (28, .int .i64 5), (29, .bool false), (30, .slice (some ⟨b4, 0, none⟩) 2 2), (31, .int .i64 0), (32, .slice X 1 cx), (33, .pointer (some ⟨b8, 3, none⟩)), (34, .int .i64 0), (35, .pointer (some ⟨(aB X), aO X + 0 * 5, none⟩)), (36, qv ((3 : Int) : Rat)), (37, .pointer (some ⟨b4, 0 + 0 * 5, none⟩)), (68, .int .i64 1), (38, .slice (some ⟨b4, 0, none⟩) 2 2), (39, .pointer (some ⟨b14, 1, none⟩)), (40, .int .i64 0), (41, .pointer (some ⟨b4, 0 + 0 * 5, none⟩)), (42, qv ((3 : Int) : Rat)), (43, .slice (some ⟨b4, 0, none⟩) 2 2), (44, .pointer (some ⟨b14, 2, none⟩)), (45, .int .i64 0), (46, .pointer (some ⟨b4, 0 + 0 * 5, none⟩)), (47, qv ((3 : Int) : Rat)), (12, .pointer (some ⟨b21, 0, none⟩)), (11, .pointer (some ⟨b20, 0, none⟩)), (49, .agg #[.int .i64 5, .int .i64 0, .int .i64 0, .int .i64 0, .bool (ineg (0 : Rat).num), .int .u64 (lo (iabs (0 : Rat).num)), .string (hi (iabs (0 : Rat).num)), .int .u64 (lo (qd (0 : Rat))), .string (hi (qd (0 : Rat)))]), (50, qv ((3 : Int) : Rat)), (51, qv ((3 : Int) : Rat)), (52, .tuple #[qv ((9 : Int) : Rat), .bool true]), (48, .tuple #[qv ((9 : Int) : Rat), .bool true]), (53, qv ((9 : Int) : Rat)), (54, .bool true), (13, .pointer (some ⟨b28, 0, none⟩)), (14, .bool true), (55, .bool true), (56, .bool false)] ?_
  refine cIF ?_
  refine CG.skipN ?_
  refine cTo [(1, .slice X 1 cx), (2, .bool true), (6, .slice none 0 0), (7, .int .i64 0), (8, .slice (some ⟨b4, 0, none⟩) 2 2), (20, .slice A 2 c), (21, .int .i64 2), (22, .int .i64 1), (23, .bool true), (24, .int .i64 1), (25, .pointer (some ⟨(aB A), aO A + 1 * 9, none⟩)), (26, .agg #[.int .i64 5, .int .i64 0, .int .i64 0, .int .i64 0, .bool (ineg (0 : Rat).num), .int .u64 (lo (iabs (0 : Rat).num)), .string (hi (iabs (0 : Rat).num)), .int .u64 (lo (qd (0 : Rat))), .string (hi (qd (0 : Rat)))]), (10, .pointer (some ⟨b14, 0, none⟩)), (9, .int .i64 1), (27, .pointer (some ⟨b14, 0, none⟩)), (28, .int .i64 5), (29, .bool false), (30, .slice (some ⟨b4, 0, none⟩) 2 2), (31, .int .i64 0), (32, .slice X 1 cx), (33, .pointer (some ⟨b8, 3, none⟩)), (34, .int .i64 0), (35, .pointer (some ⟨(aB X), aO X + 0 * 5, none⟩)), (36, qv ((3 : Int) : Rat)), (37, .pointer (some ⟨b4, 0 + 0 * 5, none⟩)), (68, .int .i64 1), (38, .slice (some ⟨b4, 0, none⟩) 2 2), (39, .pointer (some ⟨b14, 1, none⟩)), (40, .int .i64 0), (41, .pointer (some ⟨b4, 0 + 0 * 5, none⟩)), (42, qv ((3 : Int) : Rat)), (43, .slice (some ⟨b4, 0, none⟩) 2 2), (44, .pointer (some ⟨b14, 2, none⟩)), (45, .int .i64 0), (46, .pointer (some ⟨b4, 0 + 0 * 5, none⟩)), (47, qv ((3 : Int) : Rat)), (12, .pointer (some ⟨b21, 0, none⟩)), (11, .pointer (some ⟨b20, 0, none⟩)), (49, .agg #[.int .i64 5, .int .i64 0, .int .i64 0, .int .i64 0, .bool (ineg (0 : Rat).num), .int .u64 (lo (iabs (0 : Rat).num)), .string (hi (iabs (0 : Rat).num)), .int .u64 (lo (qd (0 : Rat))), .string (hi (qd (0 : Rat)))]), (50, qv ((3 : Int) : Rat)), (51, qv ((3 : Int) : Rat)), (52, .tuple #[qv ((9 : Int) : Rat), .bool true]), (48, .tuple #[qv ((9 : Int) : Rat), .bool true]), (53, qv ((9 : Int) : Rat)), (54, .bool true), (13, .pointer (some ⟨b28, 0, none⟩)), (14, .bool true), (55, .bool true), (56, .bool false)] ?_
  refine CG.seq ?_
  refine cSL ?_
  refine lS hs [(57, .bool true, []), (58, .bool true, []), (59, .agg #[.int .i64 5, .int .i64 0, .int .i64 0, .int .i64 0, .bool (ineg (0 : Rat).num), .int .u64 (lo (iabs (0 : Rat).num)), .string (hi (iabs (0 : Rat).num)), .int .u64 (lo (qd (0 : Rat))), .string (hi (qd (0 : Rat)))], [(3, 0, 9)]), (60, qv ((3 : Int) : Rat), [(1, 0, 5)]), (61, qv ((3 : Int) : Rat), [(2, 0, 5)])] ?_
  refine lC 62 hs (tKinkedM (((3 : Int) : Rat)) (((3 : Int) : Rat)) _ _ hs.g) ?_
  rintro _ w32 h33 hs rfl
  refine lS hs [(63, .bool false, [])] ?_
  refine lN ?_
  refine cTo [(1, .slice X 1 cx), (2, .bool true), (6, .slice none 0 0), (7, .int .i64 0), (8, .slice (some ⟨b4, 0, none⟩) 2 2), (20, .slice A 2 c), (21, .int .i64 2), (22, .int .i64 1), (23, .bool true), (24, .int .i64 1), (25, .pointer (some ⟨(aB A), aO A + 1 * 9, none⟩)), (26, .agg #[.int .i64 5, .int .i64 0, .int .i64 0, .int .i64 0, .bool (ineg (0 : Rat).num), .int .u64 (lo (iabs (0 : Rat).num)), .string (hi (iabs (0 : Rat).num)), .int .u64 (lo (qd (0 : Rat))), .string (hi (qd (0 : Rat)))]), (10, .pointer (some ⟨b14, 0, none⟩)), (9, .int .i64 1), (27, .pointer (some ⟨b14, 0, none⟩)), (28, .int .i64 5), (29, .bool false), (30, .slice (some ⟨b4, 0, none⟩) 2 2), (31, .int .i64 0), (32, .slice X 1 cx), (33, .pointer (some ⟨b8, 3, none⟩)), (34, .int .i64 0), (35, .pointer (some ⟨(aB X), aO X + 0 * 5, none⟩)), (36, qv ((3 : Int) : Rat)), (37, .pointer (some ⟨b4, 0 + 0 * 5, none⟩)), (68, .int .i64 1), (38, .slice (some ⟨b4, 0, none⟩) 2 2), (39, .pointer (some ⟨b14, 1, none⟩)), (40, .int .i64 0), (41, .pointer (some ⟨b4, 0 + 0 * 5, none⟩)), (42, qv ((3 : Int) : Rat)), (43, .slice (some ⟨b4, 0, none⟩) 2 2), (44, .pointer (some ⟨b14, 2, none⟩)), (45, .int .i64 0), (46, .pointer (some ⟨b4, 0 + 0 * 5, none⟩)), (47, qv ((3 : Int) : Rat)), (12, .pointer (some ⟨b21, 0, none⟩)), (11, .pointer (some ⟨b20, 0, none⟩)), (49, .agg #[.int .i64 5, .int .i64 0, .int .i64 0, .int .i64 0, .bool (ineg (0 : Rat).num), .int .u64 (lo (iabs (0 : Rat).num)), .string (hi (iabs (0 : Rat).num)), .int .u64 (lo (qd (0 : Rat))), .string (hi (qd (0 : Rat)))]), (50, qv ((3 : Int) : Rat)), (51, qv ((3 : Int) : Rat)), (52, .tuple #[qv ((9 : Int) : Rat), .bool true]), (48, .tuple #[qv ((9 : Int) : Rat), .bool true]), (53, qv ((9 : Int) : Rat)), (54, .bool true), (13, .pointer (some ⟨b28, 0, none⟩)), (14, .bool true), (55, .bool true), (56, .bool false), (57, .bool true), (58, .bool true), (59, .agg #[.int .i64 5, .int .i64 0, .int .i64 0, .int .i64 0, .bool (ineg (0 : Rat).num), .int .u64 (lo (iabs (0 : Rat).num)), .string (hi (iabs (0 : Rat).num)), .int .u64 (lo (qd (0 : Rat))), .string (hi (qd (0 : Rat)))]), (60, qv ((3 : Int) : Rat)), (61, qv ((3 : Int) : Rat)), (62, .bool false), (63, .bool false)] ?_
  refine cIF ?_
  refine CG.skipN ?_
  refine cTo [(1, .slice X 1 cx), (2, .bool true), (6, .slice none 0 0), (7, .int .i64 0), (8, .slice (some ⟨b4, 0, none⟩) 2 2), (20, .slice A 2 c), (21, .int .i64 2), (22, .int .i64 1), (23, .bool true), (24, .int .i64 1), (25, .pointer (some ⟨(aB A), aO A + 1 * 9, none⟩)), (26, .agg #[.int .i64 5, .int .i64 0, .int .i64 0, .int .i64 0, .bool (ineg (0 : Rat).num), .int .u64 (lo (iabs (0 : Rat).num)), .string (hi (iabs (0 : Rat).num)), .int .u64 (lo (qd (0 : Rat))), .string (hi (qd (0 : Rat)))]), (10, .pointer (some ⟨b14, 0, none⟩)), (9, .int .i64 1), (27, .pointer (some ⟨b14, 0, none⟩)), (28, .int .i64 5), (29, .bool false), (30, .slice (some ⟨b4, 0, none⟩) 2 2), (31, .int .i64 0), (32, .slice X 1 cx), (33, .pointer (some ⟨b8, 3, none⟩)), (34, .int .i64 0), (35, .pointer (some ⟨(aB X), aO X + 0 * 5, none⟩)), (36, qv ((3 : Int) : Rat)), (37, .pointer (some ⟨b4, 0 + 0 * 5, none⟩)), (68, .int .i64 1), (38, .slice (some ⟨b4, 0, none⟩) 2 2), (39, .pointer (some ⟨b14, 1, none⟩)), (40, .int .i64 0), (41, .pointer (some ⟨b4, 0 + 0 * 5, none⟩)), (42, qv ((3 : Int) : Rat)), (43, .slice (some ⟨b4, 0, none⟩) 2 2), (44, .pointer (some ⟨b14, 2, none⟩)), (45, .int .i64 0), (46, .pointer (some ⟨b4, 0 + 0 * 5, none⟩)), (47, qv ((3 : Int) : Rat)), (12, .pointer (some ⟨b21, 0, none⟩)), (11, .pointer (some ⟨b20, 0, none⟩)), (49, .agg #[.int .i64 5, .int .i64 0, .int .i64 0, .int .i64 0, .bool (ineg (0 : Rat).num), .int .u64 (lo (iabs (0 : Rat).num)), .string (hi (iabs (0 : Rat).num)), .int .u64 (lo (qd (0 : Rat))), .string (hi (qd (0 : Rat)))]), (50, qv ((3 : Int) : Rat)), (51, qv ((3 : Int) : Rat)), (52, .tuple #[qv ((9 : Int) : Rat), .bool true]), (48, .tuple #[qv ((9 : Int) : Rat), .bool true]), (53, qv ((9 : Int) : Rat)), (54, .bool true), (13, .pointer (some ⟨b28, 0, none⟩)), (14, .bool true), (55, .bool true), (56, .bool false), (57, .bool true), (58, .bool true), (59, .agg #[.int .i64 5, .int .i64 0, .int .i64 0, .int .i64 0, .bool (ineg (0 : Rat).num), .int .u64 (lo (iabs (0 : Rat).num)), .string (hi (iabs (0 : Rat).num)), .int .u64 (lo (qd (0 : Rat))), .string (hi (qd (0 : Rat)))]), (60, qv ((3 : Int) : Rat)), (61, qv ((3 : Int) : Rat)), (62, .bool false), (63, .bool false)] ?_
  refine CG.listed ?_
  refine lS hs [(64, .slice (some ⟨b4, 0, none⟩) 2 2, []), (65, .int .i64 1, []), (66, qv ((9 : Int) : Rat), [(0, 0, 5)])] ?_
  refine lX 67 (some ⟨b4, 0, none⟩) 2 2 5 1 1 rfl ?_
  refine lW 5 ([((3 : Int) : Rat), 0] : List Rat) qc 5 1 ((9 : Int) : Rat) hs (by decide) (fun w34 hs => ?_)
  have hl35 : (([((3 : Int) : Rat), ((9 : Int) : Rat)] : List Rat)).length = 2 := rfl
  replace hs := hs.to [⟨b28, 60, qc ((9 : Int) : Rat)⟩, ⟨b20, 60, qc ((3 : Int) : Rat)⟩, ⟨b21, 60, qc ((3 : Int) : Rat)⟩, ⟨b14, 62, [.int .i64 5, .int .i64 0, .int .i64 0, .int .i64 0, .bool (ineg (0 : Rat).num), .int .u64 (lo (iabs (0 : Rat).num)), .string (hi (iabs (0 : Rat).num)), .int .u64 (lo (qd (0 : Rat))), .string (hi (qd (0 : Rat)))]⟩, ⟨b8, 62, [.int .i64 2, .int .i64 0, .int .i64 0, .int .i64 0, .bool (ineg (0 : Rat).num), .int .u64 (lo (iabs (0 : Rat).num)), .string (hi (iabs (0 : Rat).num)), .int .u64 (lo (qd (0 : Rat))), .string (hi (qd (0 : Rat)))]⟩, ⟨b4, 60, (([((3 : Int) : Rat), ((9 : Int) : Rat)] : List Rat)).flatMap qc⟩, ⟨b1, 30, [.int .i64 1, .slice A 2 c, .slice O 1 d]⟩] []
  refine lN ?_
  refine cTo [(1, .slice X 1 cx), (2, .bool true), (6, .slice none 0 0), (7, .int .i64 0), (8, .slice (some ⟨b4, 0, none⟩) 2 2), (20, .slice A 2 c), (21, .int .i64 2), (22, .int .i64 1), (23, .bool true), (24, .int .i64 1), (25, .pointer (some ⟨(aB A), aO A + 1 * 9, none⟩)), (26, .agg #[.int .i64 5, .int .i64 0, .int .i64 0, .int .i64 0, .bool (ineg (0 : Rat).num), .int .u64 (lo (iabs (0 : Rat).num)), .string (hi (iabs (0 : Rat).num)), .int .u64 (lo (qd (0 : Rat))), .string (hi (qd (0 : Rat)))]), (10, .pointer (some ⟨b14, 0, none⟩)), (9, .int .i64 1), (27, .pointer (some ⟨b14, 0, none⟩)), (28, .int .i64 5), (29, .bool false), (30, .slice (some ⟨b4, 0, none⟩) 2 2), (31, .int .i64 0), (32, .slice X 1 cx), (33, .pointer (some ⟨b8, 3, none⟩)), (34, .int .i64 0), (35, .pointer (some ⟨(aB X), aO X + 0 * 5, none⟩)), (36, qv ((3 : Int) : Rat)), (37, .pointer (some ⟨b4, 0 + 0 * 5, none⟩)), (68, .int .i64 1), (38, .slice (some ⟨b4, 0, none⟩) 2 2), (39, .pointer (some ⟨b14, 1, none⟩)), (40, .int .i64 0), (41, .pointer (some ⟨b4, 0 + 0 * 5, none⟩)), (42, qv ((3 : Int) : Rat)), (43, .slice (some ⟨b4, 0, none⟩) 2 2), (44, .pointer (some ⟨b14, 2, none⟩)), (45, .int .i64 0), (46, .pointer (some ⟨b4, 0 + 0 * 5, none⟩)), (47, qv ((3 : Int) : Rat)), (12, .pointer (some ⟨b21, 0, none⟩)), (11, .pointer (some ⟨b20, 0, none⟩)), (49, .agg #[.int .i64 5, .int .i64 0, .int .i64 0, .int .i64 0, .bool (ineg (0 : Rat).num), .int .u64 (lo (iabs (0 : Rat).num)), .string (hi (iabs (0 : Rat).num)), .int .u64 (lo (qd (0 : Rat))), .string (hi (qd (0 : Rat)))]), (50, qv ((3 : Int) : Rat)), (51, qv ((3 : Int) : Rat)), (52, .tuple #[qv ((9 : Int) : Rat), .bool true]), (48, .tuple #[qv ((9 : Int) : Rat), .bool true]), (53, qv ((9 : Int) : Rat)), (54, .bool true), (13, .pointer (some ⟨b28, 0, none⟩)), (14, .bool true), (55, .bool true), (56, .bool false), (57, .bool true), (58, .bool true), (59, .agg #[.int .i64 5, .int .i64 0, .int .i64 0, .int .i64 0, .bool (ineg (0 : Rat).num), .int .u64 (lo (iabs (0 : Rat).num)), .string (hi (iabs (0 : Rat).num)), .int .u64 (lo (qd (0 : Rat))), .string (hi (qd (0 : Rat)))]), (60, qv ((3 : Int) : Rat)), (61, qv ((3 : Int) : Rat)), (62, .bool false), (63, .bool false), (64, .slice (some ⟨b4, 0, none⟩) 2 2), (65, .int .i64 1), (66, qv ((9 : Int) : Rat)), (67, .pointer (some ⟨b4, 0 + 1 * 5, none⟩))] ?_
  refine CG.listed ?_
  refine lS hs [(68, .int .i64 2, []), (22, .int .i64 2, [])] ?_
  refine lD ?_
  refine CL.to [(1, .slice X 1 cx), (2, .bool true), (6, .slice none 0 0), (7, .int .i64 0), (8, .slice (some ⟨b4, 0, none⟩) 2 2), (20, .slice A 2 c), (21, .int .i64 2), (22, .int .i64 2), (23, .bool true), (24, .int .i64 1), (25, .pointer (some ⟨(aB A), aO A + 1 * 9, none⟩)), (26, .agg #[.int .i64 5, .int .i64 0, .int .i64 0, .int .i64 0, .bool (ineg (0 : Rat).num), .int .u64 (lo (iabs (0 : Rat).num)), .string (hi (iabs (0 : Rat).num)), .int .u64 (lo (qd (0 : Rat))), .string (hi (qd (0 : Rat)))]), (10, .pointer (some ⟨b14, 0, none⟩)), (9, .int .i64 1), (27, .pointer (some ⟨b14, 0, none⟩)), (28, .int .i64 5), (29, .bool false), (30, .slice (some ⟨b4, 0, none⟩) 2 2), (31, .int .i64 0), (32, .slice X 1 cx), (33, .pointer (some ⟨b8, 3, none⟩)), (34, .int .i64 0), (35, .pointer (some ⟨(aB X), aO X + 0 * 5, none⟩)), (36, qv ((3 : Int) : Rat)), (37, .pointer (some ⟨b4, 0 + 0 * 5, none⟩)), (68, .int .i64 2), (38, .slice (some ⟨b4, 0, none⟩) 2 2), (39, .pointer (some ⟨b14, 1, none⟩)), (40, .int .i64 0), (41, .pointer (some ⟨b4, 0 + 0 * 5, none⟩)), (42, qv ((3 : Int) : Rat)), (43, .slice (some ⟨b4, 0, none⟩) 2 2), (44, .pointer (some ⟨b14, 2, none⟩)), (45, .int .i64 0), (46, .pointer (some ⟨b4, 0 + 0 * 5, none⟩)), (47, qv ((3 : Int) : Rat)), (12, .pointer (some ⟨b21, 0, none⟩)), (11, .pointer (some ⟨b20, 0, none⟩)), (49, .agg #[.int .i64 5, .int .i64 0, .int .i64 0, .int .i64 0, .bool (ineg (0 : Rat).num), .int .u64 (lo (iabs (0 : Rat).num)), .string (hi (iabs (0 : Rat).num)), .int .u64 (lo (qd (0 : Rat))), .string (hi (qd (0 : Rat)))]), (50, qv ((3 : Int) : Rat)), (51, qv ((3 : Int) : Rat)), (52, .tuple #[qv ((9 : Int) : Rat), .bool true]), (48, .tuple #[qv ((9 : Int) : Rat), .bool true]), (53, qv ((9 : Int) : Rat)), (54, .bool true), (13, .pointer (some ⟨b28, 0, none⟩)), (14, .bool true), (55, .bool true), (56, .bool false), (57, .bool true), (58, .bool true), (59, .agg #[.int .i64 5, .int .i64 0, .int .i64 0, .int .i64 0, .bool (ineg (0 : Rat).num), .int .u64 (lo (iabs (0 : Rat).num)), .string (hi (iabs (0 : Rat).num)), .int .u64 (lo (qd (0 : Rat))), .string (hi (qd (0 : Rat)))]), (60, qv ((3 : Int) : Rat)), (61, qv ((3 : Int) : Rat)), (62, .bool false), (63, .bool false), (64, .slice (some ⟨b4, 0, none⟩) 2 2), (65, .int .i64 1), (66, qv ((9 : Int) : Rat)), (67, .pointer (some ⟨b4, 0 + 1 * 5, none⟩))] ?_
  replace hs := hs.to [⟨b28, 60, qc ((9 : Int) : Rat)⟩, ⟨b20, 60, qc ((3 : Int) : Rat)⟩, ⟨b21, 60, qc ((3 : Int) : Rat)⟩, ⟨b14, 62, [.int .i64 5, .int .i64 0, .int .i64 0, .int .i64 0, .bool (ineg (0 : Rat).num), .int .u64 (lo (iabs (0 : Rat).num)), .string (hi (iabs (0 : Rat).num)), .int .u64 (lo (qd (0 : Rat))), .string (hi (qd (0 : Rat)))]⟩, ⟨b8, 62, [.int .i64 2, .int .i64 0, .int .i64 0, .int .i64 0, .bool (ineg (0 : Rat).num), .int .u64 (lo (iabs (0 : Rat).num)), .string (hi (iabs (0 : Rat).num)), .int .u64 (lo (qd (0 : Rat))), .string (hi (qd (0 : Rat)))]⟩, ⟨b4, 60, (([((3 : Int) : Rat), ((9 : Int) : Rat)] : List Rat)).flatMap qc⟩, ⟨b1, 30, [.int .i64 1, .slice A 2 c, .slice O 1 d]⟩] []
  refine cN ?_
  refine cSL ?_
  refine lS hs [(23, .bool false, [])] ?_
  refine lN ?_
  refine cTo [(1, .slice X 1 cx), (2, .bool true), (6, .slice none 0 0), (7, .int .i64 0), (8, .slice (some ⟨b4, 0, none⟩) 2 2), (20, .slice A 2 c), (21, .int .i64 2), (22, .int .i64 2), (23, .bool false), (24, .int .i64 1), (25, .pointer (some ⟨(aB A), aO A + 1 * 9, none⟩)), (26, .agg #[.int .i64 5, .int .i64 0, .int .i64 0, .int .i64 0, .bool (ineg (0 : Rat).num), .int .u64 (lo (iabs (0 : Rat).num)), .string (hi (iabs (0 : Rat).num)), .int .u64 (lo (qd (0 : Rat))), .string (hi (qd (0 : Rat)))]), (10, .pointer (some ⟨b14, 0, none⟩)), (9, .int .i64 1), (27, .pointer (some ⟨b14, 0, none⟩)), (28, .int .i64 5), (29, .bool false), (30, .slice (some ⟨b4, 0, none⟩) 2 2), (31, .int .i64 0), (32, .slice X 1 cx), (33, .pointer (some ⟨b8, 3, none⟩)), (34, .int .i64 0), (35, .pointer (some ⟨(aB X), aO X + 0 * 5, none⟩)), (36, qv ((3 : Int) : Rat)), (37, .pointer (some ⟨b4, 0 + 0 * 5, none⟩)), (68, .int .i64 2), (38, .slice (some ⟨b4, 0, none⟩) 2 2), (39, .pointer (some ⟨b14, 1, none⟩)), (40, .int .i64 0), (41, .pointer (some ⟨b4, 0 + 0 * 5, none⟩)), (42, qv ((3 : Int) : Rat)), (43, .slice (some ⟨b4, 0, none⟩) 2 2), (44, .pointer (some ⟨b14, 2, none⟩)), (45, .int .i64 0), (46, .pointer (some ⟨b4, 0 + 0 * 5, none⟩)), (47, qv ((3 : Int) : Rat)), (12, .pointer (some ⟨b21, 0, none⟩)), (11, .pointer (some ⟨b20, 0, none⟩)), (49, .agg #[.int .i64 5, .int .i64 0, .int .i64 0, .int .i64 0, .bool (ineg (0 : Rat).num), .int .u64 (lo (iabs (0 : Rat).num)), .string (hi (iabs (0 : Rat).num)), .int .u64 (lo (qd (0 : Rat))), .string (hi (qd (0 : Rat)))]), (50, qv ((3 : Int) : Rat)), (51, qv ((3 : Int) : Rat)), (52, .tuple #[qv ((9 : Int) : Rat), .bool true]), (48, .tuple #[qv ((9 : Int) : Rat), .bool true]), (53, qv ((9 : Int) : Rat)), (54, .bool true), (13, .pointer (some ⟨b28, 0, none⟩)), (14, .bool true), (55, .bool true), (56, .bool false), (57, .bool true), (58, .bool true), (59, .agg #[.int .i64 5, .int .i64 0, .int .i64 0, .int .i64 0, .bool (ineg (0 : Rat).num), .int .u64 (lo (iabs (0 : Rat).num)), .string (hi (iabs (0 : Rat).num)), .int .u64 (lo (qd (0 : Rat))), .string (hi (qd (0 : Rat)))]), (60, qv ((3 : Int) : Rat)), (61, qv ((3 : Int) : Rat)), (62, .bool false), (63, .bool false), (64, .slice (some ⟨b4, 0, none⟩) 2 2), (65, .int .i64 1), (66, qv ((9 : Int) : Rat)), (67, .pointer (some ⟨b4, 0 + 1 * 5, none⟩))] ?_
  refine CG.seq ?_
  refine cIF ?_
  refine CG.exit ?_
  show CG _ _ _ _ _ _ _ _
  refine cTo [(6, .slice none 0 0), (7, .int .i64 0), (8, .slice (some ⟨b4, 0, none⟩) 2 2)] ?_
  refine cSL ?_
  refine lS hs [(69, .slice (some ⟨b4, 0, none⟩) 2 2, []), (6, .slice (some ⟨b4, 0, none⟩) 2 2, []), (7, .int .i64 0, [])] ?_
  refine lN ?_
  refine CG.ret ?_
  have hle : (([((3 : Int) : Rat), ((9 : Int) : Rat)] : List Rat) : List Rat) = [((3 : Int) : Rat), ((9 : Int) : Rat)] := by decide +kernel
  obtain ⟨h36, hs, sg37, lo38, bc39⟩ := hs.pub 5
  replace hs := (hs.to [⟨b28, 60, qc ((9 : Int) : Rat)⟩, ⟨b20, 60, qc ((3 : Int) : Rat)⟩, ⟨b21, 60, qc ((3 : Int) : Rat)⟩, ⟨b14, 62, [.int .i64 5, .int .i64 0, .int .i64 0, .int .i64 0, .bool (ineg (0 : Rat).num), .int .u64 (lo (iabs (0 : Rat).num)), .string (hi (iabs (0 : Rat).num)), .int .u64 (lo (qd (0 : Rat))), .string (hi (qd (0 : Rat)))]⟩, ⟨b8, 62, [.int .i64 2, .int .i64 0, .int .i64 0, .int .i64 0, .bool (ineg (0 : Rat).num), .int .u64 (lo (iabs (0 : Rat).num)), .string (hi (iabs (0 : Rat).num)), .int .u64 (lo (qd (0 : Rat))), .string (hi (qd (0 : Rat)))]⟩, ⟨b1, 30, [.int .i64 1, .slice A 2 c, .slice O 1 d]⟩] []).a_SlO (SlO.of_flat (sz := 5) (f := qc) (d := 0) (b := b4) (o := 0) (l := ([((3 : Int) : Rat), ((9 : Int) : Rat)] : List Rat)) (fun _ => rfl) sg37)
  have hfin := (hs.f.1)
  rw [hle] at hfin
  exact hs.ret [] (.tuple #[.slice (some ⟨b4, 0, none⟩) 2 2, .int .i64 0]) (⟨_, rfl, hfin⟩)

set_option maxRecDepth 100000 in
set_option maxHeartbeats 600000 in
theorem tBackS (A : Option Addr) (c : Nat) (O : Option Addr) (d : Nat) (X : Option Addr) (cx : Nat) (Y : Option Addr) (cy : Nat) (w : World) (h : Hp) (g : G w h) (hA : SlO 9 stc stp0 h A [sqN, sqM]) (hO : SlO 1 i64c 0 h O [1]) (hX : SlO 5 qc 0 h X [((3 : Int) : Rat)]) (hY : SlO 5 qc 0 h Y [((1 : Int) : Rat)]) :
    Calls Tryz.prog 16 #[.agg #[.int .i64 1, .slice A 2 c, .slice O 1 d], .slice X 1 cx, .slice Y 1 cy] w (Ret w h fun v h1 => ∃ A1 A2, v = .tuple #[.slice A1 1 1, .slice A2 1 1, .int .i64 0] ∧ SlO 5 qc 0 h1 A1 [((9 : Int) : Rat)] ∧ SlO 5 qc 0 h1 A2 [((6 : Int) : Rat)]) := by
  have hs := SS.start g
  replace hs := ((((hs.a_SlO hA).a_SlO hO).a_SlO hX).a_SlO hY)
  have hln : [sqN, sqM].length = 2 := rfl
  have hlo : [(1 : Int)].length = 1 := rfl
  have hlx : [((3 : Int) : Rat)].length = 1 := rfl
  have hly : [((1 : Int) : Rat)].length = 1 := rfl
  refine go Tryz.func16 [(0, .agg #[.int .i64 1, .slice A 2 c, .slice O 1 d]), (1, .slice X 1 cx), (2, .slice Y 1 cy)] rfl ?_
  refine cSL ?_
  refine lA 3 30 ([.int .i64 1, .slice A 2 c, .slice O 1 d]) hs (fun b1 w2 h3 hs => ?_)
  refine lS hs [(6, .slice none 0 0, []), (7, .slice none 0 0, []), (8, .int .i64 0, [])] ?_
  refine lN ?_
  refine CG.seq ?_
  refine cSL ?_
  refine lS hs [(17, .agg #[.int .i64 1, .slice A 2 c, .slice O 1 d], [(0, 0, 3)])] ?_
  refine lC 18 hs (tCheck 1 A c [sqN, sqM] O d [1] (by decide) (by decide) sqSm _ _ hs.g (hs.f.2.2.2.1) (hs.f.2.2.1)) ?_
  rintro _ w4 h5 hs rfl
  refine lS hs [(19, .bool false, [])] ?_
  refine lN ?_
  refine cIF ?_
  refine CG.skipN ?_
  refine CG.seq ?_
  refine cSL ?_
  refine lS hs [(20, .slice X 1 cx, []), (21, .int .i64 1, []), (22, .pointer (some ⟨b1, 0, none⟩), []), (23, .int .i64 1, [(0, 0, 1)]), (24, .bool false, []), (25, .bool false, []), (26, .slice Y 1 cy, []), (27, .int .i64 1, []), (28, .pointer (some ⟨b1, 2, none⟩), []), (29, .slice O 1 d, [(0, 2, 1)]), (30, .int .i64 1, []), (31, .bool false, []), (32, .bool false, [])] ?_
  refine lN ?_
  refine cTo [(1, .slice X 1 cx), (2, .slice Y 1 cy), (3, .pointer (some ⟨b1, 0, none⟩)), (6, .slice none 0 0), (7, .slice none 0 0), (8, .int .i64 0), (32, .bool false)] ?_
  refine cIF ?_
  refine CG.skipN ?_
  refine cSL ?_
  refine lS hs [(34, .agg #[.int .i64 1, .slice A 2 c, .slice O 1 d], [(0, 0, 3)]), (35, .slice X 1 cx, [])] ?_
  refine lC 36 hs (tValuesS A c O d X cx _ _ hs.g (hs.f.2.2.2.1) (hs.f.2.2.1) (hs.f.2.1)) ?_
  rintro _ w6 h7 hs ⟨Av, rfl, hAv⟩
  replace hs := (hs.a_SlO hAv)
  have hlv : [((3 : Int) : Rat), ((9 : Int) : Rat)].length = 2 := rfl
  refine lS hs [(33, .tuple #[.slice Av 2 2, .int .i64 0], []), (37, .slice Av 2 2, []), (38, .int .i64 0, []), (9, .slice Av 2 2, []), (8, .int .i64 0, [])] ?_
  refine lN ?_
  refine CG.seq ?_
  refine cSL ?_
  refine lS hs [(39, .int .i64 0, []), (40, .bool false, [])] ?_
  refine lN ?_
  refine cIF ?_
  refine CG.skipN ?_
  refine cSL ?_
  refine lS hs [(42, .pointer (some ⟨b1, 0, none⟩), []), (43, .int .i64 1, [(0, 0, 1)])] ?_
  refine lK 44 60 1 5 56 (.agg #[.bool false, .int .u64 0, .string (⟨#[]⟩), .int .u64 0, .string (⟨#[]⟩)]) qc 0 hs (fun b8 w9 h10 hs => ?_)
  have hl11 : (List.replicate 1 0).length = 1 := by simp
  replace hs := hs.to [⟨b8, 60, (([0] : List Rat)).flatMap qc⟩, ⟨b1, 30, [.int .i64 1, .slice A 2 c, .slice O 1 d]⟩] []
  refine lS hs [(7, .slice (some ⟨b8, 0, none⟩) 1 1, [])] ?_
  refine lN ?_
  refine cTo [(2, .slice Y 1 cy), (3, .pointer (some ⟨b1, 0, none⟩)), (6, .slice none 0 0), (7, .slice (some ⟨b8, 0, none⟩) 1 1), (8, .int .i64 0), (9, .slice Av 2 2)] ?_
  refine cSL ?_
  refine lS hs [(45, .pointer (some ⟨b1, 1, none⟩), []), (46, .slice A 2 c, [(1, 1, 1)]), (47, .int .i64 2, [])] ?_
  refine lK 48 60 2 5 56 (.agg #[.bool false, .int .u64 0, .string (⟨#[]⟩), .int .u64 0, .string (⟨#[]⟩)]) qc 0 hs (fun b12 w13 h14 hs => ?_)
  have hl15 : (List.replicate 2 0).length = 2 := by simp
  replace hs := hs.to [⟨b12, 60, (([0, 0] : List Rat)).flatMap qc⟩, ⟨b8, 60, (([0] : List Rat)).flatMap qc⟩, ⟨b1, 30, [.int .i64 1, .slice A 2 c, .slice O 1 d]⟩] []
  refine lS hs [(10, .slice (some ⟨b12, 0, none⟩) 2 2, [])] ?_
  refine lN ?_
  refine CG.seq ?_
  refine cSL ?_
  refine lS hs [(49, .pointer (some ⟨b1, 2, none⟩), []), (50, .slice O 1 d, [(2, 2, 1)]), (51, .int .i64 1, []), (52, .int .i64 0, [])] ?_
  refine lN ?_
  refine CG.block ?_
  refine cU ?_
  refine cN ?_
  refine cSL ?_
  refine lS hs [(53, .bool true, [])] ?_
  refine lN ?_
  refine CG.seq ?_
  refine cIT ?_
  refine CG.skipN ?_
  refine CG.seq ?_
  refine CG.block ?_
  refine cSL ?_
  refine lS hs [(54, .int .i64 0, [])] ?_
  refine lX 55 O 1 d 1 0 0 ((hs.f.2.2.2.1).ok (by omega)) ?_
  refine lH 56 (.int .i64 1) hs ((hs.f.2.2.2.1).el 0 (by omega)) ?_
  refine lS hs [(11, .int .i64 0, []), (12, .int .i64 1, [])] ?_
  refine lN ?_
  refine cR 11 [] mixed hs al_nil ?_
  refine eV 0 57 (.slice (some ⟨b12, 0, none⟩) 2 2) ?_
  refine eV 1 58 (.int .i64 1) ?_
  refine eV 2 59 (.slice (some ⟨b12, 0, none⟩) 2 2) ?_
  refine eV 3 60 (.int .i64 1) ?_
  refine eX 4 61 (some ⟨b12, 0, none⟩) 2 2 5 1 1 rfl ?_
  refine eQ 5 62 0 ([0, 0] : List Rat) qc 5 0 1 (qv 0) hs (by decide) ?_
  refine eV 6 63 (.slice Y 1 cy) ?_
  refine eV 7 64 (.int .i64 0) ?_
  refine eX 8 65 Y 1 cy 5 0 0 ((hs.f.2.1).ok (by omega)) ?_
  refine eH 9 66 (qv ((1 : Int) : Rat)) hs ((hs.f.2.1).el 0 (by omega)) ?_
  refine eC 10 67 hs (fun _ _ hs => Ret.of_ext hs.g (cAddE (0) (((1 : Int) : Rat)) (((1 : Int) : Rat)) (by decide +kernel) (by decide +kernel) (by decide +kernel) _)) ?_
  rintro _ _ _ w16 h17 hs rfl
  refine eD0 hs (fun w18 h19 hs => ?_)
  refine tX 11 68 (some ⟨b12, 0, none⟩) 2 2 5 1 1 rfl ?_
  refine tW 12 0 ([0, 0] : List Rat) qc 5 1 ((1 : Int) : Rat) hs (by decide) (fun w20 hs => ?_)
  have hl21 : (([0, ((1 : Int) : Rat)] : List Rat)).length = 2 := rfl
  replace hs := hs.to [⟨b12, 60, (([0, ((1 : Int) : Rat)] : List Rat)).flatMap qc⟩, ⟨b8, 60, (([0] : List Rat)).flatMap qc⟩, ⟨b1, 30, [.int .i64 1, .slice A 2 c, .slice O 1 d]⟩] []
  refine tN ?_
  refine cTo [(2, .slice Y 1 cy), (3, .pointer (some ⟨b1, 0, none⟩)), (6, .slice none 0 0), (7, .slice (some ⟨b8, 0, none⟩) 1 1), (8, .int .i64 0), (9, .slice Av 2 2), (10, .slice (some ⟨b12, 0, none⟩) 2 2), (50, .slice O 1 d), (51, .int .i64 1), (52, .int .i64 0), (53, .bool true), (54, .int .i64 0), (55, .pointer (some ⟨(aB O), aO O + 0 * 1, none⟩)), (56, .int .i64 1), (11, .int .i64 0), (12, .int .i64 1), (57, .slice (some ⟨b12, 0, none⟩) 2 2), (58, .int .i64 1), (59, .slice (some ⟨b12, 0, none⟩) 2 2), (60, .int .i64 1), (61, .pointer (some ⟨b12, 0 + 1 * 5, none⟩)), (62, qv 0), (63, .slice Y 1 cy), (64, .int .i64 0), (65, .pointer (some ⟨(aB Y), aO Y + 0 * 5, none⟩)), (66, qv ((1 : Int) : Rat)), (67, qv ((1 : Int) : Rat)), (68, .pointer (some ⟨b12, 0 + 1 * 5, none⟩))] ?_
  refine CG.listed ?_
  refine lS hs [(69, .int .i64 1, []), (52, .int .i64 1, [])] ?_
  refine lD ?_
  refine CL.to [(2, .slice Y 1 cy), (3, .pointer (some ⟨b1, 0, none⟩)), (6, .slice none 0 0), (7, .slice (some ⟨b8, 0, none⟩) 1 1), (8, .int .i64 0), (9, .slice Av 2 2), (10, .slice (some ⟨b12, 0, none⟩) 2 2), (50, .slice O 1 d), (51, .int .i64 1), (52, .int .i64 1), (53, .bool true), (54, .int .i64 0), (55, .pointer (some ⟨(aB O), aO O + 0 * 1, none⟩)), (56, .int .i64 1), (11, .int .i64 0), (12, .int .i64 1), (57, .slice (some ⟨b12, 0, none⟩) 2 2), (58, .int .i64 1), (59, .slice (some ⟨b12, 0, none⟩) 2 2), (60, .int .i64 1), (61, .pointer (some ⟨b12, 0 + 1 * 5, none⟩)), (62, qv 0), (63, .slice Y 1 cy), (64, .int .i64 0), (65, .pointer (some ⟨(aB Y), aO Y + 0 * 5, none⟩)), (66, qv ((1 : Int) : Rat)), (67, qv ((1 : Int) : Rat)), (68, .pointer (some ⟨b12, 0 + 1 * 5, none⟩)), (69, .int .i64 1)] ?_
  replace hs := hs.to [⟨b12, 60, (([0, ((1 : Int) : Rat)] : List Rat)).flatMap qc⟩, ⟨b8, 60, (([0] : List Rat)).flatMap qc⟩, ⟨b1, 30, [.int .i64 1, .slice A 2 c, .slice O 1 d]⟩] []
  refine cN ?_
  refine cSL ?_
  refine lS hs [(53, .bool false, [])] ?_
  refine lN ?_
  refine cTo [(2, .slice Y 1 cy), (3, .pointer (some ⟨b1, 0, none⟩)), (6, .slice none 0 0), (7, .slice (some ⟨b8, 0, none⟩) 1 1), (8, .int .i64 0), (9, .slice Av 2 2), (10, .slice (some ⟨b12, 0, none⟩) 2 2), (50, .slice O 1 d), (51, .int .i64 1), (52, .int .i64 1), (53, .bool false), (54, .int .i64 0), (55, .pointer (some ⟨(aB O), aO O + 0 * 1, none⟩)), (56, .int .i64 1), (11, .int .i64 0), (12, .int .i64 1), (57, .slice (some ⟨b12, 0, none⟩) 2 2), (58, .int .i64 1), (59, .slice (some ⟨b12, 0, none⟩) 2 2), (60, .int .i64 1), (61, .pointer (some ⟨b12, 0 + 1 * 5, none⟩)), (62, qv 0), (63, .slice Y 1 cy), (64, .int .i64 0), (65, .pointer (some ⟨(aB Y), aO Y + 0 * 5, none⟩)), (66, qv ((1 : Int) : Rat)), (67, qv ((1 : Int) : Rat)), (68, .pointer (some ⟨b12, 0 + 1 * 5, none⟩)), (69, .int .i64 1)] ?_
  refine CG.seq ?_
  refine cIF ?_
  refine CG.exit ?_
  show CG _ _ _ _ _ _ _ _
  refine cTo [(3, .pointer (some ⟨b1, 0, none⟩)), (6, .slice none 0 0), (7, .slice (some ⟨b8, 0, none⟩) 1 1), (8, .int .i64 0), (9, .slice Av 2 2), (10, .slice (some ⟨b12, 0, none⟩) 2 2)] ?_
  refine CG.seq ?_
  refine cSL ?_
  refine lS hs [(70, .pointer (some ⟨b1, 1, none⟩), []), (71, .slice A 2 c, [(2, 1, 1)]), (72, .int .i64 2, []), (73, .int .i64 1, []), (13, .int .i64 1, [])] ?_
  refine lN ?_
  refine CG.block ?_
  refine cU ?_
  refine cN ?_
  refine CG.seq ?_
  refine cSL ?_
  refine lS hs [(74, .int .i64 1, []), (75, .bool true, [])] ?_
  refine lN ?_
  refine cIT ?_
  refine CG.skipN ?_
  refine CG.seq ?_
  refine CG.block ?_
  refine cSL ?_
  refine lS hs [(78, .pointer (some ⟨b1, 1, none⟩), []), (79, .slice A 2 c, [(2, 1, 1)]), (80, .int .i64 1, [])] ?_
  refine lX 81 A 2 c 9 1 1 ((hs.f.2.2.2.2.1).ok (by omega)) ?_
  refine lH 82 (.agg #[.int .i64 5, .int .i64 0, .int .i64 0, .int .i64 0, .bool (ineg (0 : Rat).num), .int .u64 (lo (iabs (0 : Rat).num)), .string (hi (iabs (0 : Rat).num)), .int .u64 (lo (qd (0 : Rat))), .string (hi (qd (0 : Rat)))]) hs ((hs.f.2.2.2.2.1).el 1 (by omega)) ?_
  refine lA 14 62 ([.int .i64 0, .int .i64 0, .int .i64 0, .int .i64 0, .bool false, .int .u64 0, .string (⟨#[]⟩), .int .u64 0, .string (⟨#[]⟩)]) hs (fun b22 w23 h24 hs => ?_)
  refine lP 0 0 ([.int .i64 5, .int .i64 0, .int .i64 0, .int .i64 0, .bool (ineg (0 : Rat).num), .int .u64 (lo (iabs (0 : Rat).num)), .string (hi (iabs (0 : Rat).num)), .int .u64 (lo (qd (0 : Rat))), .string (hi (qd (0 : Rat)))]) hs (fun w25 hs => ?_)
  refine lN ?_
  refine CG.seq ?_
  refine cSL ?_
  refine lS hs [(83, .slice (some ⟨b12, 0, none⟩) 2 2, []), (84, .int .i64 1, [])] ?_
  refine lX 85 (some ⟨b12, 0, none⟩) 2 2 5 1 1 rfl ?_
  refine lQ 86 1 ([0, ((1 : Int) : Rat)] : List Rat) qc 5 0 1 (qv ((1 : Int) : Rat)) hs (by decide) ?_
  refine lC 87 hs (Ret.of_ext hs.g (cSignE (((1 : Int) : Rat)) 1 (by decide +kernel) (by decide +kernel) _)) ?_
  rintro _ w26 h27 hs rfl
  refine lS hs [(88, .bool false, [])] ?_
  refine lN ?_
  refine cTo [(3, .pointer (some ⟨b1, 0, none⟩)), (6, .slice none 0 0), (7, .slice (some ⟨b8, 0, none⟩) 1 1), (8, .int .i64 0), (9, .slice Av 2 2), (10, .slice (some ⟨b12, 0, none⟩) 2 2), (13, .int .i64 1), (74, .int .i64 1), (75, .bool true), (78, .pointer (some ⟨b1, 1, none⟩)), (79, .slice A 2 c), (80, .int .i64 1), (81, .pointer (some ⟨(aB A), aO A + 1 * 9, none⟩)), (82, .agg #[.int .i64 5, .int .i64 0, .int .i64 0, .int .i64 0, .bool (ineg (0 : Rat).num), .int .u64 (lo (iabs (0 : Rat).num)), .string (hi (iabs (0 : Rat).num)), .int .u64 (lo (qd (0 : Rat))), .string (hi (qd (0 : Rat)))]), (14, .pointer (some ⟨b22, 0, none⟩)), (83, .slice (some ⟨b12, 0, none⟩) 2 2), (84, .int .i64 1), (85, .pointer (some ⟨b12, 0 + 1 * 5, none⟩)), (86, qv ((1 : Int) : Rat)), (87, .int .i64 1), (88, .bool false)] ?_
  refine cIF ?_
  refine CG.skipN ?_
  refine CG.seq ?_
  refine cSL ?_
  refine lS hs [(89, .pointer (some ⟨b22, 0, none⟩), []), (90, .int .i64 5, [(0, 0, 1)]), (91, .bool false, [])] ?_
  refine lN ?_
  refine cIF ?_
  refine CG.skipN ?_
  refine CG.seq ?_
  have hsr := hs
  refine cR 17 [⟨15, 15, .cells (List.toArray [.bool false, .int .u64 0, .string (⟨#[]⟩), .int .u64 0, .string (⟨#[]⟩)]) 60 (0, 0)⟩, ⟨16, 16, .cells (List.toArray [.bool false, .int .u64 0, .string (⟨#[]⟩), .int .u64 0, .string (⟨#[]⟩)]) 60 (0, 0)⟩] mixed hs (al_cons (alOk (by kernel_rfl) (fun _ _ => by kernel_rfl)) (al_cons (alOk (by kernel_rfl) (fun _ _ => by kernel_rfl)) al_nil)) ?_
  refine eO 0 107 [(0, 0, 9)] (.agg #[.int .i64 5, .int .i64 0, .int .i64 0, .int .i64 0, .bool (ineg (0 : Rat).num), .int .u64 (lo (iabs (0 : Rat).num)), .string (hi (iabs (0 : Rat).num)), .int .u64 (lo (qd (0 : Rat))), .string (hi (qd (0 : Rat)))]) hs ?_
  refine eV 1 108 (.slice Av 2 2) ?_
  refine eV 2 109 (.pointer (some ⟨b22, 1, none⟩)) ?_
  refine eO 3 110 [(0, 1, 1)] (.int .i64 0) hs ?_
  refine eX 4 111 Av 2 2 5 0 0 ((hs.f.1).ok (by omega)) ?_
  refine eH 5 112 (qv ((3 : Int) : Rat)) hs ((hs.f.1).el 0 (by omega)) ?_
  refine eV 6 113 (.slice Av 2 2) ?_
  refine eV 7 114 (.pointer (some ⟨b22, 2, none⟩)) ?_
  refine eO 8 115 [(0, 2, 1)] (.int .i64 0) hs ?_
  refine eX 9 116 Av 2 2 5 0 0 ((hs.f.1).ok (by omega)) ?_
  refine eH 10 117 (qv ((3 : Int) : Rat)) hs ((hs.f.1).el 0 (by omega)) ?_
  refine eC 11 118 hs (fun _ _ hs => tSlopesM (((3 : Int) : Rat)) (((3 : Int) : Rat)) _ _ hs.g) ?_
  rintro _ _ _ w28 h29 hs rfl
  refine eV 12 106 (.tuple #[qv ((3 : Int) : Rat), qv ((3 : Int) : Rat)]) ?_
  refine eV 13 119 (qv ((3 : Int) : Rat)) ?_
  refine eV 14 120 (qv ((3 : Int) : Rat)) ?_
  refine eD2 hsr hs 60 [.bool false, .int .u64 0, .string (⟨#[]⟩), .int .u64 0, .string (⟨#[]⟩)] 60 [.bool false, .int .u64 0, .string (⟨#[]⟩), .int .u64 0, .string (⟨#[]⟩)] (fun w30 h31 b32 b33 hs => ?_)
  refine tP 17 0 0 (qc ((3 : Int) : Rat)) hs (fun w34 hs => ?_)
  refine tP 18 1 0 (qc ((3 : Int) : Rat)) hs (fun w35 hs => ?_)
  refine tN ?_
  refine cTo [(3, .pointer (some ⟨b1, 0, none⟩)), (6, .slice none 0 0), (7, .slice (some ⟨b8, 0, none⟩) 1 1), (8, .int .i64 0), (9, .slice Av 2 2), (10, .slice (some ⟨b12, 0, none⟩) 2 2), (13, .int .i64 1), (74, .int .i64 1), (75, .bool true), (78, .pointer (some ⟨b1, 1, none⟩)), (79, .slice A 2 c), (80, .int .i64 1), (81, .pointer (some ⟨(aB A), aO A + 1 * 9, none⟩)), (82, .agg #[.int .i64 5, .int .i64 0, .int .i64 0, .int .i64 0, .bool (ineg (0 : Rat).num), .int .u64 (lo (iabs (0 : Rat).num)), .string (hi (iabs (0 : Rat).num)), .int .u64 (lo (qd (0 : Rat))), .string (hi (qd (0 : Rat)))]), (14, .pointer (some ⟨b22, 0, none⟩)), (83, .slice (some ⟨b12, 0, none⟩) 2 2), (84, .int .i64 1), (85, .pointer (some ⟨b12, 0 + 1 * 5, none⟩)), (86, qv ((1 : Int) : Rat)), (87, .int .i64 1), (88, .bool false), (89, .pointer (some ⟨b22, 0, none⟩)), (90, .int .i64 5), (91, .bool false), (107, .agg #[.int .i64 5, .int .i64 0, .int .i64 0, .int .i64 0, .bool (ineg (0 : Rat).num), .int .u64 (lo (iabs (0 : Rat).num)), .string (hi (iabs (0 : Rat).num)), .int .u64 (lo (qd (0 : Rat))), .string (hi (qd (0 : Rat)))]), (108, .slice Av 2 2), (109, .pointer (some ⟨b22, 1, none⟩)), (110, .int .i64 0), (111, .pointer (some ⟨(aB Av), aO Av + 0 * 5, none⟩)), (112, qv ((3 : Int) : Rat)), (113, .slice Av 2 2), (114, .pointer (some ⟨b22, 2, none⟩)), (115, .int .i64 0), (116, .pointer (some ⟨(aB Av), aO Av + 0 * 5, none⟩)), (117, qv ((3 : Int) : Rat)), (118, .tuple #[qv ((3 : Int) : Rat), qv ((3 : Int) : Rat)]), (106, .tuple #[qv ((3 : Int) : Rat), qv ((3 : Int) : Rat)]), (119, qv ((3 : Int) : Rat)), (120, qv ((3 : Int) : Rat)), (16, .pointer (some ⟨b33, 0, none⟩)), (15, .pointer (some ⟨b32, 0, none⟩))] ?_
  refine CG.seq ?_
  refine cSL ?_
  refine lS hs [(121, .pointer (some ⟨b22, 0, none⟩), []), (122, .int .i64 5, [(2, 0, 1)])] ?_
  refine lC 123 hs (tArity 5 _ _ hs.g) ?_
  rintro _ w36 h37 hs rfl
  refine lS hs [(124, .bool true, [])] ?_
  refine lN ?_
  refine cTo [(3, .pointer (some ⟨b1, 0, none⟩)), (6, .slice none 0 0), (7, .slice (some ⟨b8, 0, none⟩) 1 1), (8, .int .i64 0), (9, .slice Av 2 2), (10, .slice (some ⟨b12, 0, none⟩) 2 2), (13, .int .i64 1), (74, .int .i64 1), (75, .bool true), (78, .pointer (some ⟨b1, 1, none⟩)), (79, .slice A 2 c), (80, .int .i64 1), (81, .pointer (some ⟨(aB A), aO A + 1 * 9, none⟩)), (82, .agg #[.int .i64 5, .int .i64 0, .int .i64 0, .int .i64 0, .bool (ineg (0 : Rat).num), .int .u64 (lo (iabs (0 : Rat).num)), .string (hi (iabs (0 : Rat).num)), .int .u64 (lo (qd (0 : Rat))), .string (hi (qd (0 : Rat)))]), (14, .pointer (some ⟨b22, 0, none⟩)), (83, .slice (some ⟨b12, 0, none⟩) 2 2), (84, .int .i64 1), (85, .pointer (some ⟨b12, 0 + 1 * 5, none⟩)), (86, qv ((1 : Int) : Rat)), (87, .int .i64 1), (88, .bool false), (89, .pointer (some ⟨b22, 0, none⟩)), (90, .int .i64 5), (91, .bool false), (107, .agg #[.int .i64 5, .int .i64 0, .int .i64 0, .int .i64 0, .bool (ineg (0 : Rat).num), .int .u64 (lo (iabs (0 : Rat).num)), .string (hi (iabs (0 : Rat).num)), .int .u64 (lo (qd (0 : Rat))), .string (hi (qd (0 : Rat)))]), (108, .slice Av 2 2), (109, .pointer (some ⟨b22, 1, none⟩)), (110, .int .i64 0), (111, .pointer (some ⟨(aB Av), aO Av + 0 * 5, none⟩)), (112, qv ((3 : Int) : Rat)), (113, .slice Av 2 2), (114, .pointer (some ⟨b22, 2, none⟩)), (115, .int .i64 0), (116, .pointer (some ⟨(aB Av), aO Av + 0 * 5, none⟩)), (117, qv ((3 : Int) : Rat)), (118, .tuple #[qv ((3 : Int) : Rat), qv ((3 : Int) : Rat)]), (106, .tuple #[qv ((3 : Int) : Rat), qv ((3 : Int) : Rat)]), (119, qv ((3 : Int) : Rat)), (120, qv ((3 : Int) : Rat)), (16, .pointer (some ⟨b33, 0, none⟩)), (15, .pointer (some ⟨b32, 0, none⟩)), (121, .pointer (some ⟨b22, 0, none⟩)), (122, .int .i64 5), (123, .int .i64 2), (124, .bool true)] ?_
  refine cIT ?_
  refine cR 15 [] mixed hs al_nil ?_
  refine eV 0 125 (.slice (some ⟨b12, 0, none⟩) 2 2) ?_
  refine eV 1 126 (.pointer (some ⟨b22, 1, none⟩)) ?_
  refine eO 2 127 [(2, 1, 1)] (.int .i64 0) hs ?_
  refine eV 3 128 (.slice (some ⟨b12, 0, none⟩) 2 2) ?_
  refine eV 4 129 (.pointer (some ⟨b22, 1, none⟩)) ?_
  refine eO 5 130 [(2, 1, 1)] (.int .i64 0) hs ?_
  refine eX 6 131 (some ⟨b12, 0, none⟩) 2 2 5 0 0 rfl ?_
  refine eQ 7 132 3 ([0, ((1 : Int) : Rat)] : List Rat) qc 5 0 0 (qv 0) hs (by decide) ?_
  refine eV 8 133 (.slice (some ⟨b12, 0, none⟩) 2 2) ?_
  refine eV 9 134 (.int .i64 1) ?_
  refine eX 10 135 (some ⟨b12, 0, none⟩) 2 2 5 1 1 rfl ?_
  refine eQ 11 136 3 ([0, ((1 : Int) : Rat)] : List Rat) qc 5 0 1 (qv ((1 : Int) : Rat)) hs (by decide) ?_
  refine eO 12 137 [(0, 0, 5)] (qv ((3 : Int) : Rat)) hs ?_
  refine eC 13 138 hs (fun _ _ hs => Ret.of_ext hs.g (cMulE (((1 : Int) : Rat)) (((3 : Int) : Rat)) (((3 : Int) : Rat)) (by decide +kernel) (by decide +kernel) (by decide +kernel) _)) ?_
  rintro _ _ _ w38 h39 hs rfl
  refine eC 14 139 hs (fun _ _ hs => Ret.of_ext hs.g (cAddE (0) (((3 : Int) : Rat)) (((3 : Int) : Rat)) (by decide +kernel) (by decide +kernel) (by decide +kernel) _)) ?_
  rintro _ _ _ w40 h41 hs rfl
  refine eD0 hs (fun w42 h43 hs => ?_)
  refine tX 15 140 (some ⟨b12, 0, none⟩) 2 2 5 0 0 rfl ?_
  refine tW 16 3 ([0, ((1 : Int) : Rat)] : List Rat) qc 5 0 ((3 : Int) : Rat) hs (by decide) (fun w44 hs => ?_)
  have hl45 : (([((3 : Int) : Rat), ((1 : Int) : Rat)] : List Rat)).length = 2 := rfl
  replace hs := hs.to [⟨b32, 60, qc ((3 : Int) : Rat)⟩, ⟨b33, 60, qc ((3 : Int) : Rat)⟩, ⟨b22, 62, [.int .i64 5, .int .i64 0, .int .i64 0, .int .i64 0, .bool (ineg (0 : Rat).num), .int .u64 (lo (iabs (0 : Rat).num)), .string (hi (iabs (0 : Rat).num)), .int .u64 (lo (qd (0 : Rat))), .string (hi (qd (0 : Rat)))]⟩, ⟨b12, 60, (([((3 : Int) : Rat), ((1 : Int) : Rat)] : List Rat)).flatMap qc⟩, ⟨b8, 60, (([0] : List Rat)).flatMap qc⟩, ⟨b1, 30, [.int .i64 1, .slice A 2 c, .slice O 1 d]⟩] []
  refine tN ?_
  refine cTo [(3, .pointer (some ⟨b1, 0, none⟩)), (6, .slice none 0 0), (7, .slice (some ⟨b8, 0, none⟩) 1 1), (8, .int .i64 0), (9, .slice Av 2 2), (10, .slice (some ⟨b12, 0, none⟩) 2 2), (13, .int .i64 1), (74, .int .i64 1), (75, .bool true), (78, .pointer (some ⟨b1, 1, none⟩)), (79, .slice A 2 c), (80, .int .i64 1), (81, .pointer (some ⟨(aB A), aO A + 1 * 9, none⟩)), (82, .agg #[.int .i64 5, .int .i64 0, .int .i64 0, .int .i64 0, .bool (ineg (0 : Rat).num), .int .u64 (lo (iabs (0 : Rat).num)), .string (hi (iabs (0 : Rat).num)), .int .u64 (lo (qd (0 : Rat))), .string (hi (qd (0 : Rat)))]), (14, .pointer (some ⟨b22, 0, none⟩)), (83, .slice (some ⟨b12, 0, none⟩) 2 2), (84, .int .i64 1), (85, .pointer (some ⟨b12, 0 + 1 * 5, none⟩)), (86, qv ((1 : Int) : Rat)), (87, .int .i64 1), (88, .bool false), (89, .pointer (some ⟨b22, 0, none⟩)), (90, .int .i64 5), (91, .bool false), (107, .agg #[.int .i64 5, .int .i64 0, .int .i64 0, .int .i64 0, .bool (ineg (0 : Rat).num), .int .u64 (lo (iabs (0 : Rat).num)), .string (hi (iabs (0 : Rat).num)), .int .u64 (lo (qd (0 : Rat))), .string (hi (qd (0 : Rat)))]), (108, .slice Av 2 2), (109, .pointer (some ⟨b22, 1, none⟩)), (110, .int .i64 0), (111, .pointer (some ⟨(aB Av), aO Av + 0 * 5, none⟩)), (112, qv ((3 : Int) : Rat)), (113, .slice Av 2 2), (114, .pointer (some ⟨b22, 2, none⟩)), (115, .int .i64 0), (116, .pointer (some ⟨(aB Av), aO Av + 0 * 5, none⟩)), (117, qv ((3 : Int) : Rat)), (118, .tuple #[qv ((3 : Int) : Rat), qv ((3 : Int) : Rat)]), (106, .tuple #[qv ((3 : Int) : Rat), qv ((3 : Int) : Rat)]), (119, qv ((3 : Int) : Rat)), (120, qv ((3 : Int) : Rat)), (16, .pointer (some ⟨b33, 0, none⟩)), (15, .pointer (some ⟨b32, 0, none⟩)), (121, .pointer (some ⟨b22, 0, none⟩)), (122, .int .i64 5), (123, .int .i64 2), (124, .bool true), (125, .slice (some ⟨b12, 0, none⟩) 2 2), (126, .pointer (some ⟨b22, 1, none⟩)), (127, .int .i64 0), (128, .slice (some ⟨b12, 0, none⟩) 2 2), (129, .pointer (some ⟨b22, 1, none⟩)), (130, .int .i64 0), (131, .pointer (some ⟨b12, 0 + 0 * 5, none⟩)), (132, qv 0), (133, .slice (some ⟨b12, 0, none⟩) 2 2), (134, .int .i64 1), (135, .pointer (some ⟨b12, 0 + 1 * 5, none⟩)), (136, qv ((1 : Int) : Rat)), (137, qv ((3 : Int) : Rat)), (138, qv ((3 : Int) : Rat)), (139, qv ((3 : Int) : Rat)), (140, .pointer (some ⟨b12, 0 + 0 * 5, none⟩))] ?_
  refine cSL ?_
  refine lS hs [(141, .pointer (some ⟨b22, 0, none⟩), []), (142, .int .i64 5, [(2, 0, 1)])] ?_
  refine lC 143 hs (tArity 5 _ _ hs.g) ?_
  rintro _ w46 h47 hs rfl
  refine lS hs [(144, .bool true, [])] ?_
  refine lN ?_
  refine cTo [(3, .pointer (some ⟨b1, 0, none⟩)), (6, .slice none 0 0), (7, .slice (some ⟨b8, 0, none⟩) 1 1), (8, .int .i64 0), (9, .slice Av 2 2), (10, .slice (some ⟨b12, 0, none⟩) 2 2), (13, .int .i64 1), (74, .int .i64 1), (75, .bool true), (78, .pointer (some ⟨b1, 1, none⟩)), (79, .slice A 2 c), (80, .int .i64 1), (81, .pointer (some ⟨(aB A), aO A + 1 * 9, none⟩)), (82, .agg #[.int .i64 5, .int .i64 0, .int .i64 0, .int .i64 0, .bool (ineg (0 : Rat).num), .int .u64 (lo (iabs (0 : Rat).num)), .string (hi (iabs (0 : Rat).num)), .int .u64 (lo (qd (0 : Rat))), .string (hi (qd (0 : Rat)))]), (14, .pointer (some ⟨b22, 0, none⟩)), (83, .slice (some ⟨b12, 0, none⟩) 2 2), (84, .int .i64 1), (85, .pointer (some ⟨b12, 0 + 1 * 5, none⟩)), (86, qv ((1 : Int) : Rat)), (87, .int .i64 1), (88, .bool false), (89, .pointer (some ⟨b22, 0, none⟩)), (90, .int .i64 5), (91, .bool false), (107, .agg #[.int .i64 5, .int .i64 0, .int .i64 0, .int .i64 0, .bool (ineg (0 : Rat).num), .int .u64 (lo (iabs (0 : Rat).num)), .string (hi (iabs (0 : Rat).num)), .int .u64 (lo (qd (0 : Rat))), .string (hi (qd (0 : Rat)))]), (108, .slice Av 2 2), (109, .pointer (some ⟨b22, 1, none⟩)), (110, .int .i64 0), (111, .pointer (some ⟨(aB Av), aO Av + 0 * 5, none⟩)), (112, qv ((3 : Int) : Rat)), (113, .slice Av 2 2), (114, .pointer (some ⟨b22, 2, none⟩)), (115, .int .i64 0), (116, .pointer (some ⟨(aB Av), aO Av + 0 * 5, none⟩)), (117, qv ((3 : Int) : Rat)), (118, .tuple #[qv ((3 : Int) : Rat), qv ((3 : Int) : Rat)]), (106, .tuple #[qv ((3 : Int) : Rat), qv ((3 : Int) : Rat)]), (119, qv ((3 : Int) : Rat)), (120, qv ((3 : Int) : Rat)), (16, .pointer (some ⟨b33, 0, none⟩)), (15, .pointer (some ⟨b32, 0, none⟩)), (121, .pointer (some ⟨b22, 0, none⟩)), (122, .int .i64 5), (123, .int .i64 2), (124, .bool true), (125, .slice (some ⟨b12, 0, none⟩) 2 2), (126, .pointer (some ⟨b22, 1, none⟩)), (127, .int .i64 0), (128, .slice (some ⟨b12, 0, none⟩) 2 2), (129, .pointer (some ⟨b22, 1, none⟩)), (130, .int .i64 0), (131, .pointer (some ⟨b12, 0 + 0 * 5, none⟩)), (132, qv 0), (133, .slice (some ⟨b12, 0, none⟩) 2 2), (134, .int .i64 1), (135, .pointer (some ⟨b12, 0 + 1 * 5, none⟩)), (136, qv ((1 : Int) : Rat)), (137, qv ((3 : Int) : Rat)), (138, qv ((3 : Int) : Rat)), (139, qv ((3 : Int) : Rat)), (140, .pointer (some ⟨b12, 0 + 0 * 5, none⟩)), (141, .pointer (some ⟨b22, 0, none⟩)), (142, .int .i64 5), (143, .int .i64 2), (144, .bool true)] ?_
  refine cIT ?_
  refine cR 15 [] mixed hs al_nil ?_
  refine eV 0 145 (.slice (some ⟨b12, 0, none⟩) 2 2) ?_
  refine eV 1 146 (.pointer (some ⟨b22, 2, none⟩)) ?_
  refine eO 2 147 [(2, 2, 1)] (.int .i64 0) hs ?_
  refine eV 3 148 (.slice (some ⟨b12, 0, none⟩) 2 2) ?_
  refine eV 4 149 (.pointer (some ⟨b22, 2, none⟩)) ?_
  refine eO 5 150 [(2, 2, 1)] (.int .i64 0) hs ?_
  refine eX 6 151 (some ⟨b12, 0, none⟩) 2 2 5 0 0 rfl ?_
  refine eQ 7 152 3 ([((3 : Int) : Rat), ((1 : Int) : Rat)] : List Rat) qc 5 0 0 (qv ((3 : Int) : Rat)) hs (by decide) ?_
  refine eV 8 153 (.slice (some ⟨b12, 0, none⟩) 2 2) ?_
  refine eV 9 154 (.int .i64 1) ?_
  refine eX 10 155 (some ⟨b12, 0, none⟩) 2 2 5 1 1 rfl ?_
  refine eQ 11 156 3 ([((3 : Int) : Rat), ((1 : Int) : Rat)] : List Rat) qc 5 0 1 (qv ((1 : Int) : Rat)) hs (by decide) ?_
  refine eO 12 157 [(1, 0, 5)] (qv ((3 : Int) : Rat)) hs ?_
  refine eC 13 158 hs (fun _ _ hs => Ret.of_ext hs.g (cMulE (((1 : Int) : Rat)) (((3 : Int) : Rat)) (((3 : Int) : Rat)) (by decide +kernel) (by decide +kernel) (by decide +kernel) _)) ?_
  rintro _ _ _ w48 h49 hs rfl
  refine eC 14 159 hs (fun _ _ hs => Ret.of_ext hs.g (cAddE (((3 : Int) : Rat)) (((3 : Int) : Rat)) (((6 : Int) : Rat)) (by decide +kernel) (by decide +kernel) (by decide +kernel) _)) ?_
  rintro _ _ _ w50 h51 hs rfl
  refine eD0 hs (fun w52 h53 hs => ?_)
  refine tX 15 160 (some ⟨b12, 0, none⟩) 2 2 5 0 0 rfl ?_
  refine tW 16 3 ([((3 : Int) : Rat), ((1 : Int) : Rat)] : List Rat) qc 5 0 ((6 : Int) : Rat) hs (by decide) (fun w54 hs => ?_)
  have hl55 : (([((6 : Int) : Rat), ((1 : Int) : Rat)] : List Rat)).length = 2 := rfl
  replace hs := hs.to [⟨b32, 60, qc ((3 : Int) : Rat)⟩, ⟨b33, 60, qc ((3 : Int) : Rat)⟩, ⟨b22, 62, [.int .i64 5, .int .i64 0, .int .i64 0, .int .i64 0, .bool (ineg (0 : Rat).num), .int .u64 (lo (iabs (0 : Rat).num)), .string (hi (iabs (0 : Rat).num)), .int .u64 (lo (qd (0 : Rat))), .string (hi (qd (0 : Rat)))]⟩, ⟨b12, 60, (([((6 : Int) : Rat), ((1 : Int) : Rat)] : List Rat)).flatMap qc⟩, ⟨b8, 60, (([0] : List Rat)).flatMap qc⟩, ⟨b1, 30, [.int .i64 1, .slice A 2 c, .slice O 1 d]⟩] []
  refine tN ?_
  refine cTo [(3, .pointer (some ⟨b1, 0, none⟩)), (6, .slice none 0 0), (7, .slice (some ⟨b8, 0, none⟩) 1 1), (8, .int .i64 0), (9, .slice Av 2 2), (10, .slice (some ⟨b12, 0, none⟩) 2 2), (13, .int .i64 1), (74, .int .i64 1), (75, .bool true), (78, .pointer (some ⟨b1, 1, none⟩)), (79, .slice A 2 c), (80, .int .i64 1), (81, .pointer (some ⟨(aB A), aO A + 1 * 9, none⟩)), (82, .agg #[.int .i64 5, .int .i64 0, .int .i64 0, .int .i64 0, .bool (ineg (0 : Rat).num), .int .u64 (lo (iabs (0 : Rat).num)), .string (hi (iabs (0 : Rat).num)), .int .u64 (lo (qd (0 : Rat))), .string (hi (qd (0 : Rat)))]), (14, .pointer (some ⟨b22, 0, none⟩)), (83, .slice (some ⟨b12, 0, none⟩) 2 2), (84, .int .i64 1), (85, .pointer (some ⟨b12, 0 + 1 * 5, none⟩)), (86, qv ((1 : Int) : Rat)), (87, .int .i64 1), (88, .bool false), (89, .pointer (some ⟨b22, 0, none⟩)), (90, .int .i64 5), (91, .bool false), (107, .agg #[.int .i64 5, .int .i64 0, .int .i64 0, .int .i64 0, .bool (ineg (0 : Rat).num), .int .u64 (lo (iabs (0 : Rat).num)), .string (hi (iabs (0 : Rat).num)), .int .u64 (lo (qd (0 : Rat))), .string (hi (qd (0 : Rat)))]), (108, .slice Av 2 2), (109, .pointer (some ⟨b22, 1, none⟩)), (110, .int .i64 0), (111, .pointer (some ⟨(aB Av), aO Av + 0 * 5, none⟩)), (112, qv ((3 : Int) : Rat)), (113, .slice Av 2 2), (114, .pointer (some ⟨b22, 2, none⟩)), (115, .int .i64 0), (116, .pointer (some ⟨(aB Av), aO Av + 0 * 5, none⟩)), (117, qv ((3 : Int) : Rat)), (118, .tuple #[qv ((3 : Int) : Rat), qv ((3 : Int) : Rat)]), (106, .tuple #[qv ((3 : Int) : Rat), qv ((3 : Int) : Rat)]), (119, qv ((3 : Int) : Rat)), (120, qv ((3 : Int) : Rat)), (16, .pointer (some ⟨b33, 0, none⟩)), (15, .pointer (some ⟨b32, 0, none⟩)), (121, .pointer (some ⟨b22, 0, none⟩)), (122, .int .i64 5), (123, .int .i64 2), (124, .bool true), (125, .slice (some ⟨b12, 0, none⟩) 2 2), (126, .pointer (some ⟨b22, 1, none⟩)), (127, .int .i64 0), (128, .slice (some ⟨b12, 0, none⟩) 2 2), (129, .pointer (some ⟨b22, 1, none⟩)), (130, .int .i64 0), (131, .pointer (some ⟨b12, 0 + 0 * 5, none⟩)), (132, qv 0), (133, .slice (some ⟨b12, 0, none⟩) 2 2), (134, .int .i64 1), (135, .pointer (some ⟨b12, 0 + 1 * 5, none⟩)), (136, qv ((1 : Int) : Rat)), (137, qv ((3 : Int) : Rat)), (138, qv ((3 : Int) : Rat)), (139, qv ((3 : Int) : Rat)), (140, .pointer (some ⟨b12, 0 + 0 * 5, none⟩)), (141, .pointer (some ⟨b22, 0, none⟩)), (142, .int .i64 5), (143, .int .i64 2), (144, .bool true), (145, .slice (some ⟨b12, 0, none⟩) 2 2), (146, .pointer (some ⟨b22, 2, none⟩)), (147, .int .i64 0), (148, .slice (some ⟨b12, 0, none⟩) 2 2), (149, .pointer (some ⟨b22, 2, none⟩)), (150, .int .i64 0), (151, .pointer (some ⟨b12, 0 + 0 * 5, none⟩)), (152, qv ((3 : Int) : Rat)), (153, .slice (some ⟨b12, 0, none⟩) 2 2), (154, .int .i64 1), (155, .pointer (some ⟨b12, 0 + 1 * 5, none⟩)), (156, qv ((1 : Int) : Rat)), (157, qv ((3 : Int) : Rat)), (158, qv ((3 : Int) : Rat)), (159, qv ((6 : Int) : Rat)), (160, .pointer (some ⟨b12, 0 + 0 * 5, none⟩))] ?_
  refine CG.listed ?_
  refine lS hs [(76, .int .i64 1, []), (77, .int .i64 0, []), (13, .int .i64 0, [])] ?_
  refine lD ?_
  refine CL.to [(3, .pointer (some ⟨b1, 0, none⟩)), (6, .slice none 0 0), (7, .slice (some ⟨b8, 0, none⟩) 1 1), (8, .int .i64 0), (9, .slice Av 2 2), (10, .slice (some ⟨b12, 0, none⟩) 2 2), (13, .int .i64 0), (74, .int .i64 1), (75, .bool true), (78, .pointer (some ⟨b1, 1, none⟩)), (79, .slice A 2 c), (80, .int .i64 1), (81, .pointer (some ⟨(aB A), aO A + 1 * 9, none⟩)), (82, .agg #[.int .i64 5, .int .i64 0, .int .i64 0, .int .i64 0, .bool (ineg (0 : Rat).num), .int .u64 (lo (iabs (0 : Rat).num)), .string (hi (iabs (0 : Rat).num)), .int .u64 (lo (qd (0 : Rat))), .string (hi (qd (0 : Rat)))]), (14, .pointer (some ⟨b22, 0, none⟩)), (83, .slice (some ⟨b12, 0, none⟩) 2 2), (84, .int .i64 1), (85, .pointer (some ⟨b12, 0 + 1 * 5, none⟩)), (86, qv ((1 : Int) : Rat)), (87, .int .i64 1), (88, .bool false), (89, .pointer (some ⟨b22, 0, none⟩)), (90, .int .i64 5), (91, .bool false), (107, .agg #[.int .i64 5, .int .i64 0, .int .i64 0, .int .i64 0, .bool (ineg (0 : Rat).num), .int .u64 (lo (iabs (0 : Rat).num)), .string (hi (iabs (0 : Rat).num)), .int .u64 (lo (qd (0 : Rat))), .string (hi (qd (0 : Rat)))]), (108, .slice Av 2 2), (109, .pointer (some ⟨b22, 1, none⟩)), (110, .int .i64 0), (111, .pointer (some ⟨(aB Av), aO Av + 0 * 5, none⟩)), (112, qv ((3 : Int) : Rat)), (113, .slice Av 2 2), (114, .pointer (some ⟨b22, 2, none⟩)), (115, .int .i64 0), (116, .pointer (some ⟨(aB Av), aO Av + 0 * 5, none⟩)), (117, qv ((3 : Int) : Rat)), (118, .tuple #[qv ((3 : Int) : Rat), qv ((3 : Int) : Rat)]), (106, .tuple #[qv ((3 : Int) : Rat), qv ((3 : Int) : Rat)]), (119, qv ((3 : Int) : Rat)), (120, qv ((3 : Int) : Rat)), (16, .pointer (some ⟨b33, 0, none⟩)), (15, .pointer (some ⟨b32, 0, none⟩)), (121, .pointer (some ⟨b22, 0, none⟩)), (122, .int .i64 5), (123, .int .i64 2), (124, .bool true), (125, .slice (some ⟨b12, 0, none⟩) 2 2), (126, .pointer (some ⟨b22, 1, none⟩)), (127, .int .i64 0), (128, .slice (some ⟨b12, 0, none⟩) 2 2), (129, .pointer (some ⟨b22, 1, none⟩)), (130, .int .i64 0), (131, .pointer (some ⟨b12, 0 + 0 * 5, none⟩)), (132, qv 0), (133, .slice (some ⟨b12, 0, none⟩) 2 2), (134, .int .i64 1), (135, .pointer (some ⟨b12, 0 + 1 * 5, none⟩)), (136, qv ((1 : Int) : Rat)), (137, qv ((3 : Int) : Rat)), (138, qv ((3 : Int) : Rat)), (139, qv ((3 : Int) : Rat)), (140, .pointer (some ⟨b12, 0 + 0 * 5, none⟩)), (141, .pointer (some ⟨b22, 0, none⟩)), (142, .int .i64 5), (143, .int .i64 2), (144, .bool true), (145, .slice (some ⟨b12, 0, none⟩) 2 2), (146, .pointer (some ⟨b22, 2, none⟩)), (147, .int .i64 0), (148, .slice (some ⟨b12, 0, none⟩) 2 2), (149, .pointer (some ⟨b22, 2, none⟩)), (150, .int .i64 0), (151, .pointer (some ⟨b12, 0 + 0 * 5, none⟩)), (152, qv ((3 : Int) : Rat)), (153, .slice (some ⟨b12, 0, none⟩) 2 2), (154, .int .i64 1), (155, .pointer (some ⟨b12, 0 + 1 * 5, none⟩)), (156, qv ((1 : Int) : Rat)), (157, qv ((3 : Int) : Rat)), (158, qv ((3 : Int) : Rat)), (159, qv ((6 : Int) : Rat)), (160, .pointer (some ⟨b12, 0 + 0 * 5, none⟩)), (76, .int .i64 1), (77, .int .i64 0)] ?_
  replace hs := hs.to [⟨b32, 60, qc ((3 : Int) : Rat)⟩, ⟨b33, 60, qc ((3 : Int) : Rat)⟩, ⟨b22, 62, [.int .i64 5, .int .i64 0, .int .i64 0, .int .i64 0, .bool (ineg (0 : Rat).num), .int .u64 (lo (iabs (0 : Rat).num)), .string (hi (iabs (0 : Rat).num)), .int .u64 (lo (qd (0 : Rat))), .string (hi (qd (0 : Rat)))]⟩, ⟨b12, 60, (([((6 : Int) : Rat), ((1 : Int) : Rat)] : List Rat)).flatMap qc⟩, ⟨b8, 60, (([0] : List Rat)).flatMap qc⟩, ⟨b1, 30, [.int .i64 1, .slice A 2 c, .slice O 1 d]⟩] []
  refine cN ?_
  refine CG.seq ?_
  refine cSL ?_
  refine lS hs [(74, .int .i64 0, []), (75, .bool true, [])] ?_
  refine lN ?_
  refine cTo [(3, .pointer (some ⟨b1, 0, none⟩)), (6, .slice none 0 0), (7, .slice (some ⟨b8, 0, none⟩) 1 1), (8, .int .i64 0), (9, .slice Av 2 2), (10, .slice (some ⟨b12, 0, none⟩) 2 2), (13, .int .i64 0), (74, .int .i64 0), (75, .bool true), (78, .pointer (some ⟨b1, 1, none⟩)), (79, .slice A 2 c), (80, .int .i64 1), (81, .pointer (some ⟨(aB A), aO A + 1 * 9, none⟩)), (82, .agg #[.int .i64 5, .int .i64 0, .int .i64 0, .int .i64 0, .bool (ineg (0 : Rat).num), .int .u64 (lo (iabs (0 : Rat).num)), .string (hi (iabs (0 : Rat).num)), .int .u64 (lo (qd (0 : Rat))), .string (hi (qd (0 : Rat)))]), (14, .pointer (some ⟨b22, 0, none⟩)), (83, .slice (some ⟨b12, 0, none⟩) 2 2), (84, .int .i64 1), (85, .pointer (some ⟨b12, 0 + 1 * 5, none⟩)), (86, qv ((1 : Int) : Rat)), (87, .int .i64 1), (88, .bool false), (89, .pointer (some ⟨b22, 0, none⟩)), (90, .int .i64 5), (91, .bool false), (107, .agg #[.int .i64 5, .int .i64 0, .int .i64 0, .int .i64 0, .bool (ineg (0 : Rat).num), .int .u64 (lo (iabs (0 : Rat).num)), .string (hi (iabs (0 : Rat).num)), .int .u64 (lo (qd (0 : Rat))), .string (hi (qd (0 : Rat)))]), (108, .slice Av 2 2), (109, .pointer (some ⟨b22, 1, none⟩)), (110, .int .i64 0), (111, .pointer (some ⟨(aB Av), aO Av + 0 * 5, none⟩)), (112, qv ((3 : Int) : Rat)), (113, .slice Av 2 2), (114, .pointer (some ⟨b22, 2, none⟩)), (115, .int .i64 0), (116, .pointer (some ⟨(aB Av), aO Av + 0 * 5, none⟩)), (117, qv ((3 : Int) : Rat)), (118, .tuple #[qv ((3 : Int) : Rat), qv ((3 : Int) : Rat)]), (106, .tuple #[qv ((3 : Int) : Rat), qv ((3 : Int) : Rat)]), (119, qv ((3 : Int) : Rat)), (120, qv ((3 : Int) : Rat)), (16, .pointer (some ⟨b33, 0, none⟩)), (15, .pointer (some ⟨b32, 0, none⟩)), (121, .pointer (some ⟨b22, 0, none⟩)), (122, .int .i64 5), (123, .int .i64 2), (124, .bool true), (125, .slice (some ⟨b12, 0, none⟩) 2 2), (126, .pointer (some ⟨b22, 1, none⟩)), (127, .int .i64 0), (128, .slice (some ⟨b12, 0, none⟩) 2 2), (129, .pointer (some ⟨b22, 1, none⟩)), (130, .int .i64 0), (131, .pointer (some ⟨b12, 0 + 0 * 5, none⟩)), (132, qv 0), (133, .slice (some ⟨b12, 0, none⟩) 2 2), (134, .int .i64 1), (135, .pointer (some ⟨b12, 0 + 1 * 5, none⟩)), (136, qv ((1 : Int) : Rat)), (137, qv ((3 : Int) : Rat)), (138, qv ((3 : Int) : Rat)), (139, qv ((3 : Int) : Rat)), (140, .pointer (some ⟨b12, 0 + 0 * 5, none⟩)), (141, .pointer (some ⟨b22, 0, none⟩)), (142, .int .i64 5), (143, .int .i64 2), (144, .bool true), (145, .slice (some ⟨b12, 0, none⟩) 2 2), (146, .pointer (some ⟨b22, 2, none⟩)), (147, .int .i64 0), (148, .slice (some ⟨b12, 0, none⟩) 2 2), (149, .pointer (some ⟨b22, 2, none⟩)), (150, .int .i64 0), (151, .pointer (some ⟨b12, 0 + 0 * 5, none⟩)), (152, qv ((3 : Int) : Rat)), (153, .slice (some ⟨b12, 0, none⟩) 2 2), (154, .int .i64 1), (155, .pointer (some ⟨b12, 0 + 1 * 5, none⟩)), (156, qv ((1 : Int) : Rat)), (157, qv ((3 : Int) : Rat)), (158, qv ((3 : Int) : Rat)), (159, qv ((6 : Int) : Rat)), (160, .pointer (some ⟨b12, 0 + 0 * 5, none⟩)), (76, .int .i64 1), (77, .int .i64 0)] ?_
  refine cIT ?_
  refine CG.skipN ?_
  refine cTo [(3, .pointer (some ⟨b1, 0, none⟩)), (6, .slice none 0 0), (7, .slice (some ⟨b8, 0, none⟩) 1 1), (8, .int .i64 0), (9, .slice Av 2 2), (10, .slice (some ⟨b12, 0, none⟩) 2 2), (13, .int .i64 0), (74, .int .i64 0), (75, .bool true), (78, .pointer (some ⟨b1, 1, none⟩)), (79, .slice A 2 c), (80, .int .i64 1), (81, .pointer (some ⟨(aB A), aO A + 1 * 9, none⟩)), (82, .agg #[.int .i64 5, .int .i64 0, .int .i64 0, .int .i64 0, .bool (ineg (0 : Rat).num), .int .u64 (lo (iabs (0 : Rat).num)), .string (hi (iabs (0 : Rat).num)), .int .u64 (lo (qd (0 : Rat))), .string (hi (qd (0 : Rat)))]), (14, .pointer (some ⟨b22, 0, none⟩)), (83, .slice (some ⟨b12, 0, none⟩) 2 2), (84, .int .i64 1), (85, .pointer (some ⟨b12, 0 + 1 * 5, none⟩)), (86, qv ((1 : Int) : Rat)), (87, .int .i64 1), (88, .bool false), (89, .pointer (some ⟨b22, 0, none⟩)), (90, .int .i64 5), (91, .bool false), (107, .agg #[.int .i64 5, .int .i64 0, .int .i64 0, .int .i64 0, .bool (ineg (0 : Rat).num), .int .u64 (lo (iabs (0 : Rat).num)), .string (hi (iabs (0 : Rat).num)), .int .u64 (lo (qd (0 : Rat))), .string (hi (qd (0 : Rat)))]), (108, .slice Av 2 2), (109, .pointer (some ⟨b22, 1, none⟩)), (110, .int .i64 0), (111, .pointer (some ⟨(aB Av), aO Av + 0 * 5, none⟩)), (112, qv ((3 : Int) : Rat)), (113, .slice Av 2 2), (114, .pointer (some ⟨b22, 2, none⟩)), (115, .int .i64 0), (116, .pointer (some ⟨(aB Av), aO Av + 0 * 5, none⟩)), (117, qv ((3 : Int) : Rat)), (118, .tuple #[qv ((3 : Int) : Rat), qv ((3 : Int) : Rat)]), (106, .tuple #[qv ((3 : Int) : Rat), qv ((3 : Int) : Rat)]), (119, qv ((3 : Int) : Rat)), (120, qv ((3 : Int) : Rat)), (16, .pointer (some ⟨b33, 0, none⟩)), (15, .pointer (some ⟨b32, 0, none⟩)), (121, .pointer (some ⟨b22, 0, none⟩)), (122, .int .i64 5), (123, .int .i64 2), (124, .bool true), (125, .slice (some ⟨b12, 0, none⟩) 2 2), (126, .pointer (some ⟨b22, 1, none⟩)), (127, .int .i64 0), (128, .slice (some ⟨b12, 0, none⟩) 2 2), (129, .pointer (some ⟨b22, 1, none⟩)), (130, .int .i64 0), (131, .pointer (some ⟨b12, 0 + 0 * 5, none⟩)), (132, qv 0), (133, .slice (some ⟨b12, 0, none⟩) 2 2), (134, .int .i64 1), (135, .pointer (some ⟨b12, 0 + 1 * 5, none⟩)), (136, qv ((1 : Int) : Rat)), (137, qv ((3 : Int) : Rat)), (138, qv ((3 : Int) : Rat)), (139, qv ((3 : Int) : Rat)), (140, .pointer (some ⟨b12, 0 + 0 * 5, none⟩)), (141, .pointer (some ⟨b22, 0, none⟩)), (142, .int .i64 5), (143, .int .i64 2), (144, .bool true), (145, .slice (some ⟨b12, 0, none⟩) 2 2), (146, .pointer (some ⟨b22, 2, none⟩)), (147, .int .i64 0), (148, .slice (some ⟨b12, 0, none⟩) 2 2), (149, .pointer (some ⟨b22, 2, none⟩)), (150, .int .i64 0), (151, .pointer (some ⟨b12, 0 + 0 * 5, none⟩)), (152, qv ((3 : Int) : Rat)), (153, .slice (some ⟨b12, 0, none⟩) 2 2), (154, .int .i64 1), (155, .pointer (some ⟨b12, 0 + 1 * 5, none⟩)), (156, qv ((1 : Int) : Rat)), (157, qv ((3 : Int) : Rat)), (158, qv ((3 : Int) : Rat)), (159, qv ((6 : Int) : Rat)), (160, .pointer (some ⟨b12, 0 + 0 * 5, none⟩)), (76, .int .i64 1), (77, .int .i64 0)] ?_
  refine CG.seq ?_
  refine CG.block ?_
  refine cSL ?_
  refine lS hs [(78, .pointer (some ⟨b1, 1, none⟩), []), (79, .slice A 2 c, [(5, 1, 1)]), (80, .int .i64 0, [])] ?_
  refine lX 81 A 2 c 9 0 0 ((hs.f.2.2.2.2.1).ok (by omega)) ?_
  refine lH 82 (.agg #[.int .i64 2, .int .i64 0, .int .i64 0, .int .i64 0, .bool (ineg (0 : Rat).num), .int .u64 (lo (iabs (0 : Rat).num)), .string (hi (iabs (0 : Rat).num)), .int .u64 (lo (qd (0 : Rat))), .string (hi (qd (0 : Rat)))]) hs ((hs.f.2.2.2.2.1).el 0 (by omega)) ?_
  refine lA 14 62 ([.int .i64 0, .int .i64 0, .int .i64 0, .int .i64 0, .bool false, .int .u64 0, .string (⟨#[]⟩), .int .u64 0, .string (⟨#[]⟩)]) hs (fun b56 w57 h58 hs => ?_)
  refine lP 0 0 ([.int .i64 2, .int .i64 0, .int .i64 0, .int .i64 0, .bool (ineg (0 : Rat).num), .int .u64 (lo (iabs (0 : Rat).num)), .string (hi (iabs (0 : Rat).num)), .int .u64 (lo (qd (0 : Rat))), .string (hi (qd (0 : Rat)))]) hs (fun w59 hs => ?_)
  refine lN ?_
  refine cTo [(3, .pointer (some ⟨b1, 0, none⟩)), (6, .slice none 0 0), (7, .slice (some ⟨b8, 0, none⟩) 1 1), (8, .int .i64 0), (9, .slice Av 2 2), (10, .slice (some ⟨b12, 0, none⟩) 2 2), (13, .int .i64 0), (74, .int .i64 0), (75, .bool true), (78, .pointer (some ⟨b1, 1, none⟩)), (79, .slice A 2 c), (80, .int .i64 0), (81, .pointer (some ⟨(aB A), aO A + 0 * 9, none⟩)), (82, .agg #[.int .i64 2, .int .i64 0, .int .i64 0, .int .i64 0, .bool (ineg (0 : Rat).num), .int .u64 (lo (iabs (0 : Rat).num)), .string (hi (iabs (0 : Rat).num)), .int .u64 (lo (qd (0 : Rat))), .string (hi (qd (0 : Rat)))]), (14, .pointer (some ⟨b56, 0, none⟩)), (83, .slice (some ⟨b12, 0, none⟩) 2 2), (84, .int .i64 1), (85, .pointer (some ⟨b12, 0 + 1 * 5, none⟩)), (86, qv ((1 : Int) : Rat)), (87, .int .i64 1), (88, .bool false), (89, .pointer (some ⟨b22, 0, none⟩)), (90, .int .i64 5), (91, .bool false), (107, .agg #[.int .i64 5, .int .i64 0, .int .i64 0, .int .i64 0, .bool (ineg (0 : Rat).num), .int .u64 (lo (iabs (0 : Rat).num)), .string (hi (iabs (0 : Rat).num)), .int .u64 (lo (qd (0 : Rat))), .string (hi (qd (0 : Rat)))]), (108, .slice Av 2 2), (109, .pointer (some ⟨b22, 1, none⟩)), (110, .int .i64 0), (111, .pointer (some ⟨(aB Av), aO Av + 0 * 5, none⟩)), (112, qv ((3 : Int) : Rat)), (113, .slice Av 2 2), (114, .pointer (some ⟨b22, 2, none⟩)), (115, .int .i64 0), (116, .pointer (some ⟨(aB Av), aO Av + 0 * 5, none⟩)), (117, qv ((3 : Int) : Rat)), (118, .tuple #[qv ((3 : Int) : Rat), qv ((3 : Int) : Rat)]), (106, .tuple #[qv ((3 : Int) : Rat), qv ((3 : Int) : Rat)]), (119, qv ((3 : Int) : Rat)), (120, qv ((3 : Int) : Rat)), (16, .pointer (some ⟨b33, 0, none⟩)), (15, .pointer (some ⟨b32, 0, none⟩)), (121, .pointer (some ⟨b22, 0, none⟩)), (122, .int .i64 5), (123, .int .i64 2), (124, .bool true), (125, .slice (some ⟨b12, 0, none⟩) 2 2), (126, .pointer (some ⟨b22, 1, none⟩)), (127, .int .i64 0), (128, .slice (some ⟨b12, 0, none⟩) 2 2), (129, .pointer (some ⟨b22, 1, none⟩)), (130, .int .i64 0), (131, .pointer (some ⟨b12, 0 + 0 * 5, none⟩)), (132, qv 0), (133, .slice (some ⟨b12, 0, none⟩) 2 2), (134, .int .i64 1), (135, .pointer (some ⟨b12, 0 + 1 * 5, none⟩)), (136, qv ((1 : Int) : Rat)), (137, qv ((3 : Int) : Rat)), (138, qv ((3 : Int) : Rat)), (139, qv ((3 : Int) : Rat)), (140, .pointer (some ⟨b12, 0 + 0 * 5, none⟩)), (141, .pointer (some ⟨b22, 0, none⟩)), (142, .int .i64 5), (143, .int .i64 2), (144, .bool true), (145, .slice (some ⟨b12, 0, none⟩) 2 2), (146, .pointer (some ⟨b22, 2, none⟩)), (147, .int .i64 0), (148, .slice (some ⟨b12, 0, none⟩) 2 2), (149, .pointer (some ⟨b22, 2, none⟩)), (150, .int .i64 0), (151, .pointer (some ⟨b12, 0 + 0 * 5, none⟩)), (152, qv ((3 : Int) : Rat)), (153, .slice (some ⟨b12, 0, none⟩) 2 2), (154, .int .i64 1), (155, .pointer (some ⟨b12, 0 + 1 * 5, none⟩)), (156, qv ((1 : Int) : Rat)), (157, qv ((3 : Int) : Rat)), (158, qv ((3 : Int) : Rat)), (159, qv ((6 : Int) : Rat)), (160, .pointer (some ⟨b12, 0 + 0 * 5, none⟩)), (76, .int .i64 1), (77, .int .i64 0)] ?_
  refine CG.seq ?_
  refine cSL ?_
  refine lS hs [(83, .slice (some ⟨b12, 0, none⟩) 2 2, []), (84, .int .i64 0, [])] ?_
  refine lX 85 (some ⟨b12, 0, none⟩) 2 2 5 0 0 rfl ?_
  refine lQ 86 4 ([((6 : Int) : Rat), ((1 : Int) : Rat)] : List Rat) qc 5 0 0 (qv ((6 : Int) : Rat)) hs (by decide) ?_
  refine lC 87 hs (Ret.of_ext hs.g (cSignE (((6 : Int) : Rat)) 1 (by decide +kernel) (by decide +kernel) _)) ?_
  rintro _ w60 h61 hs rfl
  refine lS hs [(88, .bool false, [])] ?_
  refine lN ?_
  refine cTo [(3, .pointer (some ⟨b1, 0, none⟩)), (6, .slice none 0 0), (7, .slice (some ⟨b8, 0, none⟩) 1 1), (8, .int .i64 0), (9, .slice Av 2 2), (10, .slice (some ⟨b12, 0, none⟩) 2 2), (13, .int .i64 0), (74, .int .i64 0), (75, .bool true), (78, .pointer (some ⟨b1, 1, none⟩)), (79, .slice A 2 c), (80, .int .i64 0), (81, .pointer (some ⟨(aB A), aO A + 0 * 9, none⟩)), (82, .agg #[.int .i64 2, .int .i64 0, .int .i64 0, .int .i64 0, .bool (ineg (0 : Rat).num), .int .u64 (lo (iabs (0 : Rat).num)), .string (hi (iabs (0 : Rat).num)), .int .u64 (lo (qd (0 : Rat))), .string (hi (qd (0 : Rat)))]), (14, .pointer (some ⟨b56, 0, none⟩)), (83, .slice (some ⟨b12, 0, none⟩) 2 2), (84, .int .i64 0), (85, .pointer (some ⟨b12, 0 + 0 * 5, none⟩)), (86, qv ((6 : Int) : Rat)), (87, .int .i64 1), (88, .bool false), (89, .pointer (some ⟨b22, 0, none⟩)), (90, .int .i64 5), (91, .bool false), (107, .agg #[.int .i64 5, .int .i64 0, .int .i64 0, .int .i64 0, .bool (ineg (0 : Rat).num), .int .u64 (lo (iabs (0 : Rat).num)), .string (hi (iabs (0 : Rat).num)), .int .u64 (lo (qd (0 : Rat))), .string (hi (qd (0 : Rat)))]), (108, .slice Av 2 2), (109, .pointer (some ⟨b22, 1, none⟩)), (110, .int .i64 0), (111, .pointer (some ⟨(aB Av), aO Av + 0 * 5, none⟩)), (112, qv ((3 : Int) : Rat)), (113, .slice Av 2 2), (114, .pointer (some ⟨b22, 2, none⟩)), (115, .int .i64 0), (116, .pointer (some ⟨(aB Av), aO Av + 0 * 5, none⟩)), (117, qv ((3 : Int) : Rat)), (118, .tuple #[qv ((3 : Int) : Rat), qv ((3 : Int) : Rat)]), (106, .tuple #[qv ((3 : Int) : Rat), qv ((3 : Int) : Rat)]), (119, qv ((3 : Int) : Rat)), (120, qv ((3 : Int) : Rat)), (16, .pointer (some ⟨b33, 0, none⟩)), (15, .pointer (some ⟨b32, 0, none⟩)), (121, .pointer (some ⟨b22, 0, none⟩)), (122, .int .i64 5), (123, .int .i64 2), (124, .bool true), (125, .slice (some ⟨b12, 0, none⟩) 2 2), (126, .pointer (some ⟨b22, 1, none⟩)), (127, .int .i64 0), (128, .slice (some ⟨b12, 0, none⟩) 2 2), (129, .pointer (some ⟨b22, 1, none⟩)), (130, .int .i64 0), (131, .pointer (some ⟨b12, 0 + 0 * 5, none⟩)), (132, qv 0), (133, .slice (some ⟨b12, 0, none⟩) 2 2), (134, .int .i64 1), (135, .pointer (some ⟨b12, 0 + 1 * 5, none⟩)), (136, qv ((1 : Int) : Rat)), (137, qv ((3 : Int) : Rat)), (138, qv ((3 : Int) : Rat)), (139, qv ((3 : Int) : Rat)), (140, .pointer (some ⟨b12, 0 + 0 * 5, none⟩)), (141, .pointer (some ⟨b22, 0, none⟩)), (142, .int .i64 5), (143, .int .i64 2), (144, .bool true), (145, .slice (some ⟨b12, 0, none⟩) 2 2), (146, .pointer (some ⟨b22, 2, none⟩)), (147, .int .i64 0), (148, .slice (some ⟨b12, 0, none⟩) 2 2), (149, .pointer (some ⟨b22, 2, none⟩)), (150, .int .i64 0), (151, .pointer (some ⟨b12, 0 + 0 * 5, none⟩)), (152, qv ((3 : Int) : Rat)), (153, .slice (some ⟨b12, 0, none⟩) 2 2), (154, .int .i64 1), (155, .pointer (some ⟨b12, 0 + 1 * 5, none⟩)), (156, qv ((1 : Int) : Rat)), (157, qv ((3 : Int) : Rat)), (158, qv ((3 : Int) : Rat)), (159, qv ((6 : Int) : Rat)), (160, .pointer (some ⟨b12, 0 + 0 * 5, none⟩)), (76, .int .i64 1), (77, .int .i64 0)] ?_
  refine cIF ?_
  refine CG.skipN ?_
  refine cTo [(3, .pointer (some ⟨b1, 0, none⟩)), (6, .slice none 0 0), (7, .slice (some ⟨b8, 0, none⟩) 1 1), (8, .int .i64 0), (9, .slice Av 2 2), (10, .slice (some ⟨b12, 0, none⟩) 2 2), (13, .int .i64 0), (74, .int .i64 0), (75, .bool true), (78, .pointer (some ⟨b1, 1, none⟩)), (79, .slice A 2 c), (80, .int .i64 0), (81, .pointer (some ⟨(aB A), aO A + 0 * 9, none⟩)), (82, .agg #[.int .i64 2, .int .i64 0, .int .i64 0, .int .i64 0, .bool (ineg (0 : Rat).num), .int .u64 (lo (iabs (0 : Rat).num)), .string (hi (iabs (0 : Rat).num)), .int .u64 (lo (qd (0 : Rat))), .string (hi (qd (0 : Rat)))]), (14, .pointer (some ⟨b56, 0, none⟩)), (83, .slice (some ⟨b12, 0, none⟩) 2 2), (84, .int .i64 0), (85, .pointer (some ⟨b12, 0 + 0 * 5, none⟩)), (86, qv ((6 : Int) : Rat)), (87, .int .i64 1), (88, .bool false), (89, .pointer (some ⟨b22, 0, none⟩)), (90, .int .i64 5), (91, .bool false), (107, .agg #[.int .i64 5, .int .i64 0, .int .i64 0, .int .i64 0, .bool (ineg (0 : Rat).num), .int .u64 (lo (iabs (0 : Rat).num)), .string (hi (iabs (0 : Rat).num)), .int .u64 (lo (qd (0 : Rat))), .string (hi (qd (0 : Rat)))]), (108, .slice Av 2 2), (109, .pointer (some ⟨b22, 1, none⟩)), (110, .int .i64 0), (111, .pointer (some ⟨(aB Av), aO Av + 0 * 5, none⟩)), (112, qv ((3 : Int) : Rat)), (113, .slice Av 2 2), (114, .pointer (some ⟨b22, 2, none⟩)), (115, .int .i64 0), (116, .pointer (some ⟨(aB Av), aO Av + 0 * 5, none⟩)), (117, qv ((3 : Int) : Rat)), (118, .tuple #[qv ((3 : Int) : Rat), qv ((3 : Int) : Rat)]), (106, .tuple #[qv ((3 : Int) : Rat), qv ((3 : Int) : Rat)]), (119, qv ((3 : Int) : Rat)), (120, qv ((3 : Int) : Rat)), (16, .pointer (some ⟨b33, 0, none⟩)), (15, .pointer (some ⟨b32, 0, none⟩)), (121, .pointer (some ⟨b22, 0, none⟩)), (122, .int .i64 5), (123, .int .i64 2), (124, .bool true), (125, .slice (some ⟨b12, 0, none⟩) 2 2), (126, .pointer (some ⟨b22, 1, none⟩)), (127, .int .i64 0), (128, .slice (some ⟨b12, 0, none⟩) 2 2), (129, .pointer (some ⟨b22, 1, none⟩)), (130, .int .i64 0), (131, .pointer (some ⟨b12, 0 + 0 * 5, none⟩)), (132, qv 0), (133, .slice (some ⟨b12, 0, none⟩) 2 2), (134, .int .i64 1), (135, .pointer (some ⟨b12, 0 + 1 * 5, none⟩)), (136, qv ((1 : Int) : Rat)), (137, qv ((3 : Int) : Rat)), (138, qv ((3 : Int) : Rat)), (139, qv ((3 : Int) : Rat)), (140, .pointer (some ⟨b12, 0 + 0 * 5, none⟩)), (141, .pointer (some ⟨b22, 0, none⟩)), (142, .int .i64 5), (143, .int .i64 2), (144, .bool true), (145, .slice (some ⟨b12, 0, none⟩) 2 2), (146, .pointer (some ⟨b22, 2, none⟩)), (147, .int .i64 0), (148, .slice (some ⟨b12, 0, none⟩) 2 2), (149, .pointer (some ⟨b22, 2, none⟩)), (150, .int .i64 0), (151, .pointer (some ⟨b12, 0 + 0 * 5, none⟩)), (152, qv ((3 : Int) : Rat)), (153, .slice (some ⟨b12, 0, none⟩) 2 2), (154, .int .i64 1), (155, .pointer (some ⟨b12, 0 + 1 * 5, none⟩)), (156, qv ((1 : Int) : Rat)), (157, qv ((3 : Int) : Rat)), (158, qv ((3 : Int) : Rat)), (159, qv ((6 : Int) : Rat)), (160, .pointer (some ⟨b12, 0 + 0 * 5, none⟩)), (76, .int .i64 1), (77, .int .i64 0)] ?_
  refine CG.seq ?_
  refine cSL ?_
  refine lS hs [(89, .pointer (some ⟨b56, 0, none⟩), []), (90, .int .i64 2, [(0, 0, 1)]), (91, .bool true, [])] ?_
  refine lN ?_
  refine cTo [(3, .pointer (some ⟨b1, 0, none⟩)), (6, .slice none 0 0), (7, .slice (some ⟨b8, 0, none⟩) 1 1), (8, .int .i64 0), (9, .slice Av 2 2), (10, .slice (some ⟨b12, 0, none⟩) 2 2), (13, .int .i64 0), (74, .int .i64 0), (75, .bool true), (78, .pointer (some ⟨b1, 1, none⟩)), (79, .slice A 2 c), (80, .int .i64 0), (81, .pointer (some ⟨(aB A), aO A + 0 * 9, none⟩)), (82, .agg #[.int .i64 2, .int .i64 0, .int .i64 0, .int .i64 0, .bool (ineg (0 : Rat).num), .int .u64 (lo (iabs (0 : Rat).num)), .string (hi (iabs (0 : Rat).num)), .int .u64 (lo (qd (0 : Rat))), .string (hi (qd (0 : Rat)))]), (14, .pointer (some ⟨b56, 0, none⟩)), (83, .slice (some ⟨b12, 0, none⟩) 2 2), (84, .int .i64 0), (85, .pointer (some ⟨b12, 0 + 0 * 5, none⟩)), (86, qv ((6 : Int) : Rat)), (87, .int .i64 1), (88, .bool false), (89, .pointer (some ⟨b56, 0, none⟩)), (90, .int .i64 2), (91, .bool true), (107, .agg #[.int .i64 5, .int .i64 0, .int .i64 0, .int .i64 0, .bool (ineg (0 : Rat).num), .int .u64 (lo (iabs (0 : Rat).num)), .string (hi (iabs (0 : Rat).num)), .int .u64 (lo (qd (0 : Rat))), .string (hi (qd (0 : Rat)))]), (108, .slice Av 2 2), (109, .pointer (some ⟨b22, 1, none⟩)), (110, .int .i64 0), (111, .pointer (some ⟨(aB Av), aO Av + 0 * 5, none⟩)), (112, qv ((3 : Int) : Rat)), (113, .slice Av 2 2), (114, .pointer (some ⟨b22, 2, none⟩)), (115, .int .i64 0), (116, .pointer (some ⟨(aB Av), aO Av + 0 * 5, none⟩)), (117, qv ((3 : Int) : Rat)), (118, .tuple #[qv ((3 : Int) : Rat), qv ((3 : Int) : Rat)]), (106, .tuple #[qv ((3 : Int) : Rat), qv ((3 : Int) : Rat)]), (119, qv ((3 : Int) : Rat)), (120, qv ((3 : Int) : Rat)), (16, .pointer (some ⟨b33, 0, none⟩)), (15, .pointer (some ⟨b32, 0, none⟩)), (121, .pointer (some ⟨b22, 0, none⟩)), (122, .int .i64 5), (123, .int .i64 2), (124, .bool true), (125, .slice (some ⟨b12, 0, none⟩) 2 2), (126, .pointer (some ⟨b22, 1, none⟩)), (127, .int .i64 0), (128, .slice (some ⟨b12, 0, none⟩) 2 2), (129, .pointer (some ⟨b22, 1, none⟩)), (130, .int .i64 0), (131, .pointer (some ⟨b12, 0 + 0 * 5, none⟩)), (132, qv 0), (133, .slice (some ⟨b12, 0, none⟩) 2 2), (134, .int .i64 1), (135, .pointer (some ⟨b12, 0 + 1 * 5, none⟩)), (136, qv ((1 : Int) : Rat)), (137, qv ((3 : Int) : Rat)), (138, qv ((3 : Int) : Rat)), (139, qv ((3 : Int) : Rat)), (140, .pointer (some ⟨b12, 0 + 0 * 5, none⟩)), (141, .pointer (some ⟨b22, 0, none⟩)), (142, .int .i64 5), (143, .int .i64 2), (144, .bool true), (145, .slice (some ⟨b12, 0, none⟩) 2 2), (146, .pointer (some ⟨b22, 2, none⟩)), (147, .int .i64 0), (148, .slice (some ⟨b12, 0, none⟩) 2 2), (149, .pointer (some ⟨b22, 2, none⟩)), (150, .int .i64 0), (151, .pointer (some ⟨b12, 0 + 0 * 5, none⟩)), (152, qv ((3 : Int) : Rat)), (153, .slice (some ⟨b12, 0, none⟩) 2 2), (154, .int .i64 1), (155, .pointer (some ⟨b12, 0 + 1 * 5, none⟩)), (156, qv ((1 : Int) : Rat)), (157, qv ((3 : Int) : Rat)), (158, qv ((3 : Int) : Rat)), (159, qv ((6 : Int) : Rat)), (160, .pointer (some ⟨b12, 0 + 0 * 5, none⟩)), (76, .int .i64 1), (77, .int .i64 0)] ?_
  refine cIT ?_
  refine CG.seq ?_
  refine cR 13 [] mixed hs al_nil ?_
  refine eV 0 92 (.slice (some ⟨b8, 0, none⟩) 1 1) ?_
  refine eV 1 93 (.pointer (some ⟨b56, 3, none⟩)) ?_
  refine eO 2 94 [(0, 3, 1)] (.int .i64 0) hs ?_
  refine eV 3 95 (.slice (some ⟨b8, 0, none⟩) 1 1) ?_
  refine eV 4 96 (.pointer (some ⟨b56, 3, none⟩)) ?_
  refine eO 5 97 [(0, 3, 1)] (.int .i64 0) hs ?_
  refine eX 6 98 (some ⟨b8, 0, none⟩) 1 1 5 0 0 rfl ?_
  refine eQ 7 99 5 ([0] : List Rat) qc 5 0 0 (qv 0) hs (by decide) ?_
  refine eV 8 100 (.slice (some ⟨b12, 0, none⟩) 2 2) ?_
  refine eV 9 101 (.int .i64 0) ?_
  refine eX 10 102 (some ⟨b12, 0, none⟩) 2 2 5 0 0 rfl ?_
  refine eQ 11 103 4 ([((6 : Int) : Rat), ((1 : Int) : Rat)] : List Rat) qc 5 0 0 (qv ((6 : Int) : Rat)) hs (by decide) ?_
  refine eC 12 104 hs (fun _ _ hs => Ret.of_ext hs.g (cAddE (0) (((6 : Int) : Rat)) (((6 : Int) : Rat)) (by decide +kernel) (by decide +kernel) (by decide +kernel) _)) ?_
  rintro _ _ _ w62 h63 hs rfl
  refine eD0 hs (fun w64 h65 hs => ?_)
  refine tX 13 105 (some ⟨b8, 0, none⟩) 1 1 5 0 0 rfl ?_
  refine tW 14 5 ([0] : List Rat) qc 5 0 ((6 : Int) : Rat) hs (by decide) (fun w66 hs => ?_)
  have hl67 : (([((6 : Int) : Rat)] : List Rat)).length = 1 := rfl
  replace hs := hs.to [⟨b56, 62, [.int .i64 2, .int .i64 0, .int .i64 0, .int .i64 0, .bool (ineg (0 : Rat).num), .int .u64 (lo (iabs (0 : Rat).num)), .string (hi (iabs (0 : Rat).num)), .int .u64 (lo (qd (0 : Rat))), .string (hi (qd (0 : Rat)))]⟩, ⟨b32, 60, qc ((3 : Int) : Rat)⟩, ⟨b33, 60, qc ((3 : Int) : Rat)⟩, ⟨b22, 62, [.int .i64 5, .int .i64 0, .int .i64 0, .int .i64 0, .bool (ineg (0 : Rat).num), .int .u64 (lo (iabs (0 : Rat).num)), .string (hi (iabs (0 : Rat).num)), .int .u64 (lo (qd (0 : Rat))), .string (hi (qd (0 : Rat)))]⟩, ⟨b12, 60, (([((6 : Int) : Rat), ((1 : Int) : Rat)] : List Rat)).flatMap qc⟩, ⟨b8, 60, (([((6 : Int) : Rat)] : List Rat)).flatMap qc⟩, ⟨b1, 30, [.int .i64 1, .slice A 2 c, .slice O 1 d]⟩] []
  refine tN ?_
  refine cTo [(3, .pointer (some ⟨b1, 0, none⟩)), (6, .slice none 0 0), (7, .slice (some ⟨b8, 0, none⟩) 1 1), (8, .int .i64 0), (9, .slice Av 2 2), (10, .slice (some ⟨b12, 0, none⟩) 2 2), (13, .int .i64 0), (74, .int .i64 0), (75, .bool true), (78, .pointer (some ⟨b1, 1, none⟩)), (79, .slice A 2 c), (80, .int .i64 0), (81, .pointer (some ⟨(aB A), aO A + 0 * 9, none⟩)), (82, .agg #[.int .i64 2, .int .i64 0, .int .i64 0, .int .i64 0, .bool (ineg (0 : Rat).num), .int .u64 (lo (iabs (0 : Rat).num)), .string (hi (iabs (0 : Rat).num)), .int .u64 (lo (qd (0 : Rat))), .string (hi (qd (0 : Rat)))]), (14, .pointer (some ⟨b56, 0, none⟩)), (83, .slice (some ⟨b12, 0, none⟩) 2 2), (84, .int .i64 0), (85, .pointer (some ⟨b12, 0 + 0 * 5, none⟩)), (86, qv ((6 : Int) : Rat)), (87, .int .i64 1), (88, .bool false), (89, .pointer (some ⟨b56, 0, none⟩)), (90, .int .i64 2), (91, .bool true), (107, .agg #[.int .i64 5, .int .i64 0, .int .i64 0, .int .i64 0, .bool (ineg (0 : Rat).num), .int .u64 (lo (iabs (0 : Rat).num)), .string (hi (iabs (0 : Rat).num)), .int .u64 (lo (qd (0 : Rat))), .string (hi (qd (0 : Rat)))]), (108, .slice Av 2 2), (109, .pointer (some ⟨b22, 1, none⟩)), (110, .int .i64 0), (111, .pointer (some ⟨(aB Av), aO Av + 0 * 5, none⟩)), (112, qv ((3 : Int) : Rat)), (113, .slice Av 2 2), (114, .pointer (some ⟨b22, 2, none⟩)), (115, .int .i64 0), (116, .pointer (some ⟨(aB Av), aO Av + 0 * 5, none⟩)), (117, qv ((3 : Int) : Rat)), (118, .tuple #[qv ((3 : Int) : Rat), qv ((3 : Int) : Rat)]), (106, .tuple #[qv ((3 : Int) : Rat), qv ((3 : Int) : Rat)]), (119, qv ((3 : Int) : Rat)), (120, qv ((3 : Int) : Rat)), (16, .pointer (some ⟨b33, 0, none⟩)), (15, .pointer (some ⟨b32, 0, none⟩)), (121, .pointer (some ⟨b22, 0, none⟩)), (122, .int .i64 5), (123, .int .i64 2), (124, .bool true), (125, .slice (some ⟨b12, 0, none⟩) 2 2), (126, .pointer (some ⟨b22, 1, none⟩)), (127, .int .i64 0), (128, .slice (some ⟨b12, 0, none⟩) 2 2), (129, .pointer (some ⟨b22, 1, none⟩)), (130, .int .i64 0), (131, .pointer (some ⟨b12, 0 + 0 * 5, none⟩)), (132, qv 0), (133, .slice (some ⟨b12, 0, none⟩) 2 2), (134, .int .i64 1), (135, .pointer (some ⟨b12, 0 + 1 * 5, none⟩)), (136, qv ((1 : Int) : Rat)), (137, qv ((3 : Int) : Rat)), (138, qv ((3 : Int) : Rat)), (139, qv ((3 : Int) : Rat)), (140, .pointer (some ⟨b12, 0 + 0 * 5, none⟩)), (141, .pointer (some ⟨b22, 0, none⟩)), (142, .int .i64 5), (143, .int .i64 2), (144, .bool true), (145, .slice (some ⟨b12, 0, none⟩) 2 2), (146, .pointer (some ⟨b22, 2, none⟩)), (147, .int .i64 0), (148, .slice (some ⟨b12, 0, none⟩) 2 2), (149, .pointer (some ⟨b22, 2, none⟩)), (150, .int .i64 0), (151, .pointer (some ⟨b12, 0 + 0 * 5, none⟩)), (152, qv ((3 : Int) : Rat)), (153, .slice (some ⟨b12, 0, none⟩) 2 2), (154, .int .i64 1), (155, .pointer (some ⟨b12, 0 + 1 * 5, none⟩)), (156, qv ((1 : Int) : Rat)), (157, qv ((3 : Int) : Rat)), (158, qv ((3 : Int) : Rat)), (159, qv ((6 : Int) : Rat)), (160, .pointer (some ⟨b12, 0 + 0 * 5, none⟩)), (76, .int .i64 1), (77, .int .i64 0), (92, .slice (some ⟨b8, 0, none⟩) 1 1), (93, .pointer (some ⟨b56, 3, none⟩)), (94, .int .i64 0), (95, .slice (some ⟨b8, 0, none⟩) 1 1), (96, .pointer (some ⟨b56, 3, none⟩)), (97, .int .i64 0), (98, .pointer (some ⟨b8, 0 + 0 * 5, none⟩)), (99, qv 0), (100, .slice (some ⟨b12, 0, none⟩) 2 2), (101, .int .i64 0), (102, .pointer (some ⟨b12, 0 + 0 * 5, none⟩)), (103, qv ((6 : Int) : Rat)), (104, qv ((6 : Int) : Rat)), (105, .pointer (some ⟨b8, 0 + 0 * 5, none⟩))] ?_
  refine CG.exit ?_
  show CG _ _ _ _ _ _ _ _
  refine cTo [(3, .pointer (some ⟨b1, 0, none⟩)), (6, .slice none 0 0), (7, .slice (some ⟨b8, 0, none⟩) 1 1), (8, .int .i64 0), (9, .slice Av 2 2), (10, .slice (some ⟨b12, 0, none⟩) 2 2), (13, .int .i64 0), (74, .int .i64 0), (75, .bool true), (78, .pointer (some ⟨b1, 1, none⟩)), (79, .slice A 2 c), (80, .int .i64 0), (81, .pointer (some ⟨(aB A), aO A + 0 * 9, none⟩)), (82, .agg #[.int .i64 2, .int .i64 0, .int .i64 0, .int .i64 0, .bool (ineg (0 : Rat).num), .int .u64 (lo (iabs (0 : Rat).num)), .string (hi (iabs (0 : Rat).num)), .int .u64 (lo (qd (0 : Rat))), .string (hi (qd (0 : Rat)))]), (14, .pointer (some ⟨b56, 0, none⟩)), (83, .slice (some ⟨b12, 0, none⟩) 2 2), (84, .int .i64 0), (85, .pointer (some ⟨b12, 0 + 0 * 5, none⟩)), (86, qv ((6 : Int) : Rat)), (87, .int .i64 1), (88, .bool false), (89, .pointer (some ⟨b56, 0, none⟩)), (90, .int .i64 2), (91, .bool true), (107, .agg #[.int .i64 5, .int .i64 0, .int .i64 0, .int .i64 0, .bool (ineg (0 : Rat).num), .int .u64 (lo (iabs (0 : Rat).num)), .string (hi (iabs (0 : Rat).num)), .int .u64 (lo (qd (0 : Rat))), .string (hi (qd (0 : Rat)))]), (108, .slice Av 2 2), (109, .pointer (some ⟨b22, 1, none⟩)), (110, .int .i64 0), (111, .pointer (some ⟨(aB Av), aO Av + 0 * 5, none⟩)), (112, qv ((3 : Int) : Rat)), (113, .slice Av 2 2), (114, .pointer (some ⟨b22, 2, none⟩)), (115, .int .i64 0), (116, .pointer (some ⟨(aB Av), aO Av + 0 * 5, none⟩)), (117, qv ((3 : Int) : Rat)), (118, .tuple #[qv ((3 : Int) : Rat), qv ((3 : Int) : Rat)]), (106, .tuple #[qv ((3 : Int) : Rat), qv ((3 : Int) : Rat)]), (119, qv ((3 : Int) : Rat)), (120, qv ((3 : Int) : Rat)), (16, .pointer (some ⟨b33, 0, none⟩)), (15, .pointer (some ⟨b32, 0, none⟩)), (121, .pointer (some ⟨b22, 0, none⟩)), (122, .int .i64 5), (123, .int .i64 2), (124, .bool true), (125, .slice (some ⟨b12, 0, none⟩) 2 2), (126, .pointer (some ⟨b22, 1, none⟩)), (127, .int .i64 0), (128, .slice (some ⟨b12, 0, none⟩) 2 2), (129, .pointer (some ⟨b22, 1, none⟩)), (130, .int .i64 0), (131, .pointer (some ⟨b12, 0 + 0 * 5, none⟩)), (132, qv 0), (133, .slice (some ⟨b12, 0, none⟩) 2 2), (134, .int .i64 1), (135, .pointer (some ⟨b12, 0 + 1 * 5, none⟩)), (136, qv ((1 : Int) : Rat)), (137, qv ((3 : Int) : Rat)), (138, qv ((3 : Int) : Rat)), (139, qv ((3 : Int) : Rat)), (140, .pointer (some ⟨b12, 0 + 0 * 5, none⟩)), (141, .pointer (some ⟨b22, 0, none⟩)), (142, .int .i64 5), (143, .int .i64 2), (144, .bool true), (145, .slice (some ⟨b12, 0, none⟩) 2 2), (146, .pointer (some ⟨b22, 2, none⟩)), (147, .int .i64 0), (148, .slice (some ⟨b12, 0, none⟩) 2 2), (149, .pointer (some ⟨b22, 2, none⟩)), (150, .int .i64 0), (151, .pointer (some ⟨b12, 0 + 0 * 5, none⟩)), (152, qv ((3 : Int) : Rat)), (153, .slice (some ⟨b12, 0, none⟩) 2 2), (154, .int .i64 1), (155, .pointer (some ⟨b12, 0 + 1 * 5, none⟩)), (156, qv ((1 : Int) : Rat)), (157, qv ((3 : Int) : Rat)), (158, qv ((3 : Int) : Rat)), (159, qv ((6 : Int) : Rat)), (160, .pointer (some ⟨b12, 0 + 0 * 5, none⟩)), (76, .int .i64 1), (77, .int .i64 0), (92, .slice (some ⟨b8, 0, none⟩) 1 1), (93, .pointer (some ⟨b56, 3, none⟩)), (94, .int .i64 0), (95, .slice (some ⟨b8, 0, none⟩) 1 1), (96, .pointer (some ⟨b56, 3, none⟩)), (97, .int .i64 0), (98, .pointer (some ⟨b8, 0 + 0 * 5, none⟩)), (99, qv 0), (100, .slice (some ⟨b12, 0, none⟩) 2 2), (101, .int .i64 0), (102, .pointer (some ⟨b12, 0 + 0 * 5, none⟩)), (103, qv ((6 : Int) : Rat)), (104, qv ((6 : Int) : Rat)), (105, .pointer (some ⟨b8, 0 + 0 * 5, none⟩))] ?_
  refine CG.listed ?_
  refine lS hs [(76, .int .i64 0, []), (77, .int .i64 (-1), []), (13, .int .i64 (-1), [])] ?_
  refine lD ?_
  refine CL.to [(3, .pointer (some ⟨b1, 0, none⟩)), (6, .slice none 0 0), (7, .slice (some ⟨b8, 0, none⟩) 1 1), (8, .int .i64 0), (9, .slice Av 2 2), (10, .slice (some ⟨b12, 0, none⟩) 2 2), (13, .int .i64 (-1)), (74, .int .i64 0), (75, .bool true), (78, .pointer (some ⟨b1, 1, none⟩)), (79, .slice A 2 c), (80, .int .i64 0), (81, .pointer (some ⟨(aB A), aO A + 0 * 9, none⟩)), (82, .agg #[.int .i64 2, .int .i64 0, .int .i64 0, .int .i64 0, .bool (ineg (0 : Rat).num), .int .u64 (lo (iabs (0 : Rat).num)), .string (hi (iabs (0 : Rat).num)), .int .u64 (lo (qd (0 : Rat))), .string (hi (qd (0 : Rat)))]), (14, .pointer (some ⟨b56, 0, none⟩)), (83, .slice (some ⟨b12, 0, none⟩) 2 2), (84, .int .i64 0), (85, .pointer (some ⟨b12, 0 + 0 * 5, none⟩)), (86, qv ((6 : Int) : Rat)), (87, .int .i64 1), (88, .bool false), (89, .pointer (some ⟨b56, 0, none⟩)), (90, .int .i64 2), (91, .bool true), (107, .agg #[.int .i64 5, .int .i64 0, .int .i64 0, .int .i64 0, .bool (ineg (0 : Rat).num), .int .u64 (lo (iabs (0 : Rat).num)), .string (hi (iabs (0 : Rat).num)), .int .u64 (lo (qd (0 : Rat))), .string (hi (qd (0 : Rat)))]), (108, .slice Av 2 2), (109, .pointer (some ⟨b22, 1, none⟩)), (110, .int .i64 0), (111, .pointer (some ⟨(aB Av), aO Av + 0 * 5, none⟩)), (112, qv ((3 : Int) : Rat)), (113, .slice Av 2 2), (114, .pointer (some ⟨b22, 2, none⟩)), (115, .int .i64 0), (116, .pointer (some ⟨(aB Av), aO Av + 0 * 5, none⟩)), (117, qv ((3 : Int) : Rat)), (118, .tuple #[qv ((3 : Int) : Rat), qv ((3 : Int) : Rat)]), (106, .tuple #[qv ((3 : Int) : Rat), qv ((3 : Int) : Rat)]), (119, qv ((3 : Int) : Rat)), (120, qv ((3 : Int) : Rat)), (16, .pointer (some ⟨b33, 0, none⟩)), (15, .pointer (some ⟨b32, 0, none⟩)), (121, .pointer (some ⟨b22, 0, none⟩)), (122, .int .i64 5), (123, .int .i64 2), (124, .bool true), (125, .slice (some ⟨b12, 0, none⟩) 2 2), (126, .pointer (some ⟨b22, 1, none⟩)), (127, .int .i64 0), (128, .slice (some ⟨b12, 0, none⟩) 2 2), (129, .pointer (some ⟨b22, 1, none⟩)), (130, .int .i64 0), (131, .pointer (some ⟨b12, 0 + 0 * 5, none⟩)), (132, qv 0), (133, .slice (some ⟨b12, 0, none⟩) 2 2), (134, .int .i64 1), (135, .pointer (some ⟨b12, 0 + 1 * 5, none⟩)), (136, qv ((1 : Int) : Rat)), (137, qv ((3 : Int) : Rat)), (138, qv ((3 : Int) : Rat)), (139, qv ((3 : Int) : Rat)), (140, .pointer (some ⟨b12, 0 + 0 * 5, none⟩)), (141, .pointer (some ⟨b22, 0, none⟩)), (142, .int .i64 5), (143, .int .i64 2), (144, .bool true), (145, .slice (some ⟨b12, 0, none⟩) 2 2), (146, .pointer (some ⟨b22, 2, none⟩)), (147, .int .i64 0), (148, .slice (some ⟨b12, 0, none⟩) 2 2), (149, .pointer (some ⟨b22, 2, none⟩)), (150, .int .i64 0), (151, .pointer (some ⟨b12, 0 + 0 * 5, none⟩)), (152, qv ((3 : Int) : Rat)), (153, .slice (some ⟨b12, 0, none⟩) 2 2), (154, .int .i64 1), (155, .pointer (some ⟨b12, 0 + 1 * 5, none⟩)), (156, qv ((1 : Int) : Rat)), (157, qv ((3 : Int) : Rat)), (158, qv ((3 : Int) : Rat)), (159, qv ((6 : Int) : Rat)), (160, .pointer (some ⟨b12, 0 + 0 * 5, none⟩)), (76, .int .i64 0), (77, .int .i64 (-1)), (92, .slice (some ⟨b8, 0, none⟩) 1 1), (93, .pointer (some ⟨b56, 3, none⟩)), (94, .int .i64 0), (95, .slice (some ⟨b8, 0, none⟩) 1 1), (96, .pointer (some ⟨b56, 3, none⟩)), (97, .int .i64 0), (98, .pointer (some ⟨b8, 0 + 0 * 5, none⟩)), (99, qv 0), (100, .slice (some ⟨b12, 0, none⟩) 2 2), (101, .int .i64 0), (102, .pointer (some ⟨b12, 0 + 0 * 5, none⟩)), (103, qv ((6 : Int) : Rat)), (104, qv ((6 : Int) : Rat)), (105, .pointer (some ⟨b8, 0 + 0 * 5, none⟩))] ?_
  replace hs := hs.to [⟨b56, 62, [.int .i64 2, .int .i64 0, .int .i64 0, .int .i64 0, .bool (ineg (0 : Rat).num), .int .u64 (lo (iabs (0 : Rat).num)), .string (hi (iabs (0 : Rat).num)), .int .u64 (lo (qd (0 : Rat))), .string (hi (qd (0 : Rat)))]⟩, ⟨b32, 60, qc ((3 : Int) : Rat)⟩, ⟨b33, 60, qc ((3 : Int) : Rat)⟩, ⟨b22, 62, [.int .i64 5, .int .i64 0, .int .i64 0, .int .i64 0, .bool (ineg (0 : Rat).num), .int .u64 (lo (iabs (0 : Rat).num)), .string (hi (iabs (0 : Rat).num)), .int .u64 (lo (qd (0 : Rat))), .string (hi (qd (0 : Rat)))]⟩, ⟨b12, 60, (([((6 : Int) : Rat), ((1 : Int) : Rat)] : List Rat)).flatMap qc⟩, ⟨b8, 60, (([((6 : Int) : Rat)] : List Rat)).flatMap qc⟩, ⟨b1, 30, [.int .i64 1, .slice A 2 c, .slice O 1 d]⟩] []
  refine cN ?_
  refine CG.seq ?_
  refine cSL ?_
  refine lS hs [(74, .int .i64 (-1), []), (75, .bool false, [])] ?_
  refine lN ?_
  refine cTo [(3, .pointer (some ⟨b1, 0, none⟩)), (6, .slice none 0 0), (7, .slice (some ⟨b8, 0, none⟩) 1 1), (8, .int .i64 0), (9, .slice Av 2 2), (10, .slice (some ⟨b12, 0, none⟩) 2 2), (13, .int .i64 (-1)), (74, .int .i64 (-1)), (75, .bool false), (78, .pointer (some ⟨b1, 1, none⟩)), (79, .slice A 2 c), (80, .int .i64 0), (81, .pointer (some ⟨(aB A), aO A + 0 * 9, none⟩)), (82, .agg #[.int .i64 2, .int .i64 0, .int .i64 0, .int .i64 0, .bool (ineg (0 : Rat).num), .int .u64 (lo (iabs (0 : Rat).num)), .string (hi (iabs (0 : Rat).num)), .int .u64 (lo (qd (0 : Rat))), .string (hi (qd (0 : Rat)))]), (14, .pointer (some ⟨b56, 0, none⟩)), (83, .slice (some ⟨b12, 0, none⟩) 2 2), (84, .int .i64 0), (85, .pointer (some ⟨b12, 0 + 0 * 5, none⟩)), (86, qv ((6 : Int) : Rat)), (87, .int .i64 1), (88, .bool false), (89, .pointer (some ⟨b56, 0, none⟩)), (90, .int .i64 2), (91, .bool true), (107, .agg #[.int .i64 5, .int .i64 0, .int .i64 0, .int .i64 0, .bool (ineg (0 : Rat).num), .int .u64 (lo (iabs (0 : Rat).num)), .string (hi (iabs (0 : Rat).num)), .int .u64 (lo (qd (0 : Rat))), .string (hi (qd (0 : Rat)))]), (108, .slice Av 2 2), (109, .pointer (some ⟨b22, 1, none⟩)), (110, .int .i64 0), (111, .pointer (some ⟨(aB Av), aO Av + 0 * 5, none⟩)), (112, qv ((3 : Int) : Rat)), (113, .slice Av 2 2), (114, .pointer (some ⟨b22, 2, none⟩)), (115, .int .i64 0), (116, .pointer (some ⟨(aB Av), aO Av + 0 * 5, none⟩)), (117, qv ((3 : Int) : Rat)), (118, .tuple #[qv ((3 : Int) : Rat), qv ((3 : Int) : Rat)]), (106, .tuple #[qv ((3 : Int) : Rat), qv ((3 : Int) : Rat)]), (119, qv ((3 : Int) : Rat)), (120, qv ((3 : Int) : Rat)), (16, .pointer (some ⟨b33, 0, none⟩)), (15, .pointer (some ⟨b32, 0, none⟩)), (121, .pointer (some ⟨b22, 0, none⟩)), (122, .int .i64 5), (123, .int .i64 2), (124, .bool true), (125, .slice (some ⟨b12, 0, none⟩) 2 2), (126, .pointer (some ⟨b22, 1, none⟩)), (127, .int .i64 0), (128, .slice (some ⟨b12, 0, none⟩) 2 2), (129, .pointer (some ⟨b22, 1, none⟩)), (130, .int .i64 0), (131, .pointer (some ⟨b12, 0 + 0 * 5, none⟩)), (132, qv 0), (133, .slice (some ⟨b12, 0, none⟩) 2 2), (134, .int .i64 1), (135, .pointer (some ⟨b12, 0 + 1 * 5, none⟩)), (136, qv ((1 : Int) : Rat)), (137, qv ((3 : Int) : Rat)), (138, qv ((3 : Int) : Rat)), (139, qv ((3 : Int) : Rat)), (140, .pointer (some ⟨b12, 0 + 0 * 5, none⟩)), (141, .pointer (some ⟨b22, 0, none⟩)), (142, .int .i64 5), (143, .int .i64 2), (144, .bool true), (145, .slice (some ⟨b12, 0, none⟩) 2 2), (146, .pointer (some ⟨b22, 2, none⟩)), (147, .int .i64 0), (148, .slice (some ⟨b12, 0, none⟩) 2 2), (149, .pointer (some ⟨b22, 2, none⟩)), (150, .int .i64 0), (151, .pointer (some ⟨b12, 0 + 0 * 5, none⟩)), (152, qv ((3 : Int) : Rat)), (153, .slice (some ⟨b12, 0, none⟩) 2 2), (154, .int .i64 1), (155, .pointer (some ⟨b12, 0 + 1 * 5, none⟩)), (156, qv ((1 : Int) : Rat)), (157, qv ((3 : Int) : Rat)), (158, qv ((3 : Int) : Rat)), (159, qv ((6 : Int) : Rat)), (160, .pointer (some ⟨b12, 0 + 0 * 5, none⟩)), (76, .int .i64 0), (77, .int .i64 (-1)), (92, .slice (some ⟨b8, 0, none⟩) 1 1), (93, .pointer (some ⟨b56, 3, none⟩)), (94, .int .i64 0), (95, .slice (some ⟨b8, 0, none⟩) 1 1), (96, .pointer (some ⟨b56, 3, none⟩)), (97, .int .i64 0), (98, .pointer (some ⟨b8, 0 + 0 * 5, none⟩)), (99, qv 0), (100, .slice (some ⟨b12, 0, none⟩) 2 2), (101, .int .i64 0), (102, .pointer (some ⟨b12, 0 + 0 * 5, none⟩)), (103, qv ((6 : Int) : Rat)), (104, qv ((6 : Int) : Rat)), (105, .pointer (some ⟨b8, 0 + 0 * 5, none⟩))] ?_
  refine cIF ?_
  refine CG.exit ?_
  show CG _ _ _ _ _ _ _ _
  refine cTo [(3, .pointer (some ⟨b1, 0, none⟩)), (6, .slice none 0 0), (7, .slice (some ⟨b8, 0, none⟩) 1 1), (8, .int .i64 0), (9, .slice Av 2 2)] ?_
  refine cSL ?_
  refine lS hs [(161, .agg #[.int .i64 1, .slice A 2 c, .slice O 1 d], [(6, 0, 3)]), (162, .slice Av 2 2, [])] ?_
  refine lC 163 hs (tOutsS A c O d Av 2 _ _ hs.g (hs.f.2.2.2.2.1) (hs.f.2.2.2.1) (hs.f.1)) ?_
  rintro _ w68 h69 hs ⟨Ao, rfl, hAo⟩
  replace hs := (hs.a_SlO hAo)
  refine lS hs [(164, .slice (some ⟨b8, 0, none⟩) 1 1, []), (6, .slice Ao 1 1, []), (7, .slice (some ⟨b8, 0, none⟩) 1 1, []), (8, .int .i64 0, [])] ?_
  refine lN ?_
  refine CG.ret ?_
  have hle : (([((6 : Int) : Rat)] : List Rat) : List Rat) = [((6 : Int) : Rat)] := by decide +kernel
  obtain ⟨h70, hs, sg71, lo72, bc73⟩ := hs.pub 5
  replace hs := (hs.to [⟨b56, 62, [.int .i64 2, .int .i64 0, .int .i64 0, .int .i64 0, .bool (ineg (0 : Rat).num), .int .u64 (lo (iabs (0 : Rat).num)), .string (hi (iabs (0 : Rat).num)), .int .u64 (lo (qd (0 : Rat))), .string (hi (qd (0 : Rat)))]⟩, ⟨b32, 60, qc ((3 : Int) : Rat)⟩, ⟨b33, 60, qc ((3 : Int) : Rat)⟩, ⟨b22, 62, [.int .i64 5, .int .i64 0, .int .i64 0, .int .i64 0, .bool (ineg (0 : Rat).num), .int .u64 (lo (iabs (0 : Rat).num)), .string (hi (iabs (0 : Rat).num)), .int .u64 (lo (qd (0 : Rat))), .string (hi (qd (0 : Rat)))]⟩, ⟨b12, 60, (([((6 : Int) : Rat), ((1 : Int) : Rat)] : List Rat)).flatMap qc⟩, ⟨b1, 30, [.int .i64 1, .slice A 2 c, .slice O 1 d]⟩] []).a_SlO (SlO.of_flat (sz := 5) (f := qc) (d := 0) (b := b8) (o := 0) (l := ([((6 : Int) : Rat)] : List Rat)) (fun _ => rfl) sg71)
  have hfin := (hs.f.1)
  rw [hle] at hfin
  exact hs.ret [] (.tuple #[.slice Ao 1 1, .slice (some ⟨b8, 0, none⟩) 1 1, .int .i64 0]) (⟨_, _, rfl, (hs.f.2.1), hfin⟩)

set_option maxRecDepth 100000 in
set_option maxHeartbeats 600000 in
theorem lSquare  (w : World) (h : Hp) (g : G w h) :
    Calls Tryz.prog 17 #[] w (Ret w h fun v h1 => ∃ A O, v = .agg #[.int .i64 1, .slice A 2 2, .slice O 1 1] ∧ SlO 9 stc stp0 h1 A [sqN, sqM] ∧ SlO 1 i64c 0 h1 O [1]) := by
  have hs := SS.start g
  refine go Tryz.func17 [] rfl ?_
  refine cSL ?_
  refine lA 0 30 ([.int .i64 0, .slice none 0 0, .slice none 0 0]) hs (fun b1 w2 h3 hs => ?_)
  refine lN ?_
  refine cSL ?_
  refine lS hs [(1, .agg #[.int .i64 2, .int .i64 0, .int .i64 0, .int .i64 0, .bool false, .int .u64 0, .string (⟨#[]⟩), .int .u64 0, .string (⟨#[]⟩)], []), (2, .agg #[.int .i64 5, .int .i64 0, .int .i64 0, .int .i64 0, .bool false, .int .u64 0, .string (⟨#[]⟩), .int .u64 0, .string (⟨#[]⟩)], [])] ?_
  refine lR 3 62 2 ([.int .i64 2, .int .i64 0, .int .i64 0, .int .i64 0, .bool false, .int .u64 0, .string (⟨#[]⟩), .int .u64 0, .string (⟨#[]⟩), .int .i64 5, .int .i64 0, .int .i64 0, .int .i64 0, .bool false, .int .u64 0, .string (⟨#[]⟩), .int .u64 0, .string (⟨#[]⟩)]) hs (fun b4 w5 h6 hs => ?_)
  refine lR 4 3 1 ([.int .i64 1]) hs (fun b8 w9 h10 hs => ?_)
  refine lS hs [(5, .agg #[.int .i64 1, .slice (some ⟨b4, 0, none⟩) 2 2, .slice (some ⟨b8, 0, none⟩) 1 1], [])] ?_
  refine lP 0 0 ([.int .i64 1, .slice (some ⟨b4, 0, none⟩) 2 2, .slice (some ⟨b8, 0, none⟩) 1 1]) hs (fun w12 hs => ?_)
  refine lN ?_
  refine CG.ret ?_
  exact hs.ret [(0, 0, 3)] (.agg #[.int .i64 1, .slice (some ⟨b4, 0, none⟩) 2 2, .slice (some ⟨b8, 0, none⟩) 1 1]) ⟨_, _, rfl, SlO.of_flat (sz := 9) (f := stc) (d := stp0) (l := [sqN, sqM]) (fun _ => rfl) (show Seg _ _ _ ([sqN, sqM].flatMap stc) from (hs.f.2.1)), SlO.of_flat (sz := 1) (f := i64c) (d := 0) (l := [1]) (fun _ => rfl) (hs.f.1)⟩

set_option maxRecDepth 100000 in
set_option maxHeartbeats 600000 in
theorem lKnown28  (w : World) (h : Hp) (g : G w h) :
    Calls Tryz.prog 7 #[] w (Ret w h fun v _ => v = .bool true) := by
  have hs := SS.start g
  refine go Tryz.func7 [] rfl ?_
  refine cSL ?_
  refine lS hs [(0, .bool false, [])] ?_
  refine lN ?_
  refine cSL ?_
  refine lC 5 hs (lSquare _ _ hs.g) ?_
  rintro _ w1 h2 hs ⟨A, O, rfl, hA, hO⟩
  replace hs := ((hs.a_SlO hA).a_SlO hO)
  refine lC 6 hs (Ret.of_ext hs.g (cOf (3) (by decide) (by decide) _)) ?_
  rintro _ w3 h4 hs rfl
  refine lR 7 60 1 (qc ((3 : Int) : Rat)) hs (fun b5 w6 h7 hs => ?_)
  replace hs := hs.a_SlO (SlO.of_flat (sz := 5) (f := qc) (d := 0) (l := [((3 : Int) : Rat)]) (fun _ => rfl) (hs.f.1))
  refine lC 8 hs (Ret.of_ext hs.g (cOf (1) (by decide) (by decide) _)) ?_
  rintro _ w10 h11 hs rfl
  refine lR 9 60 1 (qc ((1 : Int) : Rat)) hs (fun b12 w13 h14 hs => ?_)
  replace hs := hs.a_SlO (SlO.of_flat (sz := 5) (f := qc) (d := 0) (l := [((1 : Int) : Rat)]) (fun _ => rfl) (hs.f.1))
  refine lC 10 hs (tBackS A 2 O 1 (some ⟨b5, 0, none⟩) 1 (some ⟨b12, 0, none⟩) 1 _ _ hs.g (hs.f.2.2.2.2.2.1) (hs.f.2.2.2.2.1) (hs.f.2.2.1) (hs.f.1)) ?_
  rintro _ w17 h18 hs ⟨Bo, Bg, rfl, hBo, hBg⟩
  replace hs := ((hs.a_SlO hBo).a_SlO hBg)
  have hlb9 : [((9 : Int) : Rat)].length = 1 := rfl
  have hlb6 : [((6 : Int) : Rat)].length = 1 := rfl
  refine lS hs [(4, .tuple #[.slice Bo 1 1, .slice Bg 1 1, .int .i64 0], []), (11, .slice Bo 1 1, []), (12, .slice Bg 1 1, []), (13, .int .i64 0, []), (1, .slice Bo 1 1, []), (2, .slice Bg 1 1, []), (3, .int .i64 0, [])] ?_
  refine lN ?_
  refine cSL ?_
  refine lS hs [(14, .int .i64 0, []), (15, .bool true, []), (16, .bool true, []), (17, .slice Bo 1 1, []), (18, .int .i64 1, []), (19, .bool true, []), (20, .bool true, []), (21, .bool true, []), (22, .slice Bo 1 1, [])] ?_
  refine lX 23 Bo 1 1 5 0 0 ((hs.f.2.1).ok (by omega)) ?_
  refine lH 24 (qv (([((9 : Int) : Rat)]).getD 0 0)) hs ((hs.f.2.1).el 0 (by omega)) ?_
  refine lC 25 hs (hIs (([((9 : Int) : Rat)]).getD 0 0) 9 1 (by decide +kernel) (by decide +kernel) (by decide) (by decide) (by decide) (by decide) _ _ hs.g) ?_
  rintro _ w19 h20 hs rfl
  have hb21 : (sameQ (([((9 : Int) : Rat)]).getD 0 0) (mkRat 9 (iabs 1))) = true := by decide +kernel
  rw [hb21]
  refine lS hs [(26, .bool true, []), (27, .bool true, []), (28, .slice Bg 1 1, []), (29, .int .i64 1, []), (30, .bool true, []), (31, .bool true, []), (32, .bool true, []), (33, .slice Bg 1 1, [])] ?_
  refine lX 34 Bg 1 1 5 0 0 ((hs.f.1).ok (by omega)) ?_
  refine lH 35 (qv (([((6 : Int) : Rat)]).getD 0 0)) hs ((hs.f.1).el 0 (by omega)) ?_
  refine lC 36 hs (hIs (([((6 : Int) : Rat)]).getD 0 0) 6 1 (by decide +kernel) (by decide +kernel) (by decide) (by decide) (by decide) (by decide) _ _ hs.g) ?_
  rintro _ w22 h23 hs rfl
  have hb24 : (sameQ (([((6 : Int) : Rat)]).getD 0 0) (mkRat 6 (iabs 1))) = true := by decide +kernel
  rw [hb24]
  refine lS hs [(37, .bool true, []), (0, .bool true, [])] ?_
  refine lN ?_
  refine cTo [(0, .bool true)] ?_
  refine CG.ret ?_
  exact hs.ret [] (.bool true) rfl

end Go.Proofs.YtmkonbkdjmfjhaaGreatDoor
