/- Contracts of net.known, Check, of nets of all kinds; slices.Clone, net.flat, Flat. -/
import Derived.Test.YtbhpcpkcjgkcpaaGreatDoorZon
import Derived.Test.YtbhpcpkcjgkcpaaGreatDoorKnA
namespace Go.Proofs.YtbhpcpkcjgkcpaaGreatDoor
open Go.RowKit


/-- A net that is well formed: d i numbers go into layer i. -/
structure Net3 (ls : List Lay) (d : Nat → Nat) : Prop where
  len : 1 ≤ ls.length ∧ ls.length ≤ 4
  first : d 0 ≤ 20
  lay : ∀ i, i < ls.length → Mat (ls.getD i lay0).W (d (i + 1)) (d i) ∧ (ls.getD i lay0).B.length = d (i + 1) ∧ d (i + 1) ≤ 12 ∧ ((ls.getD i lay0).k = 1 ∨ (ls.getD i lay0).k = 2 ∨ (ls.getD i lay0).k = 3)
theorem Net3.small {ls : List Lay} {d : Nat → Nat} (o : Net3 ls d) (i : Nat) (h : i < ls.length) : d i ≤ 20 := by
  cases i with
  | zero => exact o.first
  | succ i => have := (o.lay i (by omega)).2.2.1; omega

set_option maxRecDepth 100000 in
set_option maxHeartbeats 600000 in
theorem nKnown3a  (w : World) (h : Hp) (g : G w h) :
    Calls Tryz.prog 73 #[.int .i64 3] w (Ret w h fun v _ => v = .bool true) := by
  have hs := SS.start g
  refine go Tryz.func73 [(0, .int .i64 3)] rfl ?_
  refine cSL ?_
  refine lS hs [(2, .bool false, [])] ?_
  refine lN ?_
  refine cSL ?_
  refine lS hs [(3, .int .i64 3, []), (4, .bool false, []), (5, .bool false, []), (6, .int .i64 3, []), (7, .bool false, []), (8, .bool false, []), (9, .bool false, []), (10, .int .i64 3, []), (11, .bool true, []), (12, .bool true, []), (2, .bool true, [])] ?_
  refine lN ?_
  refine CG.ret ?_
  exact hs.ret [] (.bool true) rfl


theorem nKnown3 (k : Int) (hk : k = 1 ∨ k = 2 ∨ k = 3) (w : World) (h : Hp) (g : G w h) : Calls Tryz.prog 73 #[.int .i64 k] w (Ret w h fun v _ => v = .bool true) := by
  rcases hk with rfl | rfl | rfl
  · exact nKnown1 w h g
  · exact nKnown2 w h g
  · exact nKnown3a w h g

set_option maxRecDepth 100000 in
set_option maxHeartbeats 600000 in
theorem nCheck3 (A : Option Addr) (cap : Nat) (ts : List LV) (ls : List Lay) (d : Nat → Nat) (hO : Net3 ls d) (w : World) (h : Hp) (g : G w h) (hA : SlO 3 lvc lvd h A ts) (hN : NetL h ts ls) :
    Calls Tryz.prog 34 #[.agg #[.slice A ts.length cap]] w (Ret w h fun v _ => v = .int .i64 0) := by
  have hs := SS.start g
  replace hs := ((hs.a_SlO hA).add (K := fun h_ => NetL h_ ts ls) hN)
  have hl := (hs.f.1).len
  obtain ⟨o1, o2⟩ := hO.len
  have o3 := hO.first
  refine go Tryz.func34 [(0, .agg #[.slice A ts.length cap])] rfl ?_
  refine cSL ?_
  refine lA 1 25 ([.slice A ts.length cap]) hs (fun b1 w2 h3 hs => ?_)
  refine lS hs [(2, .int .i64 0, [])] ?_
  refine lN ?_
  refine CG.seq ?_
  refine cSL ?_
  refine lS hs [(5, .pointer (some ⟨b1, 0, none⟩), []), (6, .slice A ts.length cap, [(0, 0, 1)]), (7, .int .i64 (ts.length : Nat), [])] ?_
  have hb4 : (decide (((ts.length : Nat) : Int) < (1 : Int))) = false := decide_eq_false (by omega)
  have phb4 := of_decide_eq_false hb4
  refine lB 8 hb4 ?_
  refine lS hs [(9, .bool false, []), (10, .pointer (some ⟨b1, 0, none⟩), []), (11, .slice A ts.length cap, [(0, 0, 1)]), (12, .int .i64 (ts.length : Nat), [])] ?_
  have hb5 : (decide ((4 : Int) < ((ts.length : Nat) : Int))) = false := decide_eq_false (by omega)
  have phb5 := of_decide_eq_false hb5
  refine lB 13 hb5 ?_
  refine lS hs [(14, .bool false, [])] ?_
  refine lN ?_
  refine cIF ?_
  refine CG.skipN ?_
  refine CG.seq ?_
  refine cSL ?_
  refine lS hs [(15, .pointer (some ⟨b1, 0, none⟩), []), (16, .slice A ts.length cap, [(0, 0, 1)]), (17, .int .i64 (ts.length : Nat), []), (18, .int .i64 0, [])] ?_
  refine lN ?_
  refine CG.block ?_
  refine cTo [(1, .pointer (some ⟨b1, 0, none⟩)), (16, .slice A ts.length cap), (17, .int .i64 (ts.length : Nat)), (18, .int .i64 0)] ?_
  refine CG.loop (fun μ_ Γ w_ => ∃ (k : Nat) (h_ : Hp), μ_ = ls.length - k ∧ Γ = [(1, .pointer (some ⟨b1, 0, none⟩)), (16, .slice A ts.length cap), (17, .int .i64 (ts.length : Nat)), (18, .int .i64 (k : Nat))] ∧ SS w h w_ h_ [⟨b1, 25, [.slice A ts.length cap]⟩] [] [fun h_ => NetL h_ ts ls, fun h_ => SlO 3 lvc lvd h_ A ts] ∧ (k ≤ ls.length)) _ ⟨0, h3, rfl, rfl, hs.to _ _, Nat.zero_le _⟩ ?_
  rintro _ _ w6 ⟨k, h7, hm8, rfl, hs, hk⟩
  have hk1 : 0 < k → (ls.getD (k - 1) lay0).W.length = d k := fun h0 => by have := (hO.lay (k - 1) (by omega)).1.rows; rw [this]; congr 1; omega
  have hsm := fun h0 => hO.small k h0
  refine cSL ?_
  cases hb9 : (decide (((k : Nat) : Int) < ((ts.length : Nat) : Int)))
  ·
    have phb9 := of_decide_eq_false hb9
    refine lB 19 hb9 ?_
    refine lN ?_
    refine CG.seq ?_
    refine cIF ?_
    refine CG.exit ?_
    show CG _ _ _ _ _ _ _ _
    refine cSL ?_
    refine lS hs [(2, .int .i64 0, [])] ?_
    refine lN ?_
    refine CG.ret ?_
    exact hs.ret [] (.int .i64 0) rfl
  ·
    have phb9 := of_decide_eq_true hb9
    refine lB 19 hb9 ?_
    refine lN ?_
    refine CG.seq ?_
    refine cIT ?_
    refine CG.skipN ?_
    refine CG.seq ?_
    refine CG.block ?_
    refine cSL ?_
    refine lS hs [(20, .int .i64 (k : Nat), [])] ?_
    refine lX 21 A ts.length cap 3 (k : Nat) k ((hs.f.2.1).ok (by omega)) ?_
    obtain ⟨ekx, ⟨AWx, cWx, usx, eWx, hcWx, hAWx, hUx⟩, ⟨ABx, cBx, eBx, hcBx, hABx⟩⟩ := (hs.f.1).at_ k (by omega)
    obtain ⟨mtx, lbx, r12x, kdx⟩ := hO.lay k (by omega)
    have lux := hUx.len; have mrx := mtx.rows; have mpx := mtx.rpos; have mcx := mtx.cpos; have m0x := mtx.row 0 (by omega)
    replace hs := (((hs.a_SlO hAWx).add (K := fun h_ => QVs h_ usx (ls.getD k lay0).W) hUx).a_SlO hABx)
    refine lHe 22 (.agg #[.int .i64 ((ts.getD k lvd).1), (ts.getD k lvd).2.1, (ts.getD k lvd).2.2]) hs ((hs.f.2.2.2.2.1).el k (by omega)) (by rw [ekx, eWx, eBx]) ?_
    refine lA 4 57 ([.int .i64 0, .slice none 0 0, .slice none 0 0]) hs (fun b10 w11 h12 hs => ?_)
    refine lS hs [(3, .int .i64 (k : Nat), [])] ?_
    refine lP 0 0 ([.int .i64 ((ls.getD k lay0).k), .slice AWx usx.length cWx, .slice ABx ((ls.getD k lay0).B.length) cBx]) hs (fun w13 hs => ?_)
    refine lN ?_
    refine CG.seq ?_
    refine cSL ?_
    refine lS hs [(23, .pointer (some ⟨b10, 1, none⟩), []), (24, .slice AWx usx.length cWx, [(0, 1, 1)])] ?_
    refine lC 25 hs (mRight AWx cWx usx (ls.getD k lay0).W (d (k + 1)) (d k) mtx (by omega) (by have := hO.small k (by omega); omega) _ _ hs.g (hs.f.2.2.1) (hs.f.2.1)) ?_
    rintro _ w14 h15 hs rfl
    refine lS hs [(26, .bool false, []), (27, .bool false, []), (28, .pointer (some ⟨b10, 1, none⟩), []), (29, .slice AWx usx.length cWx, [(0, 1, 1)]), (30, .int .i64 (usx.length : Nat), [])] ?_
    have hb16 : (decide ((12 : Int) < ((usx.length : Nat) : Int))) = false := decide_eq_false (by omega)
    have phb16 := of_decide_eq_false hb16
    refine lB 31 hb16 ?_
    refine lS hs [(32, .bool false, []), (33, .bool false, []), (34, .pointer (some ⟨b10, 2, none⟩), []), (35, .slice ABx ((ls.getD k lay0).B.length) cBx, [(0, 2, 1)]), (36, .int .i64 ((ls.getD k lay0).B.length : Nat), []), (37, .pointer (some ⟨b10, 1, none⟩), []), (38, .slice AWx usx.length cWx, [(0, 1, 1)]), (39, .int .i64 (usx.length : Nat), [])] ?_
    have hb17 : ((((ls.getD k lay0).B.length : Nat) : Int) != ((usx.length : Nat) : Int)) = false := bneF (by omega)
    have phb17 := eqOfBne hb17
    refine lB 40 hb17 ?_
    refine lS hs [(41, .bool false, [])] ?_
    refine lN ?_
    refine cTo [(1, .pointer (some ⟨b1, 0, none⟩)), (16, .slice A ts.length cap), (17, .int .i64 (ts.length : Nat)), (18, .int .i64 (k : Nat)), (4, .pointer (some ⟨b10, 0, none⟩)), (3, .int .i64 (k : Nat)), (41, .bool false)] ?_
    refine cIF ?_
    refine CG.skipN ?_
    refine CG.seq ?_
    refine CG.seq ?_
    refine cR 30 [] mixed hs al_nil ?_
    refine eV 0 42 (.int .i64 (k : Nat)) ?_
    cases hb18 : (((k : Nat) : Int) == (0 : Int))
    ·
      have phb18 := neOfBeq hb18
      refine eB 1 43 hb18 ?_
      refine eV 2 44 (.bool false) ?_
      refine eG 3 45 ?_
      refine eG 4 46 ?_
      refine eG 5 47 ?_
      refine eG 6 48 ?_
      refine eG 7 49 ?_
      refine eG 8 50 ?_
      refine eV 9 51 (.bool false) ?_
      refine eV 10 52 (.bool false) ?_
      refine eV 11 53 (.int .i64 (k : Nat)) ?_
      have hb19 : (decide ((0 : Int) < ((k : Nat) : Int))) = true := decide_eq_true (by omega)
      have phb19 := of_decide_eq_true hb19
      refine eB 12 54 hb19 ?_
      refine eV 13 55 (.bool true) ?_
      refine eV 14 56 (.pointer (some ⟨b10, 1, none⟩)) ?_
      refine eO 15 57 [(0, 1, 1)] (.slice AWx usx.length cWx) hs ?_
      refine eX 16 58 AWx usx.length cWx 1 0 0 ((hs.f.2.2.1).ok (by omega)) ?_
      obtain ⟨Arq, crq, erq, hcrq, hRrq⟩ := (hs.f.2.1).at_ 0 (by omega)
      replace hs := (hs.a_SlO hRrq)
      refine eHe 17 59 (usx.getD 0 undef) hs ((hs.f.2.2.2.1).el 0 (by omega)) erq ?_
      refine eV 18 60 (.int .i64 ((((ls.getD k lay0).W).getD 0 []).length : Nat)) ?_
      refine eV 19 61 (.pointer (some ⟨b1, 0, none⟩)) ?_
      refine eO 20 62 [(1, 0, 1)] (.slice A ts.length cap) hs ?_
      refine eV 21 63 (.int .i64 (k : Nat)) ?_
      refine eIn 22 64 ((k : Nat) - 1) (k - 1) ?_
      refine eX 23 65 A ts.length cap 3 (k - 1 : Nat) (k - 1) ((hs.f.2.2.2.2.2.1).ok (by omega)) ?_
      refine eV 24 66 (.pointer (some ⟨(aB A), aO A + (k - 1) * 3 + 1, none⟩)) ?_
      obtain ⟨eky, ⟨AWy, cWy, usy, eWy, hcWy, hAWy, hUy⟩, ⟨ABy, cBy, eBy, hcBy, hABy⟩⟩ := (hs.f.2.2.2.2.1).at_ (k - 1) (by omega)
      obtain ⟨mty, lby, r12y, kdy⟩ := hO.lay (k - 1) (by omega)
      have luy := hUy.len; have mry := mty.rows; have mpy := mty.rpos; have mcy := mty.cpos; have m0y := mty.row 0 (by omega)
      replace hs := (((hs.a_SlO hAWy).add (K := fun h_ => QVs h_ usy (ls.getD (k - 1) lay0).W) hUy).a_SlO hABy)
      refine eHe 25 67 ((ts.getD (k - 1) lvd).2.1) hs (((hs.f.2.2.2.2.2.2.2.2.1).el (k - 1) (by omega)).part 1 1) eWy ?_
      refine eV 26 68 (.int .i64 (usy.length : Nat)) ?_
      have hb20 : ((((((ls.getD k lay0).W).getD 0 []).length : Nat) : Int) != ((usy.length : Nat) : Int)) = false := bneF (by have := hk1 (by omega); omega)
      have phb20 := eqOfBne hb20
      refine eB 27 69 hb20 ?_
      refine eV 28 70 (.bool false) ?_
      refine eV 29 71 (.bool false) ?_
      refine eD0 hs (fun w21 h22 hs => ?_)
      refine tN ?_
      refine cTo [(1, .pointer (some ⟨b1, 0, none⟩)), (16, .slice A ts.length cap), (17, .int .i64 (ts.length : Nat)), (18, .int .i64 (k : Nat)), (4, .pointer (some ⟨b10, 0, none⟩)), (71, .bool false)] ?_
      refine cIF ?_
      refine CG.skipN ?_
      refine cSL ?_
      refine lS hs [(72, .pointer (some ⟨b10, 0, none⟩), []), (73, .int .i64 ((ls.getD k lay0).k), [(0, 0, 1)])] ?_
      refine lC 74 hs (nKnown3 _ kdx _ _ hs.g) ?_
      rintro _ w23 h24 hs rfl
      refine lS hs [(75, .bool false, [])] ?_
      refine lN ?_
      refine cIF ?_
      refine CG.skipN ?_
      refine CG.listed ?_
      refine lIn 76 ((k : Nat) + 1) (k + 1) ?_
      refine lS hs [(18, .int .i64 (k + 1 : Nat), [])] ?_
      refine lD ?_
      intro a_ ka
      have q25 : (k + 1) ≤ ls.length := by omega
      replace hs := hs.tl.tl.tl.tl.tl.tl.tl
      replace hs := hs.drop 1 0
      refine ⟨_, _, ?_, ⟨k + 1, h24, rfl, rfl, hs.to _ _, q25⟩, ka.to [(1, .pointer (some ⟨b1, 0, none⟩)), (16, .slice A ts.length cap), (17, .int .i64 (ts.length : Nat)), (18, .int .i64 ((k + 1) : Nat))] (by kernel_rfl)⟩
      omega
    ·
      have phb18 := eq_of_beq hb18
      refine eB 1 43 hb18 ?_
      refine eV 2 44 (.bool true) ?_
      refine eV 3 45 (.pointer (some ⟨b10, 1, none⟩)) ?_
      refine eO 4 46 [(0, 1, 1)] (.slice AWx usx.length cWx) hs ?_
      refine eX 5 47 AWx usx.length cWx 1 0 0 ((hs.f.2.2.1).ok (by omega)) ?_
      obtain ⟨Arp, crp, erp, hcrp, hRrp⟩ := (hs.f.2.1).at_ 0 (by omega)
      replace hs := (hs.a_SlO hRrp)
      refine eHe 6 48 (usx.getD 0 undef) hs ((hs.f.2.2.2.1).el 0 (by omega)) erp ?_
      refine eV 7 49 (.int .i64 ((((ls.getD k lay0).W).getD 0 []).length : Nat)) ?_
      have hb26 : (decide ((20 : Int) < (((((ls.getD k lay0).W).getD 0 []).length : Nat) : Int))) = false := decide_eq_false (by omega)
      have phb26 := of_decide_eq_false hb26
      refine eB 8 50 hb26 ?_
      refine eV 9 51 (.bool false) ?_
      refine eV 10 52 (.bool false) ?_
      refine eV 11 53 (.int .i64 (k : Nat)) ?_
      have hb27 : (decide ((0 : Int) < ((k : Nat) : Int))) = false := decide_eq_false (by omega)
      have phb27 := of_decide_eq_false hb27
      refine eB 12 54 hb27 ?_
      refine eV 13 55 (.bool false) ?_
      refine eG 14 56 ?_
      refine eG 15 57 ?_
      refine eG 16 58 ?_
      refine eG 17 59 ?_
      refine eG 18 60 ?_
      refine eG 19 61 ?_
      refine eG 20 62 ?_
      refine eG 21 63 ?_
      refine eG 22 64 ?_
      refine eG 23 65 ?_
      refine eG 24 66 ?_
      refine eG 25 67 ?_
      refine eG 26 68 ?_
      refine eG 27 69 ?_
      refine eV 28 70 (.bool false) ?_
      refine eV 29 71 (.bool false) ?_
      refine eD0 hs (fun w28 h29 hs => ?_)
      refine tN ?_
      refine cTo [(1, .pointer (some ⟨b1, 0, none⟩)), (16, .slice A ts.length cap), (17, .int .i64 (ts.length : Nat)), (18, .int .i64 (k : Nat)), (4, .pointer (some ⟨b10, 0, none⟩)), (71, .bool false)] ?_
      refine cIF ?_
      refine CG.skipN ?_
      refine cSL ?_
      refine lS hs [(72, .pointer (some ⟨b10, 0, none⟩), []), (73, .int .i64 ((ls.getD k lay0).k), [(0, 0, 1)])] ?_
      refine lC 74 hs (nKnown3 _ kdx _ _ hs.g) ?_
      rintro _ w30 h31 hs rfl
      refine lS hs [(75, .bool false, [])] ?_
      refine lN ?_
      refine cIF ?_
      refine CG.skipN ?_
      refine CG.listed ?_
      refine lIn 76 ((k : Nat) + 1) (k + 1) ?_
      refine lS hs [(18, .int .i64 (k + 1 : Nat), [])] ?_
      refine lD ?_
      intro a_ ka
      have q32 : (k + 1) ≤ ls.length := by omega
      replace hs := hs.tl.tl.tl.tl
      replace hs := hs.drop 1 0
      refine ⟨_, _, ?_, ⟨k + 1, h31, rfl, rfl, hs.to _ _, q32⟩, ka.to [(1, .pointer (some ⟨b1, 0, none⟩)), (16, .slice A ts.length cap), (17, .int .i64 (ts.length : Nat)), (18, .int .i64 ((k + 1) : Nat))] (by kernel_rfl)⟩
      omega


/-- All numbers of a net. -/
def flatL (L : Lay) : List Rat := L.W.flatten ++ L.B
def flatq (ls : List Lay) : List Rat := ls.flatMap flatL
theorem flatq_snoc (ls : List Lay) (L : Lay) : flatq (ls ++ [L]) = flatq ls ++ L.W.flatten ++ L.B := by simp [flatq, flatL]
theorem flatq_take {ls : List Lay} {k : Nat} (h : k < ls.length) : flatq (ls.take (k + 1)) = flatq (ls.take k) ++ (ls.getD k lay0).W.flatten ++ (ls.getD k lay0).B := by rw [take_snoc' lay0 h, flatq_snoc]
theorem flat_take {W : List (List Rat)} {i : Nat} (h : i < W.length) : (W.take (i + 1)).flatten = (W.take i).flatten ++ W.getD i [] := by rw [take_snoc' [] h]; simp
theorem flat_len {c : Nat} : ∀ {W : List (List Rat)}, (∀ r ∈ W, r.length = c) → W.flatten.length = W.length * c
  | [], _ => by simp
  | r :: W, h => by
    rw [List.flatten_cons, List.length_append, h r (by simp), flat_len (fun s hs => h s (by simp [hs])), List.length_cons, Nat.succ_mul]; omega
theorem getD_mem' {α : Type} {l : List α} {x d : α} (h : x ∈ l) : ∃ i, i < l.length ∧ l.getD i d = x := by
  obtain ⟨i, hi, e⟩ := List.mem_iff_getElem.1 h
  exact ⟨i, hi, by simp [hi, e]⟩
theorem Mat.mem {W : List (List Rat)} {r c : Nat} (m : Mat W r c) : ∀ x ∈ W, x.length = c := fun x hx => by
  obtain ⟨i, hi, e⟩ := getD_mem' (d := []) hx
  rw [← e]; exact m.row i (by rw [← m.rows]; exact hi)
theorem take_flat_len {W : List (List Rat)} {r c : Nat} (m : Mat W r c) (i : Nat) (hi : i ≤ r) : (W.take i).flatten.length = i * c := by
  rw [flat_len (c := c) (fun x hx => m.mem x (List.mem_of_mem_take hx)), List.length_take, m.rows]; congr 1; omega
theorem flatq_len {ls : List Lay} {d : Nat → Nat} (o : Net3 ls d) (k : Nat) (hk : k ≤ ls.length) : (flatq (ls.take k)).length ≤ k * 252 := by
  induction k with
  | zero => simp [flatq]
  | succ k ih =>
    have h1 := ih (by omega)
    obtain ⟨m, hb, h12, _⟩ := o.lay k (by omega)
    have hc := o.small k (by omega)
    rw [flatq_take (by omega), List.length_append, List.length_append, flat_len m.mem, m.rows, hb]
    have : d (k + 1) * d k ≤ 12 * 20 := Nat.mul_le_mul h12 hc
    omega
theorem flatq_pos {ls : List Lay} {d : Nat → Nat} (o : Net3 ls d) : 0 < (flatq ls).length := by
  have h0 := o.len.1
  obtain ⟨m, hb, _, _⟩ := o.lay 0 (by omega)
  cases ls with
  | nil => simp at h0
  | cons L ls =>
    have hp : 0 < d 1 := m.rpos
    have hb' : L.B.length = d 1 := hb
    have : (flatq (L :: ls)).length = (L.W.flatten.length + L.B.length) + (flatq ls).length := by simp [flatq, flatL]; omega
    omega

set_option maxRecDepth 100000 in
set_option maxHeartbeats 600000 in
theorem nflat (A : Option Addr) (cap : Nat) (ts : List LV) (ls : List Lay) (d : Nat → Nat) (hO : Net3 ls d) (w : World) (h : Hp) (g : G w h) (hA : SlO 3 lvc lvd h A ts) (hN : NetL h ts ls) :
    Calls Tryz.prog 68 #[.agg #[.slice A ts.length cap]] w (Ret w h fun v h1 => SlN h.size 45 qc h1 v (flatq ls)) := by
  have hs := SS.start g
  replace hs := ((hs.a_SlO hA).add (K := fun h_ => NetL h_ ts ls) hN)
  have hl := (hs.f.1).len
  obtain ⟨o1, o2⟩ := hO.len
  have o3 := hO.first
  refine go Tryz.func68 [(0, .agg #[.slice A ts.length cap])] rfl ?_
  refine cSL ?_
  refine lA 1 25 ([.slice A ts.length cap]) hs (fun b1 w2 h3 hs => ?_)
  refine lS hs [(2, .slice none 0 0, [])] ?_
  refine lN ?_
  refine cSL ?_
  refine lS hs [(3, .slice none 0 0, [])] ?_
  refine lN ?_
  refine CG.seq ?_
  refine cSL ?_
  refine lS hs [(8, .pointer (some ⟨b1, 0, none⟩), []), (9, .slice A ts.length cap, [(0, 0, 1)]), (10, .int .i64 (ts.length : Nat), []), (11, .int .i64 0, [])] ?_
  refine lN ?_
  refine CG.block ?_
  replace hs := hs.nil 45 5
  refine cTo [(2, .slice none 0 0), (9, .slice A ts.length cap), (10, .int .i64 (ts.length : Nat)), (11, .int .i64 0), (3, .slice none 0 0)] ?_
  refine CG.loop (fun μ_ Γ w_ => ∃ (k : Nat) (saA : Option Addr) (sac : Nat) (al : List Rat) (h_ : Hp), μ_ = ls.length - k ∧ Γ = [(2, .slice none 0 0), (9, .slice A ts.length cap), (10, .int .i64 (ts.length : Nat)), (11, .int .i64 (k : Nat)), (3, .slice saA (al).length sac)] ∧ SS w h w_ h_ [⟨b1, 25, [.slice A ts.length cap]⟩] [⟨45, 5, saA, sac, (al).length, (al).flatMap qc⟩] [fun h_ => NetL h_ ts ls, fun h_ => SlO 3 lvc lvd h_ A ts] ∧ (k ≤ ls.length) ∧ (al = flatq (ls.take k))) _ ⟨0, none, 0, [], h3, rfl, rfl, hs.to _ _, Nat.zero_le _, rfl⟩ ?_
  rintro _ _ w4 ⟨k, saA, sac, al, h5, hm6, rfl, hs, hk, hal⟩
  have hsm := fun h0 => hO.small k h0
  have hfl := flatq_len hO k hk
  rw [← hal] at hfl
  refine cSL ?_
  cases hb7 : (decide (((k : Nat) : Int) < ((ts.length : Nat) : Int)))
  ·
    have phb7 := of_decide_eq_false hb7
    refine lB 12 hb7 ?_
    refine lN ?_
    refine CG.seq ?_
    refine cIF ?_
    refine CG.exit ?_
    show CG _ _ _ _ _ _ _ _
    refine cSL ?_
    refine lS hs [(31, .slice saA (al).length sac, []), (2, .slice saA (al).length sac, [])] ?_
    refine lN ?_
    refine CG.ret ?_
    have hkn : k = ls.length := by omega
    subst hkn
    rw [List.take_length] at hal
    subst hal
    have hps := flatq_pos hO
    obtain ⟨hq, bq, spq, hs, rfl, hcq⟩ := hs.pubn 0 (A := saA) (c := sac) (ty := 45) (sz := 5) (l := flatq ls) (f := qc) hps
    exact hs.ret [] (.slice (some ⟨bq, 0, none⟩) (flatq ls).length sac) (⟨bq, _, spq, rfl, hcq, hs.f.1⟩)
  ·
    have phb7 := of_decide_eq_true hb7
    refine lB 12 hb7 ?_
    refine lN ?_
    refine CG.seq ?_
    refine cIT ?_
    refine CG.skipN ?_
    refine CG.seq ?_
    refine CG.block ?_
    refine cSL ?_
    refine lX 13 A ts.length cap 3 (k : Nat) k ((hs.f.2.1).ok (by omega)) ?_
    obtain ⟨ekx, ⟨AWx, cWx, usx, eWx, hcWx, hAWx, hUx⟩, ⟨ABx, cBx, eBx, hcBx, hABx⟩⟩ := (hs.f.1).at_ k (by omega)
    obtain ⟨mtx, lbx, r12x, kdx⟩ := hO.lay k (by omega)
    have lux := hUx.len; have mrx := mtx.rows; have mpx := mtx.rpos; have mcx := mtx.cpos; have m0x := mtx.row 0 (by omega)
    replace hs := (((hs.a_SlO hAWx).add (K := fun h_ => QVs h_ usx (ls.getD k lay0).W) hUx).a_SlO hABx)
    refine lHe 14 (.agg #[.int .i64 ((ts.getD k lvd).1), (ts.getD k lvd).2.1, (ts.getD k lvd).2.2]) hs ((hs.f.2.2.2.2.1).el k (by omega)) (by rw [ekx, eWx, eBx]) ?_
    refine lA 5 57 ([.int .i64 0, .slice none 0 0, .slice none 0 0]) hs (fun b8 w9 h10 hs => ?_)
    refine lP 0 0 ([.int .i64 ((ls.getD k lay0).k), .slice AWx usx.length cWx, .slice ABx ((ls.getD k lay0).B.length) cBx]) hs (fun w11 hs => ?_)
    refine lN ?_
    refine CG.seq ?_
    refine cSL ?_
    refine lS hs [(15, .pointer (some ⟨b8, 1, none⟩), []), (16, .slice AWx usx.length cWx, [(0, 1, 1)]), (17, .int .i64 (usx.length : Nat), []), (18, .int .i64 0, [])] ?_
    refine lN ?_
    refine CG.block ?_
    refine cTo [(2, .slice none 0 0), (9, .slice A ts.length cap), (10, .int .i64 (ts.length : Nat)), (11, .int .i64 (k : Nat)), (5, .pointer (some ⟨b8, 0, none⟩)), (16, .slice AWx usx.length cWx), (17, .int .i64 (usx.length : Nat)), (18, .int .i64 0), (3, .slice saA (al).length sac)] ?_
    refine CG.loop (fun μ_ Γ w_ => ∃ (i : Nat) (sbA : Option Addr) (sbc : Nat) (bl : List Rat) (h_ : Hp), μ_ = usx.length - i ∧ Γ = [(2, .slice none 0 0), (9, .slice A ts.length cap), (10, .int .i64 (ts.length : Nat)), (11, .int .i64 (k : Nat)), (5, .pointer (some ⟨b8, 0, none⟩)), (16, .slice AWx usx.length cWx), (17, .int .i64 (usx.length : Nat)), (18, .int .i64 (i : Nat)), (3, .slice sbA (bl).length sbc)] ∧ SS w h w_ h_ [⟨b8, 57, [.int .i64 ((ls.getD k lay0).k), .slice AWx usx.length cWx, .slice ABx ((ls.getD k lay0).B.length) cBx]⟩, ⟨b1, 25, [.slice A ts.length cap]⟩] [⟨45, 5, sbA, sbc, (bl).length, (bl).flatMap qc⟩] [fun h_ => SlO 5 qc 0 h_ ABx (ls.getD k lay0).B, fun h_ => QVs h_ usx (ls.getD k lay0).W, fun h_ => SlO 1 vc undef h_ AWx usx, fun h_ => NetL h_ ts ls, fun h_ => SlO 3 lvc lvd h_ A ts] ∧ (i ≤ usx.length) ∧ (bl = al ++ ((ls.getD k lay0).W.take i).flatten)) _ ⟨0, saA, sac, al, h10, rfl, rfl, hs.to _ _, Nat.zero_le _, by simp⟩ ?_
    rintro _ _ w12 ⟨i, sbA, sbc, bl, h13, hm14, rfl, hs, hi, hbl⟩
    have hbn : bl.length ≤ al.length + i * d k := by rw [hbl, List.length_append, take_flat_len mtx i (by omega)]; exact Nat.le_refl _
    have hid : i * d k ≤ 12 * 20 := Nat.mul_le_mul (by omega) (hsm (by omega))
    have hmr := fun h0 => mtx.row i h0
    refine cSL ?_
    cases hb15 : (decide (((i : Nat) : Int) < ((usx.length : Nat) : Int)))
    ·
      have phb15 := of_decide_eq_false hb15
      refine lB 19 hb15 ?_
      refine lN ?_
      refine CG.seq ?_
      refine cIF ?_
      refine CG.exit ?_
      show CG _ _ _ _ _ _ _ _
      refine CG.listed ?_
      refine lS hs [(26, .slice sbA (bl).length sbc, []), (27, .pointer (some ⟨b8, 2, none⟩), []), (28, .slice ABx ((ls.getD k lay0).B.length) cBx, [(0, 2, 1)])] ?_
      refine lYs 29 0 45 5 sbc sbA bl qc 0 ABx ((ls.getD k lay0).B) cBx 56 (.agg #[.bool false, .int .u64 0, .string (⟨#[]⟩), .int .u64 0, .string (⟨#[]⟩)]) hs (hs.f.1) (by omega) (fun A16 c17 w18 h19 hs => ?_)
      refine lS hs [(3, .slice A16 (bl ++ ((ls.getD k lay0).B)).length c17, [])] ?_
      refine lN ?_
      refine CG.listed ?_
      refine lIn 30 ((k : Nat) + 1) (k + 1) ?_
      refine lS hs [(11, .int .i64 (k + 1 : Nat), [])] ?_
      refine lD ?_
      intro a_ ka
      have q21 : (k + 1) ≤ ls.length := by omega
      have q22 : (bl ++ ((ls.getD k lay0).B)) = flatq (ls.take (k + 1)) := by rw [flatq_take (by omega), hbl, List.take_of_length_le (by omega), hal]
      replace hs := hs.tl.tl.tl
      replace hs := hs.drop 1 0
      refine ⟨_, _, ?_, ⟨k + 1, A16, c17, bl ++ ((ls.getD k lay0).B), h19, rfl, rfl, hs.to _ _, q21, q22⟩, ka.to [(2, .slice none 0 0), (9, .slice A ts.length cap), (10, .int .i64 (ts.length : Nat)), (11, .int .i64 ((k + 1) : Nat)), (3, .slice A16 ((bl ++ ((ls.getD k lay0).B))).length c17)] (by kernel_rfl)⟩
      omega
    ·
      have phb15 := of_decide_eq_true hb15
      refine lB 19 hb15 ?_
      refine lN ?_
      refine CG.seq ?_
      refine cIT ?_
      refine CG.skipN ?_
      refine CG.seq ?_
      refine CG.block ?_
      refine cSL ?_
      refine lX 20 AWx usx.length cWx 1 (i : Nat) i ((hs.f.2.2.1).ok (by omega)) ?_
      obtain ⟨Arp, crp, erp, hcrp, hRrp⟩ := (hs.f.2.1).at_ i (by omega)
      replace hs := (hs.a_SlO hRrp)
      refine lHe 21 (usx.getD i undef) hs ((hs.f.2.2.2.1).el i (by omega)) erp ?_
      refine lS hs [(7, .slice Arp ((((ls.getD k lay0).W).getD i []).length) crp, [])] ?_
      refine lN ?_
      refine CG.listed ?_
      refine lS hs [(22, .slice sbA (bl).length sbc, []), (23, .slice Arp ((((ls.getD k lay0).W).getD i []).length) crp, [])] ?_
      refine lYs 24 0 45 5 sbc sbA bl qc 0 Arp (((ls.getD k lay0).W).getD i []) crp 56 (.agg #[.bool false, .int .u64 0, .string (⟨#[]⟩), .int .u64 0, .string (⟨#[]⟩)]) hs (hs.f.1) (by omega) (fun A23 c24 w25 h26 hs => ?_)
      refine lS hs [(3, .slice A23 (bl ++ (((ls.getD k lay0).W).getD i [])).length c24, [])] ?_
      refine lN ?_
      refine CG.listed ?_
      refine lIn 25 ((i : Nat) + 1) (i + 1) ?_
      refine lS hs [(18, .int .i64 (i + 1 : Nat), [])] ?_
      refine lD ?_
      intro a_ ka
      have q28 : (i + 1) ≤ usx.length := by omega
      have q29 : (bl ++ (((ls.getD k lay0).W).getD i [])) = al ++ ((ls.getD k lay0).W.take (i + 1)).flatten := by rw [flat_take (by omega), hbl, List.append_assoc]
      replace hs := hs.tl
      refine ⟨_, _, ?_, ⟨i + 1, A23, c24, bl ++ (((ls.getD k lay0).W).getD i []), h26, rfl, rfl, hs.to _ _, q28, q29⟩, ka.to [(2, .slice none 0 0), (9, .slice A ts.length cap), (10, .int .i64 (ts.length : Nat)), (11, .int .i64 (k : Nat)), (5, .pointer (some ⟨b8, 0, none⟩)), (16, .slice AWx usx.length cWx), (17, .int .i64 (usx.length : Nat)), (18, .int .i64 ((i + 1) : Nat)), (3, .slice A23 ((bl ++ (((ls.getD k lay0).W).getD i []))).length c24)] (by kernel_rfl)⟩
      omega

set_option maxRecDepth 100000 in
set_option maxHeartbeats 600000 in
theorem nFlat (A : Option Addr) (cap : Nat) (ts : List LV) (ls : List Lay) (d : Nat → Nat) (hO : Net3 ls d) (w : World) (h : Hp) (g : G w h) (hA : SlO 3 lvc lvd h A ts) (hN : NetL h ts ls) :
    Calls Tryz.prog 21 #[.agg #[.slice A ts.length cap]] w (Ret w h fun v h1 => SlN h.size 45 qc h1 v (flatq ls)) := by
  have hs := SS.start g
  replace hs := ((hs.a_SlO hA).add (K := fun h_ => NetL h_ ts ls) hN)
  refine go Tryz.func21 [(0, .agg #[.slice A ts.length cap])] rfl ?_
  refine cSL ?_
  refine lA 1 25 ([.slice A ts.length cap]) hs (fun b1 w2 h3 hs => ?_)
  refine lS hs [(2, .slice none 0 0, [])] ?_
  refine lN ?_
  refine CG.seq ?_
  refine cSL ?_
  refine lS hs [(3, .agg #[.slice A ts.length cap], [(0, 0, 1)])] ?_
  refine lC 4 hs (nCheck3 A cap ts ls d hO _ _ hs.g (hs.f.2.1) (hs.f.1)) ?_
  rintro _ w4 h5 hs rfl
  refine lS hs [(5, .bool false, [])] ?_
  refine lN ?_
  refine cIF ?_
  refine CG.skipN ?_
  refine cSL ?_
  refine lS hs [(6, .agg #[.slice A ts.length cap], [(0, 0, 1)])] ?_
  have hs0 := hs.st.sz
  refine lC 7 hs (nflat A cap ts ls d hO _ _ hs.g (hs.f.2.1) (hs.f.1)) ?_
  rintro _ w6 h7 hs ⟨bq, cq, spq, rfl, hcq, hNq⟩
  refine lS hs [(2, .slice (some ⟨bq, 0, none⟩) ((flatq ls).length) cq, [])] ?_
  refine lN ?_
  refine CG.ret ?_
  exact hs.ret [] (.slice (some ⟨bq, 0, none⟩) ((flatq ls).length) cq) (⟨bq, cq, spq, rfl, hcq, hNq.mono hs0⟩)

end Go.Proofs.YtbhpcpkcjgkcpaaGreatDoor
