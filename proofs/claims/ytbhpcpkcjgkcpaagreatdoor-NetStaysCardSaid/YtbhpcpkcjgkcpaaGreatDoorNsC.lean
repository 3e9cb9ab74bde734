/- Contracts of net.With; hand.SameRow, SameRows, make.SameNet, of what is the same. -/
import Derived.Test.YtbhpcpkcjgkcpaaGreatDoorNsB
namespace Go.Proofs.YtbhpcpkcjgkcpaaGreatDoor
open Go.RowKit

set_option maxRecDepth 100000 in
set_option maxHeartbeats 600000 in
theorem nWith (A : Option Addr) (cap : Nat) (ts : List LV) (ls : List Lay) (d : Nat → Nat) (hO : Net3 ls d) (X : Option Addr) (c0 : Nat) (xs : List Rat) (hx : xs.length = (flatq ls).length) (hc0 : xs.length ≤ c0) (w : World) (h : Hp) (g : G w h) (hA : SlO 3 lvc lvd h A ts) (hN : NetL h ts ls) (hX : SlO 5 qc 0 h X xs) :
    Calls Tryz.prog 20 #[.agg #[.slice A ts.length cap], .slice X xs.length c0] w (Ret w h fun v h1 => ∃ zs, zs.length = ls.length ∧ Net3 zs d ∧ (∀ i, i < ls.length → (zs.getD i lay0).k = (ls.getD i lay0).k) ∧ flatq zs = xs ∧ ∃ bL c sp, ∃ us : List LV, v = .tuple #[.agg #[.slice (some ⟨bL, 0, none⟩) us.length c], .int .i64 0] ∧ us.length ≤ c ∧ Nw h.size h1 bL 57 (us.flatMap lvc ++ sp) ∧ NNew h.size h1 us zs) := by
  have hs := SS.start g
  replace hs := (((hs.a_SlO hA).add (K := fun h_ => NetL h_ ts ls) hN).a_SlO hX)
  refine go Tryz.func20 [(0, .agg #[.slice A ts.length cap]), (1, .slice X xs.length c0)] rfl ?_
  refine cSL ?_
  refine lA 2 25 ([.slice A ts.length cap]) hs (fun b1 w2 h3 hs => ?_)
  refine lA 4 25 ([.slice none 0 0]) hs (fun b4 w5 h6 hs => ?_)
  refine lS hs [(5, .int .i64 0, [])] ?_
  refine lN ?_
  refine CG.seq ?_
  refine cSL ?_
  refine lS hs [(6, .agg #[.slice A ts.length cap], [(1, 0, 1)])] ?_
  refine lC 7 hs (nCheck3 A cap ts ls d hO _ _ hs.g (hs.f.2.2.1) (hs.f.2.1)) ?_
  rintro _ w7 h8 hs rfl
  refine lS hs [(8, .bool false, [])] ?_
  refine lN ?_
  refine cIF ?_
  refine CG.skipN ?_
  refine CG.seq ?_
  refine cSL ?_
  refine lS hs [(10, .slice X xs.length c0, []), (11, .int .i64 (xs.length : Nat), []), (12, .agg #[.slice A ts.length cap], [(1, 0, 1)])] ?_
  refine lC 13 hs (nFlat A cap ts ls d hO _ _ hs.g (hs.f.2.2.1) (hs.f.2.1)) ?_
  rintro _ w9 h10 hs ⟨bq, cq, spq, rfl, hcq, hNq⟩
  refine lS hs [(14, .int .i64 ((flatq ls).length : Nat), [])] ?_
  have hb11 : (((xs.length : Nat) : Int) != (((flatq ls).length : Nat) : Int)) = false := bneF (by omega)
  have phb11 := eqOfBne hb11
  refine lB 15 hb11 ?_
  refine lN ?_
  refine cIF ?_
  refine CG.skipN ?_
  refine cSL ?_
  refine lS hs [(17, .agg #[.slice A ts.length cap], [(1, 0, 1)]), (18, .slice X xs.length c0, [])] ?_
  have hsz := hs.st.sz
  refine lC 19 hs (nFilled A cap ts ls d hO X c0 xs hx hc0 _ _ hs.g (hs.f.2.2.1) (hs.f.2.1) (hs.f.1)) ?_
  rintro _ w12 h13 hs ⟨zs, hz0, hz1, hz2, hz3, bL, cL, sp, us, rfl, hcL, hLN, hNN⟩
  replace hLN := hLN.mono hsz
  replace hNN := hNN.mono hsz
  replace hs := ((hs.add (K := fun h_ => Nw h.size h_ bL 57 (us.flatMap lvc ++ sp)) hLN).add (K := fun h_ => NNew h.size h_ us zs) hNN)
  refine lP 0 0 ([.slice (some ⟨bL, 0, none⟩) us.length cL]) hs (fun w14 hs => ?_)
  refine lS hs [(5, .int .i64 0, [])] ?_
  refine lN ?_
  refine cTo [(4, .pointer (some ⟨b4, 0, none⟩)), (5, .int .i64 0)] ?_
  refine CG.ret ?_
  exact hs.ret [(0, 0, 1)] (.tuple #[.agg #[.slice (some ⟨bL, 0, none⟩) us.length cL], .int .i64 0]) (⟨zs, hz0, hz1, hz2, hz3, bL, cL, sp, us, rfl, hcL, (hs.f.2.1), (hs.f.1)⟩)


theorem nWithK (K : Nat) (A : Option Addr) (cap : Nat) (ts : List LV) (ls : List Lay) (d : Nat → Nat) (hO : Net3 ls d) (X : Option Addr) (c0 : Nat) (xs : List Rat) (hx : xs.length = (flatq ls).length) (hc0 : xs.length ≤ c0) (w : World) (h : Hp) (g : G w h) (hA : SlO 3 lvc lvd h A ts) (hN : NetL h ts ls) (hX : SlO 5 qc 0 h X xs) (hK : K ≤ h.size) : Calls Tryz.prog 20 #[.agg #[.slice A ts.length cap], .slice X xs.length c0] w (Ret w h fun v h1 => ∃ zs, zs.length = ls.length ∧ Net3 zs d ∧ (∀ i, i < ls.length → (zs.getD i lay0).k = (ls.getD i lay0).k) ∧ flatq zs = xs ∧ ∃ bL c sp, ∃ us : List LV, v = .tuple #[.agg #[.slice (some ⟨bL, 0, none⟩) us.length c], .int .i64 0] ∧ us.length ≤ c ∧ Nw K h1 bL 57 (us.flatMap lvc ++ sp) ∧ NNew K h1 us zs) :=
  (nWith A cap ts ls d hO X c0 xs hx hc0 w h g hA hN hX).mono fun e w' ⟨v, h', he, u, zs, h1, h2, h3, h4, bL, c, sp, us, h5, h6, h7, h8⟩ => ⟨v, h', he, u, zs, h1, h2, h3, h4, bL, c, sp, us, h5, h6, h7.mono hK, h8.mono hK⟩
theorem sameQ_self (q : Rat) : sameQ q q = true := decide_eq_true rfl

set_option maxRecDepth 100000 in
set_option maxHeartbeats 600000 in
theorem hSameRow (A : Option Addr) (ca : Nat) (qs : List Rat) (D : Option Addr) (cd : Nat) (ts : List RT) (hl : qs.length ≤ 1000000) (hf : ∀ i, i < qs.length → Fit (qs.getD i 0)) (w : World) (h : Hp) (g : G w h) (hA : SlO 5 qc 0 h A qs) (hD : SlO 3 rqc rqd h D ts) (hT : RTs h ts qs) :
    Calls Tryz.prog 38 #[.slice A qs.length ca, .slice D ts.length cd] w (Ret w h fun v _ => v = .bool true) := by
  have hs := SS.start g
  replace hs := (((hs.a_SlO hA).a_SlO hD).add (K := fun h_ => RTs h_ ts qs) hT)
  have hlt := (hs.f.1).len
  refine go Tryz.func38 [(0, .slice A qs.length ca), (1, .slice D ts.length cd)] rfl ?_
  refine cSL ?_
  refine lS hs [(4, .bool false, [])] ?_
  refine lN ?_
  refine CG.seq ?_
  refine cSL ?_
  refine lS hs [(6, .slice A qs.length ca, []), (7, .int .i64 (qs.length : Nat), []), (8, .slice D ts.length cd, []), (9, .int .i64 (ts.length : Nat), [])] ?_
  have hb1 : (((qs.length : Nat) : Int) != ((ts.length : Nat) : Int)) = false := bneF (by omega)
  have phb1 := eqOfBne hb1
  refine lB 10 hb1 ?_
  refine lN ?_
  refine cIF ?_
  refine CG.skipN ?_
  refine CG.seq ?_
  refine cSL ?_
  refine lS hs [(5, .int .i64 0, [])] ?_
  refine lN ?_
  refine CG.block ?_
  refine cTo [(0, .slice A qs.length ca), (1, .slice D ts.length cd), (5, .int .i64 0)] ?_
  refine CG.loop (fun μ_ Γ w_ => ∃ (k : Nat) (h_ : Hp), μ_ = qs.length - k ∧ Γ = [(0, .slice A qs.length ca), (1, .slice D ts.length cd), (5, .int .i64 (k : Nat))] ∧ SS w h w_ h_ [] [] [fun h_ => RTs h_ ts qs, fun h_ => SlO 3 rqc rqd h_ D ts, fun h_ => SlO 5 qc 0 h_ A qs] ∧ (k ≤ qs.length)) _ ⟨0, h, rfl, rfl, hs.to _ _, Nat.zero_le _⟩ ?_
  rintro _ _ w2 ⟨k, h3, hm4, rfl, hs, hk⟩
  refine CG.seq ?_
  refine cSL ?_
  refine lS hs [(11, .int .i64 (k : Nat), []), (12, .slice A qs.length ca, []), (13, .int .i64 (qs.length : Nat), [])] ?_
  cases hb5 : (decide (((k : Nat) : Int) < ((qs.length : Nat) : Int)))
  ·
    have phb5 := of_decide_eq_false hb5
    refine lB 14 hb5 ?_
    refine lN ?_
    refine cIF ?_
    refine CG.exit ?_
    show CG _ _ _ _ _ _ _ _
    refine cSL ?_
    refine lS hs [(4, .bool true, [])] ?_
    refine lN ?_
    refine CG.ret ?_
    exact hs.ret [] (.bool true) rfl
  ·
    have phb5 := of_decide_eq_true hb5
    refine lB 14 hb5 ?_
    refine lN ?_
    refine cIT ?_
    refine CG.skipN ?_
    refine CG.seq ?_
    refine CG.block ?_
    refine CG.seq ?_
    refine cR 10 [] mixed hs al_nil ?_
    refine eV 0 17 (.slice A qs.length ca) ?_
    refine eV 1 18 (.int .i64 (k : Nat)) ?_
    refine eX 2 19 A qs.length ca 5 (k : Nat) k ((hs.f.2.2.1).ok (by omega)) ?_
    refine eH 3 20 (qv (qs.getD k 0)) hs ((hs.f.2.2.1).el k (by omega)) ?_
    refine eV 4 21 (.slice D ts.length cd) ?_
    refine eV 5 22 (.int .i64 (k : Nat)) ?_
    refine eX 6 23 D ts.length cd 3 (k : Nat) k ((hs.f.2.1).ok (by omega)) ?_
    obtain ⟨Aez, cez, Dez, dez, eez, hcez, hdez, hAez, hDez⟩ := (hs.f.1).at_ k (by omega)
    replace hs := ((hs.a_SlO hAez).a_SlO hDez)
    refine eHe 7 24 (.agg #[.bool ((ts.getD k rqd).1), (ts.getD k rqd).2.1, (ts.getD k rqd).2.2]) hs ((hs.f.2.2.2.1).el k (by omega)) eez ?_
    refine eC 8 25 hs (fun _ _ hs => hSame (qs.getD k 0) (qs.getD k 0) (hf k (by omega)).1 (hf k (by omega)).2 (hf k (by omega)).1 (hf k (by omega)).2 Aez cez hcez Dez dez hdez _ _ hs.g (hs.f.2.1) (hs.f.1)) ?_
    rintro _ _ _ w6 h7 hs rfl
    have hb8 : (sameQ (qs.getD k 0) (qs.getD k 0)) = true := sameQ_self _
    rw [hb8]
    refine eV 9 26 (.bool false) ?_
    refine eD0 hs (fun w9 h10 hs => ?_)
    refine tN ?_
    refine cTo [(0, .slice A qs.length ca), (1, .slice D ts.length cd), (5, .int .i64 (k : Nat)), (26, .bool false)] ?_
    refine cIF ?_
    refine CG.skipN ?_
    refine CG.listed ?_
    refine lS hs [(15, .int .i64 (k : Nat), [])] ?_
    refine lIn 16 ((k : Nat) + 1) (k + 1) ?_
    refine lS hs [(5, .int .i64 (k + 1 : Nat), [])] ?_
    refine lD ?_
    intro a_ ka
    have q11 : (k + 1) ≤ qs.length := by omega
    replace hs := hs.tl.tl
    refine ⟨_, _, ?_, ⟨k + 1, h10, rfl, rfl, hs.to _ _, q11⟩, ka.to [(0, .slice A qs.length ca), (1, .slice D ts.length cd), (5, .int .i64 ((k + 1) : Nat))] (by kernel_rfl)⟩
    omega

set_option maxRecDepth 100000 in
set_option maxHeartbeats 600000 in
theorem hSameRows (A : Option Addr) (ca : Nat) (us : List Value) (D : Option Addr) (cd : Nat) (vs : List Value) (qss : List (List Rat)) (hl : qss.length ≤ 1000000) (hls : ∀ i, i < qss.length → (qss.getD i []).length ≤ 1000000) (hf : ∀ i, i < qss.length → ∀ j, j < (qss.getD i []).length → Fit ((qss.getD i []).getD j 0)) (w : World) (h : Hp) (g : G w h) (hA : SlO 1 vc undef h A us) (hU : QVs h us qss) (hD : SlO 1 vc undef h D vs) (hV : RVs h vs qss) :
    Calls Tryz.prog 69 #[.slice A us.length ca, .slice D vs.length cd] w (Ret w h fun v _ => v = .bool true) := by
  have hs := SS.start g
  replace hs := ((((hs.a_SlO hA).add (K := fun h_ => QVs h_ us qss) hU).a_SlO hD).add (K := fun h_ => RVs h_ vs qss) hV)
  have hlu := (hs.f.2.2.1).len
  have hlv := (hs.f.1).len
  refine go Tryz.func69 [(0, .slice A us.length ca), (1, .slice D vs.length cd)] rfl ?_
  refine cSL ?_
  refine lS hs [(4, .bool false, [])] ?_
  refine lN ?_
  refine CG.seq ?_
  refine cSL ?_
  refine lS hs [(6, .slice A us.length ca, []), (7, .int .i64 (us.length : Nat), []), (8, .slice D vs.length cd, []), (9, .int .i64 (vs.length : Nat), [])] ?_
  have hb1 : (((us.length : Nat) : Int) != ((vs.length : Nat) : Int)) = false := bneF (by omega)
  have phb1 := eqOfBne hb1
  refine lB 10 hb1 ?_
  refine lN ?_
  refine cIF ?_
  refine CG.skipN ?_
  refine CG.seq ?_
  refine cSL ?_
  refine lS hs [(5, .int .i64 0, [])] ?_
  refine lN ?_
  refine CG.block ?_
  refine cTo [(0, .slice A us.length ca), (1, .slice D vs.length cd), (5, .int .i64 0)] ?_
  refine CG.loop (fun μ_ Γ w_ => ∃ (k : Nat) (h_ : Hp), μ_ = qss.length - k ∧ Γ = [(0, .slice A us.length ca), (1, .slice D vs.length cd), (5, .int .i64 (k : Nat))] ∧ SS w h w_ h_ [] [] [fun h_ => RVs h_ vs qss, fun h_ => SlO 1 vc undef h_ D vs, fun h_ => QVs h_ us qss, fun h_ => SlO 1 vc undef h_ A us] ∧ (k ≤ qss.length)) _ ⟨0, h, rfl, rfl, hs.to _ _, Nat.zero_le _⟩ ?_
  rintro _ _ w2 ⟨k, h3, hm4, rfl, hs, hk⟩
  refine CG.seq ?_
  refine cSL ?_
  refine lS hs [(11, .int .i64 (k : Nat), []), (12, .slice A us.length ca, []), (13, .int .i64 (us.length : Nat), [])] ?_
  cases hb5 : (decide (((k : Nat) : Int) < ((us.length : Nat) : Int)))
  ·
    have phb5 := of_decide_eq_false hb5
    refine lB 14 hb5 ?_
    refine lN ?_
    refine cIF ?_
    refine CG.exit ?_
    show CG _ _ _ _ _ _ _ _
    refine cSL ?_
    refine lS hs [(4, .bool true, [])] ?_
    refine lN ?_
    refine CG.ret ?_
    exact hs.ret [] (.bool true) rfl
  ·
    have phb5 := of_decide_eq_true hb5
    refine lB 14 hb5 ?_
    refine lN ?_
    refine cIT ?_
    refine CG.skipN ?_
    refine CG.seq ?_
    refine CG.block ?_
    refine CG.seq ?_
    refine cR 10 [] mixed hs al_nil ?_
    refine eV 0 17 (.slice A us.length ca) ?_
    refine eV 1 18 (.int .i64 (k : Nat)) ?_
    refine eX 2 19 A us.length ca 1 (k : Nat) k ((hs.f.2.2.2.1).ok (by omega)) ?_
    obtain ⟨Aqx, cqx, eqx, hcqx, hRqx⟩ := (hs.f.2.2.1).at_ k (by omega)
    replace hs := (hs.a_SlO hRqx)
    refine eHe 3 20 (us.getD k undef) hs ((hs.f.2.2.2.2.1).el k (by omega)) eqx ?_
    refine eV 4 21 (.slice D vs.length cd) ?_
    refine eV 5 22 (.int .i64 (k : Nat)) ?_
    refine eX 6 23 D vs.length cd 1 (k : Nat) k ((hs.f.2.2.1).ok (by omega)) ?_
    obtain ⟨Aryy, cryy, tryy, eryy, hcryy, hRryy, hTryy⟩ := (hs.f.2.1).at_ k (by omega)
    replace hs := ((hs.a_SlO hRryy).add (K := fun h_ => RTs h_ tryy (qss.getD k [])) hTryy)
    refine eHe 7 24 (vs.getD k undef) hs ((hs.f.2.2.2.2.1).el k (by omega)) eryy ?_
    refine eC 8 25 hs (fun _ _ hs => hSameRow Aqx cqx (qss.getD k []) Aryy cryy tryy (hls k (by omega)) (hf k (by omega)) _ _ hs.g (hs.f.2.2.1) (hs.f.2.1) (hs.f.1)) ?_
    rintro _ _ _ w6 h7 hs rfl
    refine eV 9 26 (.bool false) ?_
    refine eD0 hs (fun w8 h9 hs => ?_)
    refine tN ?_
    refine cTo [(0, .slice A us.length ca), (1, .slice D vs.length cd), (5, .int .i64 (k : Nat)), (26, .bool false)] ?_
    refine cIF ?_
    refine CG.skipN ?_
    refine CG.listed ?_
    refine lS hs [(15, .int .i64 (k : Nat), [])] ?_
    refine lIn 16 ((k : Nat) + 1) (k + 1) ?_
    refine lS hs [(5, .int .i64 (k + 1 : Nat), [])] ?_
    refine lD ?_
    intro a_ ka
    have q10 : (k + 1) ≤ qss.length := by omega
    replace hs := hs.tl.tl.tl
    refine ⟨_, _, ?_, ⟨k + 1, h9, rfl, rfl, hs.to _ _, q10⟩, ka.to [(0, .slice A us.length ca), (1, .slice D vs.length cd), (5, .int .i64 ((k + 1) : Nat))] (by kernel_rfl)⟩
    omega

set_option maxRecDepth 100000 in
set_option maxHeartbeats 600000 in
theorem mSameNet (A : Option Addr) (ca : Nat) (ts : List LV) (D : Option Addr) (cd : Nat) (rs : List LV) (ls : List Lay) (hn : ls.length ≤ 1000000) (hF : ∀ i, i < ls.length → LayFit (ls.getD i lay0)) (w : World) (h : Hp) (g : G w h) (hA : SlO 3 lvc lvd h A ts) (hN : NetL h ts ls) (hD : SlO 3 lvc lvd h D rs) (hM : RNetL h rs ls) :
    Calls Tryz.prog 23 #[.agg #[.slice A ts.length ca], .agg #[.slice D rs.length cd]] w (Ret w h fun v _ => v = .bool true) := by
  have hs := SS.start g
  replace hs := ((((hs.a_SlO hA).add (K := fun h_ => NetL h_ ts ls) hN).a_SlO hD).add (K := fun h_ => RNetL h_ rs ls) hM)
  have hlt := (hs.f.2.2.1).len
  have hlr := (hs.f.1).len
  refine go Tryz.func23 [(0, .agg #[.slice A ts.length ca]), (1, .agg #[.slice D rs.length cd])] rfl ?_
  refine cSL ?_
  refine lA 2 25 ([.slice A ts.length ca]) hs (fun b1 w2 h3 hs => ?_)
  refine lA 3 29 ([.slice D rs.length cd]) hs (fun b4 w5 h6 hs => ?_)
  refine lS hs [(4, .bool false, [])] ?_
  refine lN ?_
  refine CG.seq ?_
  refine cSL ?_
  refine lS hs [(6, .pointer (some ⟨b1, 0, none⟩), []), (7, .slice A ts.length ca, [(1, 0, 1)]), (8, .int .i64 (ts.length : Nat), []), (9, .pointer (some ⟨b4, 0, none⟩), []), (10, .slice D rs.length cd, [(0, 0, 1)]), (11, .int .i64 (rs.length : Nat), [])] ?_
  have hb7 : (((ts.length : Nat) : Int) != ((rs.length : Nat) : Int)) = false := bneF (by omega)
  have phb7 := eqOfBne hb7
  refine lB 12 hb7 ?_
  refine lN ?_
  refine cIF ?_
  refine CG.skipN ?_
  refine CG.seq ?_
  refine cSL ?_
  refine lS hs [(5, .int .i64 0, [])] ?_
  refine lN ?_
  refine CG.block ?_
  refine cTo [(2, .pointer (some ⟨b1, 0, none⟩)), (3, .pointer (some ⟨b4, 0, none⟩)), (5, .int .i64 0)] ?_
  refine CG.loop (fun μ_ Γ w_ => ∃ (k : Nat) (h_ : Hp), μ_ = ls.length - k ∧ Γ = [(2, .pointer (some ⟨b1, 0, none⟩)), (3, .pointer (some ⟨b4, 0, none⟩)), (5, .int .i64 (k : Nat))] ∧ SS w h w_ h_ [⟨b4, 29, [.slice D rs.length cd]⟩, ⟨b1, 25, [.slice A ts.length ca]⟩] [] [fun h_ => RNetL h_ rs ls, fun h_ => SlO 3 lvc lvd h_ D rs, fun h_ => NetL h_ ts ls, fun h_ => SlO 3 lvc lvd h_ A ts] ∧ (k ≤ ls.length)) _ ⟨0, h6, rfl, rfl, hs.to _ _, Nat.zero_le _⟩ ?_
  rintro _ _ w8 ⟨k, h9, hm10, rfl, hs, hk⟩
  refine CG.seq ?_
  refine cSL ?_
  refine lS hs [(13, .int .i64 (k : Nat), []), (14, .pointer (some ⟨b1, 0, none⟩), []), (15, .slice A ts.length ca, [(1, 0, 1)]), (16, .int .i64 (ts.length : Nat), [])] ?_
  cases hb11 : (decide (((k : Nat) : Int) < ((ts.length : Nat) : Int)))
  ·
    have phb11 := of_decide_eq_false hb11
    refine lB 17 hb11 ?_
    refine lN ?_
    refine cIF ?_
    refine CG.exit ?_
    show CG _ _ _ _ _ _ _ _
    refine cSL ?_
    refine lS hs [(4, .bool true, [])] ?_
    refine lN ?_
    refine CG.ret ?_
    exact hs.ret [] (.bool true) rfl
  ·
    have phb11 := of_decide_eq_true hb11
    refine lB 17 hb11 ?_
    refine lN ?_
    refine cIT ?_
    refine CG.skipN ?_
    refine CG.seq ?_
    refine CG.block ?_
    refine CG.seq ?_
    refine cR 45 [] mixed hs al_nil ?_
    refine eV 0 20 (.pointer (some ⟨b1, 0, none⟩)) ?_
    refine eO 1 21 [(1, 0, 1)] (.slice A ts.length ca) hs ?_
    refine eV 2 22 (.int .i64 (k : Nat)) ?_
    refine eX 3 23 A ts.length ca 3 (k : Nat) k ((hs.f.2.2.2.1).ok (by omega)) ?_
    refine eV 4 24 (.pointer (some ⟨(aB A), aO A + k * 3, none⟩)) ?_
    obtain ⟨ekx, ⟨AWx, cWx, usx, eWx, hcWx, hAWx, hUx⟩, ⟨ABx, cBx, eBx, hcBx, hABx⟩⟩ := (hs.f.2.2.1).at_ k (by omega)
    replace hs := (((hs.a_SlO hAWx).add (K := fun h_ => QVs h_ usx (ls.getD k lay0).W) hUx).a_SlO hABx)
    refine eHe 5 25 (.int .i64 ((ts.getD k lvd).1)) hs (((hs.f.2.2.2.2.2.2.1).el k (by omega)).part 0 1) (by rw [ekx]) ?_
    refine eV 6 26 (.pointer (some ⟨b4, 0, none⟩)) ?_
    refine eO 7 27 [(0, 0, 1)] (.slice D rs.length cd) hs ?_
    refine eV 8 28 (.int .i64 (k : Nat)) ?_
    refine eX 9 29 D rs.length cd 3 (k : Nat) k ((hs.f.2.2.2.2.1).ok (by omega)) ?_
    refine eV 10 30 (.pointer (some ⟨(aB D), aO D + k * 3, none⟩)) ?_
    obtain ⟨ekr, ⟨AWr, cWr, usr, eWr, hcWr, hAWr, hTWr⟩, ⟨ABr, cBr, rsr, eBr, hcBr, hABr, hTBr⟩⟩ := (hs.f.2.2.2.1).at_ k (by omega)
    replace hs := ((((hs.a_SlO hAWr).add (K := fun h_ => RVs h_ usr (ls.getD k lay0).W) hTWr).a_SlO hABr).add (K := fun h_ => RTs h_ rsr (ls.getD k lay0).B) hTBr)
    refine eHe 11 31 (.int .i64 ((rs.getD k lvd).1)) hs (((hs.f.2.2.2.2.2.2.2.2.1).el k (by omega)).part 0 1) (by rw [ekr]) ?_
    have hb12 : (((ls.getD k lay0).k : Int) != ((ls.getD k lay0).k : Int)) = false := bneF (by omega)
    have phb12 := eqOfBne hb12
    refine eB 12 32 hb12 ?_
    refine eV 13 33 (.bool false) ?_
    refine eV 14 34 (.pointer (some ⟨b1, 0, none⟩)) ?_
    refine eO 15 35 [(1, 0, 1)] (.slice A ts.length ca) hs ?_
    refine eV 16 36 (.int .i64 (k : Nat)) ?_
    refine eX 17 37 A ts.length ca 3 (k : Nat) k ((hs.f.2.2.2.2.2.2.2.2.2.2.1).ok (by omega)) ?_
    refine eV 18 38 (.pointer (some ⟨(aB A), aO A + k * 3 + 1, none⟩)) ?_
    refine eHe 19 39 ((ts.getD k lvd).2.1) hs (((hs.f.2.2.2.2.2.2.2.2.2.2.1).el k (by omega)).part 1 1) eWx ?_
    refine eV 20 40 (.pointer (some ⟨b4, 0, none⟩)) ?_
    refine eO 21 41 [(0, 0, 1)] (.slice D rs.length cd) hs ?_
    refine eV 22 42 (.int .i64 (k : Nat)) ?_
    refine eX 23 43 D rs.length cd 3 (k : Nat) k ((hs.f.2.2.2.2.2.2.2.2.1).ok (by omega)) ?_
    refine eV 24 44 (.pointer (some ⟨(aB D), aO D + k * 3 + 1, none⟩)) ?_
    refine eHe 25 45 ((rs.getD k lvd).2.1) hs (((hs.f.2.2.2.2.2.2.2.2.1).el k (by omega)).part 1 1) eWr ?_
    refine eC 26 46 hs (fun _ _ hs => hSameRows AWx cWx usx AWr cWr usr (ls.getD k lay0).W (hF k (by omega)).rl (hF k (by omega)).rls (hF k (by omega)).rf _ _ hs.g (hs.f.2.2.2.2.2.2.1) (hs.f.2.2.2.2.2.1) (hs.f.2.2.2.1) (hs.f.2.2.1)) ?_
    rintro _ _ _ w13 h14 hs rfl
    refine eV 27 47 (.bool false) ?_
    refine eV 28 48 (.bool false) ?_
    refine eV 29 49 (.bool false) ?_
    refine eV 30 50 (.pointer (some ⟨b1, 0, none⟩)) ?_
    refine eO 31 51 [(1, 0, 1)] (.slice A ts.length ca) hs ?_
    refine eV 32 52 (.int .i64 (k : Nat)) ?_
    refine eX 33 53 A ts.length ca 3 (k : Nat) k ((hs.f.2.2.2.2.2.2.2.2.2.2.1).ok (by omega)) ?_
    refine eV 34 54 (.pointer (some ⟨(aB A), aO A + k * 3 + 2, none⟩)) ?_
    refine eHe 35 55 ((ts.getD k lvd).2.2) hs (((hs.f.2.2.2.2.2.2.2.2.2.2.1).el k (by omega)).part 2 1) eBx ?_
    refine eV 36 56 (.pointer (some ⟨b4, 0, none⟩)) ?_
    refine eO 37 57 [(0, 0, 1)] (.slice D rs.length cd) hs ?_
    refine eV 38 58 (.int .i64 (k : Nat)) ?_
    refine eX 39 59 D rs.length cd 3 (k : Nat) k ((hs.f.2.2.2.2.2.2.2.2.1).ok (by omega)) ?_
    refine eV 40 60 (.pointer (some ⟨(aB D), aO D + k * 3 + 2, none⟩)) ?_
    refine eHe 41 61 ((rs.getD k lvd).2.2) hs (((hs.f.2.2.2.2.2.2.2.2.1).el k (by omega)).part 2 1) eBr ?_
    refine eC 42 62 hs (fun _ _ hs => hSameRow ABx cBx (ls.getD k lay0).B ABr cBr rsr (hF k (by omega)).bl (hF k (by omega)).bf _ _ hs.g (hs.f.2.2.2.2.1) (hs.f.2.1) (hs.f.1)) ?_
    rintro _ _ _ w15 h16 hs rfl
    refine eV 43 63 (.bool false) ?_
    refine eV 44 64 (.bool false) ?_
    refine eD0 hs (fun w17 h18 hs => ?_)
    refine tN ?_
    refine cTo [(2, .pointer (some ⟨b1, 0, none⟩)), (3, .pointer (some ⟨b4, 0, none⟩)), (5, .int .i64 (k : Nat)), (64, .bool false)] ?_
    refine cIF ?_
    refine CG.skipN ?_
    refine CG.listed ?_
    refine lS hs [(18, .int .i64 (k : Nat), [])] ?_
    refine lIn 19 ((k : Nat) + 1) (k + 1) ?_
    refine lS hs [(5, .int .i64 (k + 1 : Nat), [])] ?_
    refine lD ?_
    intro a_ ka
    have q19 : (k + 1) ≤ ls.length := by omega
    replace hs := hs.tl.tl.tl.tl.tl.tl.tl
    refine ⟨_, _, ?_, ⟨k + 1, h18, rfl, rfl, hs.to _ _, q19⟩, ka.to [(2, .pointer (some ⟨b1, 0, none⟩)), (3, .pointer (some ⟨b4, 0, none⟩)), (5, .int .i64 ((k + 1) : Nat))] (by kernel_rfl)⟩
    omega

end Go.Proofs.YtbhpcpkcjgkcpaaGreatDoor
