/- Contracts of make.SpoiltTape, InTape. -/
import Derived.Test.YtmkonbkdjmfjhaaGreatDoorTqL
import Derived.Test.YtmkonbkdjmfjhaaGreatDoorZow
namespace Go.Proofs.YtmkonbkdjmfjhaaGreatDoor
open Go.RowKit


theorem ofint_small {z : Int} (h : -1000 < z) (h2 : z < 1000) : iabs ((z : Rat)).num < 1000 ∧ ((z : Rat)).den < 1000 := by
  refine ⟨?_, by simp⟩
  unfold iabs; simp; omega
theorem rs_one {h : Hp} {ts : List RSt} {ss : List OSt} (x : RSs h ts ss) : ∀ t ∈ ts, (rsc t).all (·.oneCell') = true := fun t ht => by
  obtain ⟨i, hi, e⟩ := List.mem_iff_getElem.1 ht
  have h1 := x.at_ i (by rw [← x.len]; exact hi)
  obtain ⟨A, c, D, d, e1, _⟩ := h1.q
  have e2 : ts.getD i rst0 = t := by simp [hi, e]
  rw [e2] at e1
  unfold rtv at e1
  injection e1 with e1
  simp only [Array.mk.injEq, List.cons.injEq, and_true] at e1
  obtain ⟨_, e3, e4⟩ := e1
  unfold rsc
  rw [e3, e4]
  rfl

set_option maxRecDepth 100000 in
set_option maxHeartbeats 600000 in
theorem mSpoiltT (inp : Int) (A : Option Addr) (c : Nat) (ts : List RSt) (ss : List OSt) (O : Option Addr) (d : Nat) (os : List Int) (way at_ by_ : Int) (hp0 : 0 < ss.length) (hl : ss.length ≤ 20) (ho0 : 0 < os.length) (hol : os.length ≤ 2) (hS : OSms ss) (w : World) (h : Hp) (g : G w h) (hA : SlO 7 rsc rst0 h A ts) (hT : RSs h ts ss) (hO : SlO 1 i64c 0 h O os) :
    Calls Tryz.prog 4 #[.agg #[.int .i64 inp, .slice A ts.length c, .slice O os.length d], .int .i64 way, .int .i64 at_, .int .i64 by_] w (Ret w h fun v h1 => ∃ (inp2 : Int) (A c O d : _), ∃ ts2 : List RSt, ∃ ss2 : List OSt, ∃ os2 : List Int, v = .agg #[.int .i64 inp2, .slice A ts2.length c, .slice O os2.length d] ∧ SlO 7 rsc rst0 h1 A ts2 ∧ RSs h1 ts2 ss2 ∧ SlO 1 i64c 0 h1 O os2 ∧ OSms ss2 ∧ ss2.length ≤ 20 ∧ os2.length ≤ 3 ∧ 0 < ss2.length ∧ 0 < os2.length) := by
  have hs := SS.start g
  replace hs := (((hs.a_SlO hA).add (K := fun h_ => RSs h_ ts ss) hT).a_SlO hO)
  have hlt := (hs.f.2.1).len
  refine go Tryz.func4 [(0, .agg #[.int .i64 inp, .slice A ts.length c, .slice O os.length d]), (1, .int .i64 way), (2, .int .i64 at_), (3, .int .i64 by_)] rfl ?_
  refine cSL ?_
  refine lA 4 25 ([.int .i64 inp, .slice A ts.length c, .slice O os.length d]) hs (fun b1 w2 h3 hs => ?_)
  refine lA 8 25 ([.int .i64 0, .slice none 0 0, .slice none 0 0]) hs (fun b4 w5 h6 hs => ?_)
  refine lN ?_
  refine cSL ?_
  refine lR 10 47 0 ([]) hs (fun b7 w8 h9 hs => ?_)
  refine lS hs [(11, .pointer (some ⟨b1, 1, none⟩), []), (12, .slice A ts.length c, [(1, 1, 1)])] ?_
  refine lYz 13 47 7 rsc rst0 b7 A ts c 88 (.agg #[.int .i64 0, .int .i64 0, .int .i64 0, .int .i64 0, .bool false, .slice none 0 0, .slice none 0 0]) hs (hs.f.2.2.2.1) (by omega) (rs_one (hs.f.2.2.1)) (fun A11 c12 w13 h14 hs => ?_)
  refine lS hs [(14, .pointer (some ⟨b1, 1, none⟩), [])] ?_
  refine lP 1 1 ([.slice A11 ((ts).length) c12]) hs (fun w16 hs => ?_)
  refine lN ?_
  refine cSL ?_
  refine lS hs [(15, .int .i64 by_, []), (16, .pointer (some ⟨b1, 1, none⟩), []), (17, .slice A11 ((ts).length) c12, [(1, 1, 1)]), (18, .int .i64 ((ts).length : Nat), [])] ?_
  refine lIn 19 (((ts).length : Nat) + 17) (((ts).length) + 17) ?_
  refine lC 20 hs (hPick (by_) ((((ts).length) + 17 : Nat)) (by omega) (by omega) _ _ hs.g) ?_
  rintro _ w17 h18 hs rfl
  have lp0 := pick_lt (by_) ((((ts).length) + 17 : Nat)) (by omega)
  refine lI 21 ((pick (by_) ((((ts).length) + 17 : Nat)) : Nat) - 8) ?_
  refine lS hs [(3, .int .i64 ((pick (by_) ((((ts).length) + 17 : Nat)) : Nat) - 8), [])] ?_
  refine lN ?_
  refine cTo [(1, .int .i64 way), (2, .int .i64 at_), (3, .int .i64 ((pick (by_) ((((ts).length) + 17 : Nat)) : Nat) - 8)), (4, .pointer (some ⟨b1, 0, none⟩)), (8, .pointer (some ⟨b4, 0, none⟩))] ?_
  refine CG.seq ?_
  refine cSL ?_
  refine lS hs [(22, .pointer (some ⟨b1, 1, none⟩), []), (23, .slice A11 ((ts).length) c12, [(1, 1, 1)]), (24, .int .i64 ((ts).length : Nat), [])] ?_
  cases hb19 : ((((ts).length : Nat) : Int) == (0 : Int))
  ·
    have phb19 := neOfBeq hb19
    refine lB 25 hb19 ?_
    refine lN ?_
    refine cIF ?_
    refine CG.skipN ?_
    refine CG.seq ?_
    refine cR 8 [] mixed hs al_nil ?_
    refine eV 0 27 (.pointer (some ⟨b1, 1, none⟩)) ?_
    refine eO 1 28 [(1, 1, 1)] (.slice A11 ((ts).length) c12) hs ?_
    refine eV 2 29 (.int .i64 at_) ?_
    refine eV 3 30 (.pointer (some ⟨b1, 1, none⟩)) ?_
    refine eO 4 31 [(1, 1, 1)] (.slice A11 ((ts).length) c12) hs ?_
    refine eV 5 32 (.int .i64 ((ts).length : Nat)) ?_
    refine eC 6 33 hs (fun _ _ hs => hPick (at_) (((ts).length)) (by omega) (by omega) _ _ hs.g) ?_
    rintro _ _ _ w20 h21 hs rfl
    have lp1 := pick_lt (at_) (((ts).length)) (by omega)
    obtain ⟨bR22, hbR23⟩ := hs.rowA 0 (A := A11) (c := c12) (m := (ts).length) (ty := 47) (sz := 7) (cs := (ts).flatMap rsc) (by omega)
    subst hbR23
    refine eX 7 34 (some ⟨bR22, 0, none⟩) ((ts).length) c12 7 (pick (at_) (((ts).length)) : Nat) (pick (at_) (((ts).length)) : Nat) rfl ?_
    refine eD0 hs (fun w24 h25 hs => ?_)
    refine tV 8 9 (.pointer (some ⟨bR22, 0 + (pick (at_) (((ts).length)) : Nat) * 7, none⟩)) ?_
    refine tN ?_
    refine cTo [(1, .int .i64 way), (3, .int .i64 ((pick (by_) ((((ts).length) + 17 : Nat)) : Nat) - 8)), (4, .pointer (some ⟨b1, 0, none⟩)), (8, .pointer (some ⟨b4, 0, none⟩)), (9, .pointer (some ⟨bR22, 0 + (pick (at_) (((ts).length)) : Nat) * 7, none⟩))] ?_
    refine CG.seq ?_
    refine cSL ?_
    refine lS hs [(35, .int .i64 way, [])] ?_
    refine lC 36 hs (hPick (way) (12) (by omega) (by omega) _ _ hs.g) ?_
    rintro _ w26 h27 hs rfl
    have lp2 := pick_lt (way) (12) (by omega)
    refine lN ?_
    refine CG.block ?_
    refine cSL ?_
    cases hb28 : (((pick (way) (12) : Nat) : Int) == (0 : Int))
    ·
      have phb28 := neOfBeq hb28
      refine lB 38 hb28 ?_
      refine lS hs [(37, .bool false, [])] ?_
      refine lN ?_
      refine cIF ?_
      refine cSL ?_
      cases hb29 : (((pick (way) (12) : Nat) : Int) == (1 : Int))
      ·
        have phb29 := neOfBeq hb29
        refine lB 44 hb29 ?_
        refine lS hs [(43, .bool false, [])] ?_
        refine lN ?_
        refine cIF ?_
        refine cSL ?_
        cases hb30 : (((pick (way) (12) : Nat) : Int) == (2 : Int))
        ·
          have phb30 := neOfBeq hb30
          refine lB 50 hb30 ?_
          refine lS hs [(49, .bool false, [])] ?_
          refine lN ?_
          refine cIF ?_
          refine cSL ?_
          cases hb31 : (((pick (way) (12) : Nat) : Int) == (3 : Int))
          ·
            have phb31 := neOfBeq hb31
            refine lB 56 hb31 ?_
            refine lS hs [(55, .bool false, [])] ?_
            refine lN ?_
            refine cIF ?_
            refine cSL ?_
            cases hb32 : (((pick (way) (12) : Nat) : Int) == (4 : Int))
            ·
              have phb32 := neOfBeq hb32
              refine lB 62 hb32 ?_
              refine lS hs [(61, .bool false, [])] ?_
              refine lN ?_
              refine cIF ?_
              refine cSL ?_
              cases hb33 : (((pick (way) (12) : Nat) : Int) == (5 : Int))
              ·
                have phb33 := neOfBeq hb33
                refine lB 69 hb33 ?_
                refine lS hs [(68, .bool false, [])] ?_
                refine lN ?_
                refine cTo [(3, .int .i64 ((pick (by_) ((((ts).length) + 17 : Nat)) : Nat) - 8)), (4, .pointer (some ⟨b1, 0, none⟩)), (8, .pointer (some ⟨b4, 0, none⟩)), (36, .int .i64 (pick (way) (12) : Nat)), (68, .bool false)] ?_
                refine cIF ?_
                refine cSL ?_
                cases hb34 : (((pick (way) (12) : Nat) : Int) == (6 : Int))
                ·
                  have phb34 := neOfBeq hb34
                  refine lB 73 hb34 ?_
                  refine lS hs [(72, .bool false, [])] ?_
                  refine lN ?_
                  refine cIF ?_
                  refine CG.skipN ?_
                  refine cSL ?_
                  obtain ⟨h35, hs, hc36⟩ := hs.pubr 0 (A := some ⟨bR22, 0, none⟩) (c := c12) (l := ts) (f := rsc) (ty := 47) (sz := 7) rst0 (fun _ => rfl)
                  refine lS hs [(82, .agg #[.int .i64 inp, .slice (some ⟨bR22, 0, none⟩) ((ts).length) c12, .slice O os.length d], [(1, 0, 3)])] ?_
                  refine lP 0 0 ([.int .i64 inp, .slice (some ⟨bR22, 0, none⟩) ((ts).length) c12, .slice O os.length d]) hs (fun w38 hs => ?_)
                  refine lN ?_
                  refine CG.ret ?_
                  exact hs.ret [(0, 0, 3)] (.agg #[.int .i64 inp, .slice (some ⟨bR22, 0, none⟩) ((ts).length) c12, .slice O os.length d]) (⟨inp, (some ⟨bR22, 0, none⟩), c12, O, d, ts, ss, os, by first | rfl | (rw [List.length_set]), (hs.f.1), (hs.f.2.2.2.1), (hs.f.2.2.1), hS, by first | omega | (simp; done) | (simp; omega), by first | omega | (simp; done) | (simp; omega), by first | omega | (simp; done) | (simp; omega), by first | omega | (simp; done) | (simp; omega)⟩)
                ·
                  have phb34 := eq_of_beq hb34
                  refine lB 73 hb34 ?_
                  refine lS hs [(72, .bool true, [])] ?_
                  refine lN ?_
                  refine cIT ?_
                  refine CG.listed ?_
                  refine lR 74 3 0 ([]) hs (fun b39 w40 h41 hs => ?_)
                  refine lS hs [(75, .pointer (some ⟨b1, 2, none⟩), []), (76, .slice O os.length d, [(1, 2, 1)])] ?_
                  refine lYz 77 3 1 i64c 0 b39 O os d 8 (.int .i64 0) hs (hs.f.2.2.1) (by omega) (fun _ _ => by kernel_rfl) (fun A43 c44 w45 h46 hs => ?_)
                  refine lS hs [(78, .int .i64 ((pick (by_) ((((ts).length) + 17 : Nat)) : Nat) - 8), [])] ?_
                  refine lR 79 3 1 ([.int .i64 ((pick (by_) ((((ts).length) + 17 : Nat)) : Nat) - 8)]) hs (fun b48 w49 h50 hs => ?_)
                  refine lY 80 0 3 1 c44 A43 os i64c ((pick (by_) ((((ts).length) + 17 : Nat)) : Nat) - 8 : Int) 8 b48 (.int .i64 0) hs (hs.f.1) (fun A52 c53 w54 h55 hs => ?_)
                  refine lS hs [(81, .pointer (some ⟨b1, 2, none⟩), [])] ?_
                  refine lP 1 2 ([.slice A52 ((os ++ [((pick (by_) ((((ts).length) + 17 : Nat)) : Nat) - 8 : Int)]).length) c53]) hs (fun w57 hs => ?_)
                  refine lN ?_
                  refine cTo [(4, .pointer (some ⟨b1, 0, none⟩)), (8, .pointer (some ⟨b4, 0, none⟩))] ?_
                  refine cSL ?_
                  obtain ⟨h58, hs, hc59⟩ := hs.pubr 1 (A := some ⟨bR22, 0, none⟩) (c := c12) (l := ts) (f := rsc) (ty := 47) (sz := 7) rst0 (fun _ => rfl)
                  obtain ⟨h61, hs, hc62⟩ := hs.pubr 0 (A := A52) (c := c53) (l := os ++ [((pick (by_) ((((ts).length) + 17 : Nat)) : Nat) - 8 : Int)]) (f := i64c) (ty := 3) (sz := 1) 0 (fun _ => rfl)
                  refine lS hs [(82, .agg #[.int .i64 inp, .slice (some ⟨bR22, 0, none⟩) ((ts).length) c12, .slice A52 ((os ++ [((pick (by_) ((((ts).length) + 17 : Nat)) : Nat) - 8 : Int)]).length) c53], [(1, 0, 3)])] ?_
                  refine lP 0 0 ([.int .i64 inp, .slice (some ⟨bR22, 0, none⟩) ((ts).length) c12, .slice A52 ((os ++ [((pick (by_) ((((ts).length) + 17 : Nat)) : Nat) - 8 : Int)]).length) c53]) hs (fun w64 hs => ?_)
                  refine lN ?_
                  refine CG.ret ?_
                  exact hs.ret [(0, 0, 3)] (.agg #[.int .i64 inp, .slice (some ⟨bR22, 0, none⟩) ((ts).length) c12, .slice A52 ((os ++ [((pick (by_) ((((ts).length) + 17 : Nat)) : Nat) - 8 : Int)]).length) c53]) (⟨inp, (some ⟨bR22, 0, none⟩), c12, A52, c53, ts, ss, os ++ [((pick (by_) ((((ts).length) + 17 : Nat)) : Nat) - 8 : Int)], by first | rfl | (rw [List.length_set]), (hs.f.2.1), (hs.f.2.2.2.2.2.2.1), (hs.f.1), hS, by first | omega | (simp; done) | (simp; omega), by first | omega | (simp; done) | (simp; omega), by first | omega | (simp; done) | (simp; omega), by first | omega | (simp; done) | (simp; omega)⟩)
              ·
                have phb33 := eq_of_beq hb33
                refine lB 69 hb33 ?_
                refine lS hs [(68, .bool true, [])] ?_
                refine lN ?_
                refine cTo [(3, .int .i64 ((pick (by_) ((((ts).length) + 17 : Nat)) : Nat) - 8)), (4, .pointer (some ⟨b1, 0, none⟩)), (8, .pointer (some ⟨b4, 0, none⟩)), (36, .int .i64 (pick (way) (12) : Nat)), (68, .bool true)] ?_
                refine cIT ?_
                refine CG.listed ?_
                refine lS hs [(70, .int .i64 ((pick (by_) ((((ts).length) + 17 : Nat)) : Nat) - 8), []), (71, .pointer (some ⟨b1, 0, none⟩), [])] ?_
                refine lP 1 0 ([.int .i64 ((pick (by_) ((((ts).length) + 17 : Nat)) : Nat) - 8)]) hs (fun w65 hs => ?_)
                refine lN ?_
                refine cSL ?_
                obtain ⟨h66, hs, hc67⟩ := hs.pubr 0 (A := some ⟨bR22, 0, none⟩) (c := c12) (l := ts) (f := rsc) (ty := 47) (sz := 7) rst0 (fun _ => rfl)
                refine lS hs [(82, .agg #[.int .i64 ((pick (by_) ((((ts).length) + 17 : Nat)) : Nat) - 8), .slice (some ⟨bR22, 0, none⟩) ((ts).length) c12, .slice O os.length d], [(1, 0, 3)])] ?_
                refine lP 0 0 ([.int .i64 ((pick (by_) ((((ts).length) + 17 : Nat)) : Nat) - 8), .slice (some ⟨bR22, 0, none⟩) ((ts).length) c12, .slice O os.length d]) hs (fun w69 hs => ?_)
                refine lN ?_
                refine CG.ret ?_
                exact hs.ret [(0, 0, 3)] (.agg #[.int .i64 ((pick (by_) ((((ts).length) + 17 : Nat)) : Nat) - 8), .slice (some ⟨bR22, 0, none⟩) ((ts).length) c12, .slice O os.length d]) (⟨(pick (by_) ((((ts).length) + 17 : Nat)) : Nat) - 8, (some ⟨bR22, 0, none⟩), c12, O, d, ts, ss, os, by first | rfl | (rw [List.length_set]), (hs.f.1), (hs.f.2.2.2.1), (hs.f.2.2.1), hS, by first | omega | (simp; done) | (simp; omega), by first | omega | (simp; done) | (simp; omega), by first | omega | (simp; done) | (simp; omega), by first | omega | (simp; done) | (simp; omega)⟩)
            ·
              have phb32 := eq_of_beq hb32
              refine lB 62 hb32 ?_
              refine lS hs [(61, .bool true, [])] ?_
              refine lN ?_
              refine cIT ?_
              refine CG.listed ?_
              refine lS hs [(63, .pointer (some ⟨bR22, 0 + (pick (at_) (((ts).length)) : Nat) * 7, none⟩), []), (64, .int .i64 ((pick (by_) ((((ts).length) + 17 : Nat)) : Nat) - 8), [])] ?_
              refine lC 65 hs (rOf ((pick (by_) ((((ts).length) + 17 : Nat)) : Nat) - 8) (by omega) (by omega) _ _ hs.g) ?_
              rintro _ w78 h79 hs ⟨A70, c71, A74, c75, rfl, hc72, hc76, hA73, hA77⟩
              replace hs := ((hs.a_SlO hA73).a_SlO hA77)
              refine lS hs [(66, .pointer (some ⟨bR22, 0 + (pick (at_) (((ts).length)) : Nat) * 7, none⟩), []), (67, .pointer (some ⟨bR22, 0 + (pick (at_) (((ts).length)) : Nat) * 7 + 4, none⟩), [])] ?_
              refine lRs (ty := 47) (c := c12) (b := bR22) 0 (pick (at_) (((ts).length)) : Nat) 4 ([.bool (ineg (((pick (by_) ((((ts).length) + 17 : Nat)) : Nat) - 8 : Int) : Rat).num), .slice A70 ((lim (iabs (((pick (by_) ((((ts).length) + 17 : Nat)) : Nat) - 8 : Int) : Rat).num)).length) c71, .slice A74 ((lim (((pick (by_) ((((ts).length) + 17 : Nat)) : Nat) - 8 : Int) : Rat).den).length) c75]) ts rsc 7 rst0 ({ (ts.getD (pick (at_) (((ts).length)) : Nat) rst0) with t := (ineg (((pick (by_) ((((ts).length) + 17 : Nat)) : Nat) - 8 : Int) : Rat).num, .slice A70 ((lim (iabs (((pick (by_) ((((ts).length) + 17 : Nat)) : Nat) - 8 : Int) : Rat).num)).length) c71, .slice A74 ((lim (((pick (by_) ((((ts).length) + 17 : Nat)) : Nat) - 8 : Int) : Rat).den).length) c75) } : RSt) hs (by omega) (fun w80 hs => ?_)
              replace hs := hs.to [⟨b4, 25, [.int .i64 0, .slice none 0 0, .slice none 0 0]⟩, ⟨b1, 25, [.int .i64 inp, .slice (some ⟨bR22, 0, none⟩) ((ts).length) c12, .slice O os.length d]⟩] [⟨47, 7, some ⟨bR22, 0, none⟩, c12, (ts).length, (ts.set (pick (at_) (((ts).length)) : Nat) ({ (ts.getD (pick (at_) (((ts).length)) : Nat) rst0) with t := (ineg (((pick (by_) ((((ts).length) + 17 : Nat)) : Nat) - 8 : Int) : Rat).num, .slice A70 ((lim (iabs (((pick (by_) ((((ts).length) + 17 : Nat)) : Nat) - 8 : Int) : Rat).num)).length) c71, .slice A74 ((lim (((pick (by_) ((((ts).length) + 17 : Nat)) : Nat) - 8 : Int) : Rat).den).length) c75) } : RSt)).flatMap rsc⟩]
              refine lN ?_
              refine cTo [(4, .pointer (some ⟨b1, 0, none⟩)), (8, .pointer (some ⟨b4, 0, none⟩))] ?_
              refine cSL ?_
              replace hs := hs.rown [⟨47, 7, some ⟨bR22, 0, none⟩, c12, (ts.set (pick (at_) (((ts).length)) : Nat) ({ (ts.getD (pick (at_) (((ts).length)) : Nat) rst0) with t := (ineg (((pick (by_) ((((ts).length) + 17 : Nat)) : Nat) - 8 : Int) : Rat).num, .slice A70 ((lim (iabs (((pick (by_) ((((ts).length) + 17 : Nat)) : Nat) - 8 : Int) : Rat).num)).length) c71, .slice A74 ((lim (((pick (by_) ((((ts).length) + 17 : Nat)) : Nat) - 8 : Int) : Rat).den).length) c75) } : RSt)).length, (ts.set (pick (at_) (((ts).length)) : Nat) ({ (ts.getD (pick (at_) (((ts).length)) : Nat) rst0) with t := (ineg (((pick (by_) ((((ts).length) + 17 : Nat)) : Nat) - 8 : Int) : Rat).num, .slice A70 ((lim (iabs (((pick (by_) ((((ts).length) + 17 : Nat)) : Nat) - 8 : Int) : Rat).num)).length) c71, .slice A74 ((lim (((pick (by_) ((((ts).length) + 17 : Nat)) : Nat) - 8 : Int) : Rat).den).length) c75) } : RSt)).flatMap rsc⟩] (by simp only [List.length_set])
              obtain ⟨h81, hs, hc82⟩ := hs.pubr 0 (A := some ⟨bR22, 0, none⟩) (c := c12) (l := ts.set (pick (at_) (((ts).length)) : Nat) ({ (ts.getD (pick (at_) (((ts).length)) : Nat) rst0) with t := (ineg (((pick (by_) ((((ts).length) + 17 : Nat)) : Nat) - 8 : Int) : Rat).num, .slice A70 ((lim (iabs (((pick (by_) ((((ts).length) + 17 : Nat)) : Nat) - 8 : Int) : Rat).num)).length) c71, .slice A74 ((lim (((pick (by_) ((((ts).length) + 17 : Nat)) : Nat) - 8 : Int) : Rat).den).length) c75) } : RSt)) (f := rsc) (ty := 47) (sz := 7) rst0 (fun _ => rfl)
              refine lS hs [(82, .agg #[.int .i64 inp, .slice (some ⟨bR22, 0, none⟩) ((ts).length) c12, .slice O os.length d], [(1, 0, 3)])] ?_
              refine lP 0 0 ([.int .i64 inp, .slice (some ⟨bR22, 0, none⟩) ((ts).length) c12, .slice O os.length d]) hs (fun w84 hs => ?_)
              refine lN ?_
              refine CG.ret ?_
              exact hs.ret [(0, 0, 3)] (.agg #[.int .i64 inp, .slice (some ⟨bR22, 0, none⟩) ((ts).length) c12, .slice O os.length d]) (⟨inp, (some ⟨bR22, 0, none⟩), c12, O, d, ts.set (pick (at_) (((ts).length)) : Nat) ({ (ts.getD (pick (at_) (((ts).length)) : Nat) rst0) with t := (ineg (((pick (by_) ((((ts).length) + 17 : Nat)) : Nat) - 8 : Int) : Rat).num, .slice A70 ((lim (iabs (((pick (by_) ((((ts).length) + 17 : Nat)) : Nat) - 8 : Int) : Rat).num)).length) c71, .slice A74 ((lim (((pick (by_) ((((ts).length) + 17 : Nat)) : Nat) - 8 : Int) : Rat).den).length) c75) } : RSt), ss.set (pick (at_) (((ts).length)) : Nat) ({ (ss.getD (pick (at_) (((ts).length)) : Nat) ost0) with q := (((pick (by_) ((((ts).length) + 17 : Nat)) : Nat) - 8 : Int) : Rat), has := true } : OSt), os, by first | rfl | (rw [List.length_set]), (hs.f.1), ((hs.f.2.2.2.2.2.1).set (pick (at_) (((ts).length)) : Nat) ⟨((hs.f.2.2.2.2.2.1).at_ (pick (at_) (((ts).length)) : Nat) (by omega)).op, ((hs.f.2.2.2.2.2.1).at_ (pick (at_) (((ts).length)) : Nat) (by omega)).a, ((hs.f.2.2.2.2.2.1).at_ (pick (at_) (((ts).length)) : Nat) (by omega)).b, ((hs.f.2.2.2.2.2.1).at_ (pick (at_) (((ts).length)) : Nat) (by omega)).n, ⟨_, _, _, _, rfl, hc72, hc76, (hs.f.2.2.1), (hs.f.2.1)⟩, fun h_ => (by cases h_)⟩), (hs.f.2.2.2.2.1), (hS.set (pick (at_) (((ts).length)) : Nat) ⟨(hS (pick (at_) (((ts).length)) : Nat) (by omega)).op, (hS (pick (at_) (((ts).length)) : Nat) (by omega)).a, (hS (pick (at_) (((ts).length)) : Nat) (by omega)).b, (hS (pick (at_) (((ts).length)) : Nat) (by omega)).n, ofint_small (by omega) (by omega)⟩), by first | omega | (simp; done) | (simp; omega), by first | omega | (simp; done) | (simp; omega), by first | omega | (simp; done) | (simp; omega), by first | omega | (simp; done) | (simp; omega)⟩)
          ·
            have phb31 := eq_of_beq hb31
            refine lB 56 hb31 ?_
            refine lS hs [(55, .bool true, [])] ?_
            refine lN ?_
            refine cIT ?_
            refine CG.listed ?_
            refine lS hs [(57, .pointer (some ⟨bR22, 0 + (pick (at_) (((ts).length)) : Nat) * 7, none⟩), []), (58, .int .i64 ((pick (by_) ((((ts).length) + 17 : Nat)) : Nat) - 8), []), (59, .pointer (some ⟨bR22, 0 + (pick (at_) (((ts).length)) : Nat) * 7, none⟩), []), (60, .pointer (some ⟨bR22, 0 + (pick (at_) (((ts).length)) : Nat) * 7 + 3, none⟩), [])] ?_
            refine lRs (ty := 47) (c := c12) (b := bR22) 0 (pick (at_) (((ts).length)) : Nat) 3 ([.int .i64 ((pick (by_) ((((ts).length) + 17 : Nat)) : Nat) - 8)]) ts rsc 7 rst0 ({ (ts.getD (pick (at_) (((ts).length)) : Nat) rst0) with n := (pick (by_) ((((ts).length) + 17 : Nat)) : Nat) - 8 } : RSt) hs (by omega) (fun w85 hs => ?_)
            replace hs := hs.to [⟨b4, 25, [.int .i64 0, .slice none 0 0, .slice none 0 0]⟩, ⟨b1, 25, [.int .i64 inp, .slice (some ⟨bR22, 0, none⟩) ((ts).length) c12, .slice O os.length d]⟩] [⟨47, 7, some ⟨bR22, 0, none⟩, c12, (ts).length, (ts.set (pick (at_) (((ts).length)) : Nat) ({ (ts.getD (pick (at_) (((ts).length)) : Nat) rst0) with n := (pick (by_) ((((ts).length) + 17 : Nat)) : Nat) - 8 } : RSt)).flatMap rsc⟩]
            refine lN ?_
            refine cTo [(4, .pointer (some ⟨b1, 0, none⟩)), (8, .pointer (some ⟨b4, 0, none⟩))] ?_
            refine cSL ?_
            replace hs := hs.rown [⟨47, 7, some ⟨bR22, 0, none⟩, c12, (ts.set (pick (at_) (((ts).length)) : Nat) ({ (ts.getD (pick (at_) (((ts).length)) : Nat) rst0) with n := (pick (by_) ((((ts).length) + 17 : Nat)) : Nat) - 8 } : RSt)).length, (ts.set (pick (at_) (((ts).length)) : Nat) ({ (ts.getD (pick (at_) (((ts).length)) : Nat) rst0) with n := (pick (by_) ((((ts).length) + 17 : Nat)) : Nat) - 8 } : RSt)).flatMap rsc⟩] (by simp only [List.length_set])
            obtain ⟨h86, hs, hc87⟩ := hs.pubr 0 (A := some ⟨bR22, 0, none⟩) (c := c12) (l := ts.set (pick (at_) (((ts).length)) : Nat) ({ (ts.getD (pick (at_) (((ts).length)) : Nat) rst0) with n := (pick (by_) ((((ts).length) + 17 : Nat)) : Nat) - 8 } : RSt)) (f := rsc) (ty := 47) (sz := 7) rst0 (fun _ => rfl)
            refine lS hs [(82, .agg #[.int .i64 inp, .slice (some ⟨bR22, 0, none⟩) ((ts).length) c12, .slice O os.length d], [(1, 0, 3)])] ?_
            refine lP 0 0 ([.int .i64 inp, .slice (some ⟨bR22, 0, none⟩) ((ts).length) c12, .slice O os.length d]) hs (fun w89 hs => ?_)
            refine lN ?_
            refine CG.ret ?_
            exact hs.ret [(0, 0, 3)] (.agg #[.int .i64 inp, .slice (some ⟨bR22, 0, none⟩) ((ts).length) c12, .slice O os.length d]) (⟨inp, (some ⟨bR22, 0, none⟩), c12, O, d, ts.set (pick (at_) (((ts).length)) : Nat) ({ (ts.getD (pick (at_) (((ts).length)) : Nat) rst0) with n := (pick (by_) ((((ts).length) + 17 : Nat)) : Nat) - 8 } : RSt), ss.set (pick (at_) (((ts).length)) : Nat) ({ (ss.getD (pick (at_) (((ts).length)) : Nat) ost0) with n := (pick (by_) ((((ts).length) + 17 : Nat)) : Nat) - 8 } : OSt), os, by first | rfl | (rw [List.length_set]), (hs.f.1), ((hs.f.2.2.2.1).set (pick (at_) (((ts).length)) : Nat) ⟨((hs.f.2.2.2.1).at_ (pick (at_) (((ts).length)) : Nat) (by omega)).op, ((hs.f.2.2.2.1).at_ (pick (at_) (((ts).length)) : Nat) (by omega)).a, ((hs.f.2.2.2.1).at_ (pick (at_) (((ts).length)) : Nat) (by omega)).b, rfl, ((hs.f.2.2.2.1).at_ (pick (at_) (((ts).length)) : Nat) (by omega)).q, ((hs.f.2.2.2.1).at_ (pick (at_) (((ts).length)) : Nat) (by omega)).z⟩), (hs.f.2.2.1), (hS.set (pick (at_) (((ts).length)) : Nat) ⟨(hS (pick (at_) (((ts).length)) : Nat) (by omega)).op, (hS (pick (at_) (((ts).length)) : Nat) (by omega)).a, (hS (pick (at_) (((ts).length)) : Nat) (by omega)).b, (by dsimp only; omega), (hS (pick (at_) (((ts).length)) : Nat) (by omega)).q⟩), by first | omega | (simp; done) | (simp; omega), by first | omega | (simp; done) | (simp; omega), by first | omega | (simp; done) | (simp; omega), by first | omega | (simp; done) | (simp; omega)⟩)
        ·
          have phb30 := eq_of_beq hb30
          refine lB 50 hb30 ?_
          refine lS hs [(49, .bool true, [])] ?_
          refine lN ?_
          refine cIT ?_
          refine CG.listed ?_
          refine lS hs [(51, .pointer (some ⟨bR22, 0 + (pick (at_) (((ts).length)) : Nat) * 7, none⟩), []), (52, .int .i64 ((pick (by_) ((((ts).length) + 17 : Nat)) : Nat) - 8), []), (53, .pointer (some ⟨bR22, 0 + (pick (at_) (((ts).length)) : Nat) * 7, none⟩), []), (54, .pointer (some ⟨bR22, 0 + (pick (at_) (((ts).length)) : Nat) * 7 + 2, none⟩), [])] ?_
          refine lRs (ty := 47) (c := c12) (b := bR22) 0 (pick (at_) (((ts).length)) : Nat) 2 ([.int .i64 ((pick (by_) ((((ts).length) + 17 : Nat)) : Nat) - 8)]) ts rsc 7 rst0 ({ (ts.getD (pick (at_) (((ts).length)) : Nat) rst0) with b := (pick (by_) ((((ts).length) + 17 : Nat)) : Nat) - 8 } : RSt) hs (by omega) (fun w90 hs => ?_)
          replace hs := hs.to [⟨b4, 25, [.int .i64 0, .slice none 0 0, .slice none 0 0]⟩, ⟨b1, 25, [.int .i64 inp, .slice (some ⟨bR22, 0, none⟩) ((ts).length) c12, .slice O os.length d]⟩] [⟨47, 7, some ⟨bR22, 0, none⟩, c12, (ts).length, (ts.set (pick (at_) (((ts).length)) : Nat) ({ (ts.getD (pick (at_) (((ts).length)) : Nat) rst0) with b := (pick (by_) ((((ts).length) + 17 : Nat)) : Nat) - 8 } : RSt)).flatMap rsc⟩]
          refine lN ?_
          refine cTo [(4, .pointer (some ⟨b1, 0, none⟩)), (8, .pointer (some ⟨b4, 0, none⟩))] ?_
          refine cSL ?_
          replace hs := hs.rown [⟨47, 7, some ⟨bR22, 0, none⟩, c12, (ts.set (pick (at_) (((ts).length)) : Nat) ({ (ts.getD (pick (at_) (((ts).length)) : Nat) rst0) with b := (pick (by_) ((((ts).length) + 17 : Nat)) : Nat) - 8 } : RSt)).length, (ts.set (pick (at_) (((ts).length)) : Nat) ({ (ts.getD (pick (at_) (((ts).length)) : Nat) rst0) with b := (pick (by_) ((((ts).length) + 17 : Nat)) : Nat) - 8 } : RSt)).flatMap rsc⟩] (by simp only [List.length_set])
          obtain ⟨h91, hs, hc92⟩ := hs.pubr 0 (A := some ⟨bR22, 0, none⟩) (c := c12) (l := ts.set (pick (at_) (((ts).length)) : Nat) ({ (ts.getD (pick (at_) (((ts).length)) : Nat) rst0) with b := (pick (by_) ((((ts).length) + 17 : Nat)) : Nat) - 8 } : RSt)) (f := rsc) (ty := 47) (sz := 7) rst0 (fun _ => rfl)
          refine lS hs [(82, .agg #[.int .i64 inp, .slice (some ⟨bR22, 0, none⟩) ((ts).length) c12, .slice O os.length d], [(1, 0, 3)])] ?_
          refine lP 0 0 ([.int .i64 inp, .slice (some ⟨bR22, 0, none⟩) ((ts).length) c12, .slice O os.length d]) hs (fun w94 hs => ?_)
          refine lN ?_
          refine CG.ret ?_
          exact hs.ret [(0, 0, 3)] (.agg #[.int .i64 inp, .slice (some ⟨bR22, 0, none⟩) ((ts).length) c12, .slice O os.length d]) (⟨inp, (some ⟨bR22, 0, none⟩), c12, O, d, ts.set (pick (at_) (((ts).length)) : Nat) ({ (ts.getD (pick (at_) (((ts).length)) : Nat) rst0) with b := (pick (by_) ((((ts).length) + 17 : Nat)) : Nat) - 8 } : RSt), ss.set (pick (at_) (((ts).length)) : Nat) ({ (ss.getD (pick (at_) (((ts).length)) : Nat) ost0) with b := (pick (by_) ((((ts).length) + 17 : Nat)) : Nat) - 8 } : OSt), os, by first | rfl | (rw [List.length_set]), (hs.f.1), ((hs.f.2.2.2.1).set (pick (at_) (((ts).length)) : Nat) ⟨((hs.f.2.2.2.1).at_ (pick (at_) (((ts).length)) : Nat) (by omega)).op, ((hs.f.2.2.2.1).at_ (pick (at_) (((ts).length)) : Nat) (by omega)).a, rfl, ((hs.f.2.2.2.1).at_ (pick (at_) (((ts).length)) : Nat) (by omega)).n, ((hs.f.2.2.2.1).at_ (pick (at_) (((ts).length)) : Nat) (by omega)).q, ((hs.f.2.2.2.1).at_ (pick (at_) (((ts).length)) : Nat) (by omega)).z⟩), (hs.f.2.2.1), (hS.set (pick (at_) (((ts).length)) : Nat) ⟨(hS (pick (at_) (((ts).length)) : Nat) (by omega)).op, (hS (pick (at_) (((ts).length)) : Nat) (by omega)).a, (by dsimp only; omega), (hS (pick (at_) (((ts).length)) : Nat) (by omega)).n, (hS (pick (at_) (((ts).length)) : Nat) (by omega)).q⟩), by first | omega | (simp; done) | (simp; omega), by first | omega | (simp; done) | (simp; omega), by first | omega | (simp; done) | (simp; omega), by first | omega | (simp; done) | (simp; omega)⟩)
      ·
        have phb29 := eq_of_beq hb29
        refine lB 44 hb29 ?_
        refine lS hs [(43, .bool true, [])] ?_
        refine lN ?_
        refine cIT ?_
        refine CG.listed ?_
        refine lS hs [(45, .pointer (some ⟨bR22, 0 + (pick (at_) (((ts).length)) : Nat) * 7, none⟩), []), (46, .int .i64 ((pick (by_) ((((ts).length) + 17 : Nat)) : Nat) - 8), []), (47, .pointer (some ⟨bR22, 0 + (pick (at_) (((ts).length)) : Nat) * 7, none⟩), []), (48, .pointer (some ⟨bR22, 0 + (pick (at_) (((ts).length)) : Nat) * 7 + 1, none⟩), [])] ?_
        refine lRs (ty := 47) (c := c12) (b := bR22) 0 (pick (at_) (((ts).length)) : Nat) 1 ([.int .i64 ((pick (by_) ((((ts).length) + 17 : Nat)) : Nat) - 8)]) ts rsc 7 rst0 ({ (ts.getD (pick (at_) (((ts).length)) : Nat) rst0) with a := (pick (by_) ((((ts).length) + 17 : Nat)) : Nat) - 8 } : RSt) hs (by omega) (fun w95 hs => ?_)
        replace hs := hs.to [⟨b4, 25, [.int .i64 0, .slice none 0 0, .slice none 0 0]⟩, ⟨b1, 25, [.int .i64 inp, .slice (some ⟨bR22, 0, none⟩) ((ts).length) c12, .slice O os.length d]⟩] [⟨47, 7, some ⟨bR22, 0, none⟩, c12, (ts).length, (ts.set (pick (at_) (((ts).length)) : Nat) ({ (ts.getD (pick (at_) (((ts).length)) : Nat) rst0) with a := (pick (by_) ((((ts).length) + 17 : Nat)) : Nat) - 8 } : RSt)).flatMap rsc⟩]
        refine lN ?_
        refine cTo [(4, .pointer (some ⟨b1, 0, none⟩)), (8, .pointer (some ⟨b4, 0, none⟩))] ?_
        refine cSL ?_
        replace hs := hs.rown [⟨47, 7, some ⟨bR22, 0, none⟩, c12, (ts.set (pick (at_) (((ts).length)) : Nat) ({ (ts.getD (pick (at_) (((ts).length)) : Nat) rst0) with a := (pick (by_) ((((ts).length) + 17 : Nat)) : Nat) - 8 } : RSt)).length, (ts.set (pick (at_) (((ts).length)) : Nat) ({ (ts.getD (pick (at_) (((ts).length)) : Nat) rst0) with a := (pick (by_) ((((ts).length) + 17 : Nat)) : Nat) - 8 } : RSt)).flatMap rsc⟩] (by simp only [List.length_set])
        obtain ⟨h96, hs, hc97⟩ := hs.pubr 0 (A := some ⟨bR22, 0, none⟩) (c := c12) (l := ts.set (pick (at_) (((ts).length)) : Nat) ({ (ts.getD (pick (at_) (((ts).length)) : Nat) rst0) with a := (pick (by_) ((((ts).length) + 17 : Nat)) : Nat) - 8 } : RSt)) (f := rsc) (ty := 47) (sz := 7) rst0 (fun _ => rfl)
        refine lS hs [(82, .agg #[.int .i64 inp, .slice (some ⟨bR22, 0, none⟩) ((ts).length) c12, .slice O os.length d], [(1, 0, 3)])] ?_
        refine lP 0 0 ([.int .i64 inp, .slice (some ⟨bR22, 0, none⟩) ((ts).length) c12, .slice O os.length d]) hs (fun w99 hs => ?_)
        refine lN ?_
        refine CG.ret ?_
        exact hs.ret [(0, 0, 3)] (.agg #[.int .i64 inp, .slice (some ⟨bR22, 0, none⟩) ((ts).length) c12, .slice O os.length d]) (⟨inp, (some ⟨bR22, 0, none⟩), c12, O, d, ts.set (pick (at_) (((ts).length)) : Nat) ({ (ts.getD (pick (at_) (((ts).length)) : Nat) rst0) with a := (pick (by_) ((((ts).length) + 17 : Nat)) : Nat) - 8 } : RSt), ss.set (pick (at_) (((ts).length)) : Nat) ({ (ss.getD (pick (at_) (((ts).length)) : Nat) ost0) with a := (pick (by_) ((((ts).length) + 17 : Nat)) : Nat) - 8 } : OSt), os, by first | rfl | (rw [List.length_set]), (hs.f.1), ((hs.f.2.2.2.1).set (pick (at_) (((ts).length)) : Nat) ⟨((hs.f.2.2.2.1).at_ (pick (at_) (((ts).length)) : Nat) (by omega)).op, rfl, ((hs.f.2.2.2.1).at_ (pick (at_) (((ts).length)) : Nat) (by omega)).b, ((hs.f.2.2.2.1).at_ (pick (at_) (((ts).length)) : Nat) (by omega)).n, ((hs.f.2.2.2.1).at_ (pick (at_) (((ts).length)) : Nat) (by omega)).q, ((hs.f.2.2.2.1).at_ (pick (at_) (((ts).length)) : Nat) (by omega)).z⟩), (hs.f.2.2.1), (hS.set (pick (at_) (((ts).length)) : Nat) ⟨(hS (pick (at_) (((ts).length)) : Nat) (by omega)).op, (by dsimp only; omega), (hS (pick (at_) (((ts).length)) : Nat) (by omega)).b, (hS (pick (at_) (((ts).length)) : Nat) (by omega)).n, (hS (pick (at_) (((ts).length)) : Nat) (by omega)).q⟩), by first | omega | (simp; done) | (simp; omega), by first | omega | (simp; done) | (simp; omega), by first | omega | (simp; done) | (simp; omega), by first | omega | (simp; done) | (simp; omega)⟩)
    ·
      have phb28 := eq_of_beq hb28
      refine lB 38 hb28 ?_
      refine lS hs [(37, .bool true, [])] ?_
      refine lN ?_
      refine cIT ?_
      refine CG.listed ?_
      refine lS hs [(39, .pointer (some ⟨bR22, 0 + (pick (at_) (((ts).length)) : Nat) * 7, none⟩), []), (40, .int .i64 ((pick (by_) ((((ts).length) + 17 : Nat)) : Nat) - 8), []), (41, .pointer (some ⟨bR22, 0 + (pick (at_) (((ts).length)) : Nat) * 7, none⟩), []), (42, .pointer (some ⟨bR22, 0 + (pick (at_) (((ts).length)) : Nat) * 7, none⟩), [])] ?_
      refine lRs (ty := 47) (c := c12) (b := bR22) 0 (pick (at_) (((ts).length)) : Nat) 0 ([.int .i64 ((pick (by_) ((((ts).length) + 17 : Nat)) : Nat) - 8)]) ts rsc 7 rst0 ({ (ts.getD (pick (at_) (((ts).length)) : Nat) rst0) with op := (pick (by_) ((((ts).length) + 17 : Nat)) : Nat) - 8 } : RSt) hs (by omega) (fun w100 hs => ?_)
      replace hs := hs.to [⟨b4, 25, [.int .i64 0, .slice none 0 0, .slice none 0 0]⟩, ⟨b1, 25, [.int .i64 inp, .slice (some ⟨bR22, 0, none⟩) ((ts).length) c12, .slice O os.length d]⟩] [⟨47, 7, some ⟨bR22, 0, none⟩, c12, (ts).length, (ts.set (pick (at_) (((ts).length)) : Nat) ({ (ts.getD (pick (at_) (((ts).length)) : Nat) rst0) with op := (pick (by_) ((((ts).length) + 17 : Nat)) : Nat) - 8 } : RSt)).flatMap rsc⟩]
      refine lN ?_
      refine cSL ?_
      replace hs := hs.rown [⟨47, 7, some ⟨bR22, 0, none⟩, c12, (ts.set (pick (at_) (((ts).length)) : Nat) ({ (ts.getD (pick (at_) (((ts).length)) : Nat) rst0) with op := (pick (by_) ((((ts).length) + 17 : Nat)) : Nat) - 8 } : RSt)).length, (ts.set (pick (at_) (((ts).length)) : Nat) ({ (ts.getD (pick (at_) (((ts).length)) : Nat) rst0) with op := (pick (by_) ((((ts).length) + 17 : Nat)) : Nat) - 8 } : RSt)).flatMap rsc⟩] (by simp only [List.length_set])
      obtain ⟨h101, hs, hc102⟩ := hs.pubr 0 (A := some ⟨bR22, 0, none⟩) (c := c12) (l := ts.set (pick (at_) (((ts).length)) : Nat) ({ (ts.getD (pick (at_) (((ts).length)) : Nat) rst0) with op := (pick (by_) ((((ts).length) + 17 : Nat)) : Nat) - 8 } : RSt)) (f := rsc) (ty := 47) (sz := 7) rst0 (fun _ => rfl)
      refine lS hs [(82, .agg #[.int .i64 inp, .slice (some ⟨bR22, 0, none⟩) ((ts).length) c12, .slice O os.length d], [(1, 0, 3)])] ?_
      refine lP 0 0 ([.int .i64 inp, .slice (some ⟨bR22, 0, none⟩) ((ts).length) c12, .slice O os.length d]) hs (fun w104 hs => ?_)
      refine lN ?_
      refine cTo [(8, .pointer (some ⟨b4, 0, none⟩))] ?_
      refine CG.ret ?_
      exact hs.ret [(0, 0, 3)] (.agg #[.int .i64 inp, .slice (some ⟨bR22, 0, none⟩) ((ts).length) c12, .slice O os.length d]) (⟨inp, (some ⟨bR22, 0, none⟩), c12, O, d, ts.set (pick (at_) (((ts).length)) : Nat) ({ (ts.getD (pick (at_) (((ts).length)) : Nat) rst0) with op := (pick (by_) ((((ts).length) + 17 : Nat)) : Nat) - 8 } : RSt), ss.set (pick (at_) (((ts).length)) : Nat) ({ (ss.getD (pick (at_) (((ts).length)) : Nat) ost0) with op := (pick (by_) ((((ts).length) + 17 : Nat)) : Nat) - 8 } : OSt), os, by first | rfl | (rw [List.length_set]), (hs.f.1), ((hs.f.2.2.2.1).set (pick (at_) (((ts).length)) : Nat) ⟨rfl, ((hs.f.2.2.2.1).at_ (pick (at_) (((ts).length)) : Nat) (by omega)).a, ((hs.f.2.2.2.1).at_ (pick (at_) (((ts).length)) : Nat) (by omega)).b, ((hs.f.2.2.2.1).at_ (pick (at_) (((ts).length)) : Nat) (by omega)).n, ((hs.f.2.2.2.1).at_ (pick (at_) (((ts).length)) : Nat) (by omega)).q, ((hs.f.2.2.2.1).at_ (pick (at_) (((ts).length)) : Nat) (by omega)).z⟩), (hs.f.2.2.1), (hS.set (pick (at_) (((ts).length)) : Nat) ⟨(by dsimp only; omega), (hS (pick (at_) (((ts).length)) : Nat) (by omega)).a, (hS (pick (at_) (((ts).length)) : Nat) (by omega)).b, (hS (pick (at_) (((ts).length)) : Nat) (by omega)).n, (hS (pick (at_) (((ts).length)) : Nat) (by omega)).q⟩), by first | omega | (simp; done) | (simp; omega), by first | omega | (simp; done) | (simp; omega), by first | omega | (simp; done) | (simp; omega), by first | omega | (simp; done) | (simp; omega)⟩)
  ·
    have phb19 := eq_of_beq hb19
    refine lB 25 hb19 ?_
    refine lN ?_
    refine cIT ?_
    refine cSL ?_
    refine lS hs [(26, .agg #[.int .i64 inp, .slice A11 ((ts).length) c12, .slice O os.length d], [(1, 0, 3)])] ?_
    refine lP 0 0 ([.int .i64 inp, .slice A11 ((ts).length) c12, .slice O os.length d]) hs (fun w105 hs => ?_)
    refine lN ?_
    refine CG.ret ?_
    exact absurd hp0 (by omega)

set_option maxRecDepth 100000 in
set_option maxHeartbeats 600000 in
theorem mSpoiltT0 (inp way at_ by_ : Int) (w : World) (h : Hp) (g : G w h) :
    Calls Tryz.prog 4 #[.agg #[.int .i64 inp, .slice none 0 0, .slice none 0 0], .int .i64 way, .int .i64 at_, .int .i64 by_] w (Ret w h fun v h1 => ∃ b, v = .agg #[.int .i64 inp, .slice (some ⟨b, 0, none⟩) 0 0, .slice none 0 0]) := by
  have hs := SS.start g
  refine go Tryz.func4 [(0, .agg #[.int .i64 inp, .slice none 0 0, .slice none 0 0]), (1, .int .i64 way), (2, .int .i64 at_), (3, .int .i64 by_)] rfl ?_
  refine cSL ?_
  refine lA 4 25 ([.int .i64 inp, .slice none 0 0, .slice none 0 0]) hs (fun b1 w2 h3 hs => ?_)
  refine lA 8 25 ([.int .i64 0, .slice none 0 0, .slice none 0 0]) hs (fun b4 w5 h6 hs => ?_)
  refine lN ?_
  refine cSL ?_
  refine lR 10 47 0 ([]) hs (fun b7 w8 h9 hs => ?_)
  refine lS hs [(11, .pointer (some ⟨b1, 1, none⟩), []), (12, .slice none 0 0, [(1, 1, 1)]), (13, .slice (some ⟨b7, 0, none⟩) 0 0, []), (14, .pointer (some ⟨b1, 1, none⟩), [])] ?_
  refine lP 1 1 ([.slice (some ⟨b7, 0, none⟩) 0 0]) hs (fun w11 hs => ?_)
  refine lN ?_
  refine cSL ?_
  refine lS hs [(15, .int .i64 by_, []), (16, .pointer (some ⟨b1, 1, none⟩), []), (17, .slice (some ⟨b7, 0, none⟩) 0 0, [(1, 1, 1)]), (18, .int .i64 0, []), (19, .int .i64 17, [])] ?_
  refine lC 20 hs (hPick (by_) (17) (by omega) (by omega) _ _ hs.g) ?_
  rintro _ w12 h13 hs rfl
  have lp0 := pick_lt (by_) (17) (by omega)
  refine lI 21 ((pick (by_) (17) : Nat) - 8) ?_
  refine lS hs [(3, .int .i64 ((pick (by_) (17) : Nat) - 8), [])] ?_
  refine lN ?_
  refine cTo [(1, .int .i64 way), (2, .int .i64 at_), (3, .int .i64 ((pick (by_) (17) : Nat) - 8)), (4, .pointer (some ⟨b1, 0, none⟩)), (8, .pointer (some ⟨b4, 0, none⟩))] ?_
  refine CG.seq ?_
  refine cSL ?_
  refine lS hs [(22, .pointer (some ⟨b1, 1, none⟩), []), (23, .slice (some ⟨b7, 0, none⟩) 0 0, [(1, 1, 1)]), (24, .int .i64 0, []), (25, .bool true, [])] ?_
  refine lN ?_
  refine cIT ?_
  refine cSL ?_
  refine lS hs [(26, .agg #[.int .i64 inp, .slice (some ⟨b7, 0, none⟩) 0 0, .slice none 0 0], [(1, 0, 3)])] ?_
  refine lP 0 0 ([.int .i64 inp, .slice (some ⟨b7, 0, none⟩) 0 0, .slice none 0 0]) hs (fun w14 hs => ?_)
  refine lN ?_
  refine CG.ret ?_
  exact hs.ret [(0, 0, 3)] (.agg #[.int .i64 inp, .slice (some ⟨b7, 0, none⟩) 0 0, .slice none 0 0]) (⟨_, rfl⟩)

set_option maxRecDepth 100000 in
set_option maxHeartbeats 600000 in
theorem mInTape (inp : Int) (A : Option Addr) (c : Nat) (ts : List RSt) (ss : List OSt) (O : Option Addr) (d : Nat) (os : List Int) (hl : ss.length ≤ 20) (ho0 : 0 < os.length) (hol : os.length ≤ 3) (hS : OSms ss) (w : World) (h : Hp) (g : G w h) (hA : SlO 7 rsc rst0 h A ts) (hT : RSs h ts ss) (hO : SlO 1 i64c 0 h O os) :
    Calls Tryz.prog 6 #[.agg #[.int .i64 inp, .slice A ts.length c, .slice O os.length d]] w (Ret w h fun v h1 => ∃ A c O d, v = .agg #[.int .i64 inp, .slice A (ss.map OSt.stp).length c, .slice O os.length d] ∧ SlO 9 stc stp0 h1 A (ss.map OSt.stp) ∧ SlO 1 i64c 0 h1 O os) := by
  have hs := SS.start g
  replace hs := (((hs.a_SlO hA).add (K := fun h_ => RSs h_ ts ss) hT).a_SlO hO)
  have hlt := (hs.f.2.1).len
  refine go Tryz.func6 [(0, .agg #[.int .i64 inp, .slice A ts.length c, .slice O os.length d])] rfl ?_
  refine cSL ?_
  refine lA 1 25 ([.int .i64 inp, .slice A ts.length c, .slice O os.length d]) hs (fun b1 w2 h3 hs => ?_)
  refine lA 2 30 ([.int .i64 0, .slice none 0 0, .slice none 0 0]) hs (fun b4 w5 h6 hs => ?_)
  refine lN ?_
  refine CG.seq ?_
  have hsr := hs
  refine cR 8 [⟨7, 3, .cells (List.toArray [.int .i64 0, .slice none 0 0, .slice none 0 0]) 30 (0, 0)⟩] mixed hs (al_cons (alOk (by kernel_rfl) (fun _ _ => by kernel_rfl)) al_nil) ?_
  refine eV 0 7 (.pointer (some ⟨b1, 0, none⟩)) ?_
  refine eO 1 8 [(1, 0, 1)] (.int .i64 inp) hs ?_
  refine eV 3 10 (.pointer (some ⟨b1, 2, none⟩)) ?_
  refine eO 4 11 [(1, 2, 1)] (.slice O os.length d) hs ?_
  refine eR 2 9 3 0 ([]) hs (fun b7 w8 h9 hs => ?_)
  refine eYz 5 12 3 1 i64c 0 b7 O os d 8 (.int .i64 0) hs (fun _ f_ => f_.2.1) (by omega) (fun _ _ => by kernel_rfl) (fun A11 c12 w13 h14 hs => ?_)
  refine eV 6 13 (.agg #[.int .i64 inp, .slice none 0 0, .slice A11 ((os).length) c12]) ?_
  refine eD1q [] [⟨3, 1, A11, c12, (os).length, (os).flatMap i64c⟩] hsr hs 30 [.int .i64 0, .slice none 0 0, .slice none 0 0] (fun w16 h17 b18 hs => ?_)
  refine tP 8 0 0 ([.int .i64 inp, .slice none 0 0, .slice A11 ((os).length) c12]) hs (fun w19 hs => ?_)
  refine tN ?_
  refine CG.seq ?_
  refine cSL ?_
  refine lS hs [(4, .int .i64 0, [])] ?_
  refine lN ?_
  refine CG.block ?_
  replace hs := hs.nil 62 9
  refine cTo [(1, .pointer (some ⟨b1, 0, none⟩)), (2, .pointer (some ⟨b4, 0, none⟩)), (3, .pointer (some ⟨b18, 0, none⟩)), (4, .int .i64 0)] ?_
  refine CG.loop (fun μ_ Γ w_ => ∃ (k : Nat) (saA : Option Addr) (sac : Nat) (al : List Stp) (h_ : Hp), μ_ = ss.length - k ∧ Γ = [(1, .pointer (some ⟨b1, 0, none⟩)), (2, .pointer (some ⟨b4, 0, none⟩)), (3, .pointer (some ⟨b18, 0, none⟩)), (4, .int .i64 (k : Nat))] ∧ SS w h w_ h_ [⟨b18, 30, [.int .i64 inp, .slice saA ((al).length) sac, .slice A11 ((os).length) c12]⟩, ⟨b4, 30, [.int .i64 0, .slice none 0 0, .slice none 0 0]⟩, ⟨b1, 25, [.int .i64 inp, .slice A ts.length c, .slice O os.length d]⟩] [⟨62, 9, saA, sac, (al).length, (al).flatMap stc⟩, ⟨3, 1, A11, c12, (os).length, (os).flatMap i64c⟩] [fun h_ => Seg h_ b7 0 ([]), fun h_ => SlO 1 i64c 0 h_ O os, fun h_ => RSs h_ ts ss, fun h_ => SlO 7 rsc rst0 h_ A ts] ∧ (k ≤ ss.length) ∧ (al = (ss.take k).map OSt.stp)) _ ⟨0, none, 0, [], h17, rfl, rfl, hs.to _ _, Nat.zero_le _, rfl⟩ ?_
  rintro _ _ w20 ⟨k, saA, sac, al, h21, hm22, rfl, hs, hk, hal⟩
  have hll : al.length = k := by rw [hal]; simp; omega
  have hz0 := fun h0 => ((hs.f.2.2.1).at_ k h0).z
  have hop := odn_pos (o := (ss.getD k ost0))
  refine CG.seq ?_
  refine cSL ?_
  refine lS hs [(14, .int .i64 (k : Nat), []), (15, .pointer (some ⟨b1, 1, none⟩), []), (16, .slice A ts.length c, [(2, 1, 1)]), (17, .int .i64 (ts.length : Nat), [])] ?_
  cases hb23 : (decide (((k : Nat) : Int) < ((ts.length : Nat) : Int)))
  ·
    have phb23 := of_decide_eq_false hb23
    refine lB 18 hb23 ?_
    refine lN ?_
    refine cIF ?_
    refine CG.exit ?_
    show CG _ _ _ _ _ _ _ _
    refine cSL ?_
    obtain ⟨h24, hs, hc25⟩ := hs.pubr 0 (A := saA) (c := sac) (l := al) (f := stc) (ty := 62) (sz := 9) stp0 (fun _ => rfl)
    obtain ⟨h27, hs, hc28⟩ := hs.pubr 0 (A := A11) (c := c12) (l := os) (f := i64c) (ty := 3) (sz := 1) 0 (fun _ => rfl)
    refine lS hs [(50, .agg #[.int .i64 inp, .slice saA ((al).length) sac, .slice A11 ((os).length) c12], [(0, 0, 3)])] ?_
    refine lP 1 0 ([.int .i64 inp, .slice saA ((al).length) sac, .slice A11 ((os).length) c12]) hs (fun w30 hs => ?_)
    refine lN ?_
    refine CG.ret ?_
    have hkn : k = ss.length := by omega
    subst hkn
    rw [List.take_length] at hal
    exact hs.ret [(1, 0, 3)] (.agg #[.int .i64 inp, .slice saA ((al).length) sac, .slice A11 ((os).length) c12]) (⟨saA, sac, A11, c12, by rw [hal], by rw [← hal]; exact (hs.f.2.1), (hs.f.1)⟩)
  ·
    have phb23 := of_decide_eq_true hb23
    refine lB 18 hb23 ?_
    refine lN ?_
    refine cIT ?_
    refine CG.skipN ?_
    refine CG.seq ?_
    refine CG.block ?_
    refine cSL ?_
    refine lS hs [(21, .pointer (some ⟨b1, 1, none⟩), []), (22, .slice A ts.length c, [(2, 1, 1)]), (23, .int .i64 (k : Nat), [])] ?_
    refine lX 24 A ts.length c 7 (k : Nat) k ((hs.f.2.2.2.1).ok (by omega)) ?_
    obtain ⟨Aqx, cqx, Dqx, dqx, eqx, hcqx, hdqx, hAqx, hDqx⟩ := ((hs.f.2.2.1).at_ k (by omega)).opn
    replace hs := ((hs.a_SlO hAqx).a_SlO hDqx)
    refine lHe 25 (.agg #[.int .i64 ((ts.getD k rst0).op), .int .i64 ((ts.getD k rst0).a), .int .i64 ((ts.getD k rst0).b), .int .i64 ((ts.getD k rst0).n), .bool ((ts.getD k rst0).t.1), (ts.getD k rst0).t.2.1, (ts.getD k rst0).t.2.2]) hs ((hs.f.2.2.2.2.2.1).el k (by omega)) eqx ?_
    refine lA 5 47 ([.int .i64 0, .int .i64 0, .int .i64 0, .int .i64 0, .bool false, .slice none 0 0, .slice none 0 0]) hs (fun b31 w32 h33 hs => ?_)
    refine lP 0 0 ([.int .i64 ((ss.getD k ost0).op), .int .i64 ((ss.getD k ost0).a), .int .i64 ((ss.getD k ost0).b), .int .i64 ((ss.getD k ost0).n), .bool (ineg (ss.getD k ost0).q.num), .slice Aqx ((lim (iabs (ss.getD k ost0).q.num)).length) cqx, .slice Dqx ((lim (odn (ss.getD k ost0))).length) dqx]) hs (fun w34 hs => ?_)
    refine lN ?_
    refine cSL ?_
    refine lS hs [(26, .pointer (some ⟨b31, 0, none⟩), []), (27, .int .i64 ((ss.getD k ost0).op), [(0, 0, 1)]), (28, .pointer (some ⟨b31, 1, none⟩), []), (29, .int .i64 ((ss.getD k ost0).a), [(0, 1, 1)]), (30, .pointer (some ⟨b31, 2, none⟩), []), (31, .int .i64 ((ss.getD k ost0).b), [(0, 2, 1)]), (32, .pointer (some ⟨b31, 3, none⟩), []), (33, .int .i64 ((ss.getD k ost0).n), [(0, 3, 1)]), (34, .agg #[.int .i64 ((ss.getD k ost0).op), .int .i64 ((ss.getD k ost0).a), .int .i64 ((ss.getD k ost0).b), .int .i64 ((ss.getD k ost0).n), .bool false, .int .u64 0, .string (⟨#[]⟩), .int .u64 0, .string (⟨#[]⟩)], [])] ?_
    refine lA 6 62 ([.int .i64 0, .int .i64 0, .int .i64 0, .int .i64 0, .bool false, .int .u64 0, .string (⟨#[]⟩), .int .u64 0, .string (⟨#[]⟩)]) hs (fun b35 w36 h37 hs => ?_)
    refine lP 0 0 ([.int .i64 ((ss.getD k ost0).op), .int .i64 ((ss.getD k ost0).a), .int .i64 ((ss.getD k ost0).b), .int .i64 ((ss.getD k ost0).n), .bool false, .int .u64 0, .string (⟨#[]⟩), .int .u64 0, .string (⟨#[]⟩)]) hs (fun w38 hs => ?_)
    refine lN ?_
    refine cTo [(1, .pointer (some ⟨b1, 0, none⟩)), (2, .pointer (some ⟨b4, 0, none⟩)), (3, .pointer (some ⟨b18, 0, none⟩)), (4, .int .i64 (k : Nat)), (5, .pointer (some ⟨b31, 0, none⟩)), (6, .pointer (some ⟨b35, 0, none⟩))] ?_
    refine CG.seq ?_
    refine cSL ?_
    refine lS hs [(35, .pointer (some ⟨b31, 4, none⟩), []), (36, .pointer (some ⟨b31, 6, none⟩), []), (37, .slice Dqx ((lim (odn (ss.getD k ost0))).length) dqx, [(1, 6, 1)]), (38, .int .i64 ((lim (odn (ss.getD k ost0))).length : Nat), [])] ?_
    cases hb39 : (decide ((0 : Int) < (((lim (odn (ss.getD k ost0))).length : Nat) : Int)))
    ·
      have phb39 := of_decide_eq_false hb39
      refine lB 39 hb39 ?_
      refine lN ?_
      refine cIF ?_
      refine CG.skipN ?_
      refine CG.listed ?_
      refine lS hs [(44, .pointer (some ⟨b18, 1, none⟩), []), (45, .slice saA ((al).length) sac, [(2, 1, 1)]), (46, .agg #[.int .i64 ((ss.getD k ost0).op), .int .i64 ((ss.getD k ost0).a), .int .i64 ((ss.getD k ost0).b), .int .i64 ((ss.getD k ost0).n), .bool false, .int .u64 0, .string (⟨#[]⟩), .int .u64 0, .string (⟨#[]⟩)], [(0, 0, 9)])] ?_
      refine lR 47 62 1 ([.int .i64 ((ss.getD k ost0).op), .int .i64 ((ss.getD k ost0).a), .int .i64 ((ss.getD k ost0).b), .int .i64 ((ss.getD k ost0).n), .bool false, .int .u64 0, .string (⟨#[]⟩), .int .u64 0, .string (⟨#[]⟩)]) hs (fun b40 w41 h42 hs => ?_)
      refine lY 48 0 62 9 sac saA al stc (⟨(ss.getD k ost0).op, (ss.getD k ost0).a, (ss.getD k ost0).b, (ss.getD k ost0).n, 0⟩ : Stp) 88 b40 (.agg #[.int .i64 0, .int .i64 0, .int .i64 0, .int .i64 0, .bool false, .int .u64 0, .string (⟨#[]⟩), .int .u64 0, .string (⟨#[]⟩)]) hs (hs.f.1) (fun A44 c45 w46 h47 hs => ?_)
      refine lS hs [(49, .pointer (some ⟨b18, 1, none⟩), [])] ?_
      refine lP 2 1 ([.slice A44 ((al ++ [(⟨(ss.getD k ost0).op, (ss.getD k ost0).a, (ss.getD k ost0).b, (ss.getD k ost0).n, 0⟩ : Stp)]).length) c45]) hs (fun w49 hs => ?_)
      refine lN ?_
      refine cTo [(1, .pointer (some ⟨b1, 0, none⟩)), (2, .pointer (some ⟨b4, 0, none⟩)), (3, .pointer (some ⟨b18, 0, none⟩)), (4, .int .i64 (k : Nat))] ?_
      refine CG.listed ?_
      refine lS hs [(19, .int .i64 (k : Nat), [])] ?_
      refine lIn 20 ((k : Nat) + 1) (k + 1) ?_
      refine lS hs [(4, .int .i64 (k + 1 : Nat), [])] ?_
      refine lD ?_
      intro a_ ka
      have q50 : (k + 1) ≤ ss.length := by omega
      have q51 : (al ++ [(⟨(ss.getD k ost0).op, (ss.getD k ost0).a, (ss.getD k ost0).b, (ss.getD k ost0).n, 0⟩ : Stp)]) = (ss.take (k + 1)).map OSt.stp := by rw [take_snoc' ost0 (by omega), List.map_append, hal]; first | rfl | (have hq0 : (ss.getD k ost0).q = 0 := hz0 (by omega) (by cases h_ : (ss.getD k ost0).has; rfl; rw [h_] at hop; have := hop.2 rfl; omega); show _ = _ ++ [_]; unfold OSt.stp; rw [hq0])
      replace hs := hs.tl.tl.tl
      replace hs := hs.drop 2 0
      refine ⟨_, _, ?_, ⟨k + 1, A44, c45, al ++ [(⟨(ss.getD k ost0).op, (ss.getD k ost0).a, (ss.getD k ost0).b, (ss.getD k ost0).n, 0⟩ : Stp)], h47, rfl, rfl, hs.to _ _, q50, q51⟩, ka.to [(1, .pointer (some ⟨b1, 0, none⟩)), (2, .pointer (some ⟨b4, 0, none⟩)), (3, .pointer (some ⟨b18, 0, none⟩)), (4, .int .i64 ((k + 1) : Nat))] (by kernel_rfl)⟩
      omega
    ·
      have phb39 := of_decide_eq_true hb39
      refine lB 39 hb39 ?_
      refine lN ?_
      refine cIT ?_
      refine CG.listed ?_
      refine lS hs [(40, .pointer (some ⟨b31, 4, none⟩), []), (41, .agg #[.bool (ineg (ss.getD k ost0).q.num), .slice Aqx ((lim (iabs (ss.getD k ost0).q.num)).length) cqx, .slice Dqx ((lim (odn (ss.getD k ost0))).length) dqx], [(1, 4, 3)])] ?_
      have hh : (ss.getD k ost0).has = true := odn_pos.1 (by omega)
      refine lC 42 hs (hIn (.agg #[.bool (ineg (ss.getD k ost0).q.num), .slice Aqx ((lim (iabs (ss.getD k ost0).q.num)).length) cqx, .slice Dqx ((lim (odn (ss.getD k ost0))).length) dqx]) (ss.getD k ost0).q (by have := (hS k (by omega)).q; omega) (by have := (hS k (by omega)).q; omega) _ _ hs.g ⟨Aqx, cqx, Dqx, dqx, by rw [odn_has hh], hcqx, by rw [← odn_has hh]; exact hdqx, (hs.f.2.1), by rw [← odn_has hh]; exact (hs.f.1)⟩) ?_
      rintro _ w52 h53 hs rfl
      refine lS hs [(43, .pointer (some ⟨b35, 4, none⟩), [])] ?_
      refine lP 0 4 (qc ((ss.getD k ost0).q)) hs (fun w54 hs => ?_)
      refine lN ?_
      refine CG.listed ?_
      refine lS hs [(44, .pointer (some ⟨b18, 1, none⟩), []), (45, .slice saA ((al).length) sac, [(2, 1, 1)]), (46, .agg #[.int .i64 ((ss.getD k ost0).op), .int .i64 ((ss.getD k ost0).a), .int .i64 ((ss.getD k ost0).b), .int .i64 ((ss.getD k ost0).n), .bool (ineg ((ss.getD k ost0).q).num), .int .u64 (lo (iabs ((ss.getD k ost0).q).num)), .string (hi (iabs ((ss.getD k ost0).q).num)), .int .u64 (lo (qd ((ss.getD k ost0).q))), .string (hi (qd ((ss.getD k ost0).q)))], [(0, 0, 9)])] ?_
      refine lR 47 62 1 ([.int .i64 ((ss.getD k ost0).op), .int .i64 ((ss.getD k ost0).a), .int .i64 ((ss.getD k ost0).b), .int .i64 ((ss.getD k ost0).n), .bool (ineg ((ss.getD k ost0).q).num), .int .u64 (lo (iabs ((ss.getD k ost0).q).num)), .string (hi (iabs ((ss.getD k ost0).q).num)), .int .u64 (lo (qd ((ss.getD k ost0).q))), .string (hi (qd ((ss.getD k ost0).q)))]) hs (fun b55 w56 h57 hs => ?_)
      refine lY 48 0 62 9 sac saA al stc (⟨(ss.getD k ost0).op, (ss.getD k ost0).a, (ss.getD k ost0).b, (ss.getD k ost0).n, (ss.getD k ost0).q⟩ : Stp) 88 b55 (.agg #[.int .i64 0, .int .i64 0, .int .i64 0, .int .i64 0, .bool false, .int .u64 0, .string (⟨#[]⟩), .int .u64 0, .string (⟨#[]⟩)]) hs (hs.f.1) (fun A59 c60 w61 h62 hs => ?_)
      refine lS hs [(49, .pointer (some ⟨b18, 1, none⟩), [])] ?_
      refine lP 2 1 ([.slice A59 ((al ++ [(⟨(ss.getD k ost0).op, (ss.getD k ost0).a, (ss.getD k ost0).b, (ss.getD k ost0).n, (ss.getD k ost0).q⟩ : Stp)]).length) c60]) hs (fun w64 hs => ?_)
      refine lN ?_
      refine cTo [(1, .pointer (some ⟨b1, 0, none⟩)), (2, .pointer (some ⟨b4, 0, none⟩)), (3, .pointer (some ⟨b18, 0, none⟩)), (4, .int .i64 (k : Nat))] ?_
      refine CG.listed ?_
      refine lS hs [(19, .int .i64 (k : Nat), [])] ?_
      refine lIn 20 ((k : Nat) + 1) (k + 1) ?_
      refine lS hs [(4, .int .i64 (k + 1 : Nat), [])] ?_
      refine lD ?_
      intro a_ ka
      have q65 : (k + 1) ≤ ss.length := by omega
      have q66 : (al ++ [(⟨(ss.getD k ost0).op, (ss.getD k ost0).a, (ss.getD k ost0).b, (ss.getD k ost0).n, (ss.getD k ost0).q⟩ : Stp)]) = (ss.take (k + 1)).map OSt.stp := by rw [take_snoc' ost0 (by omega), List.map_append, hal]; first | rfl | (have hq0 : (ss.getD k ost0).q = 0 := hz0 (by omega) (by cases h_ : (ss.getD k ost0).has; rfl; rw [h_] at hop; have := hop.2 rfl; omega); show _ = _ ++ [_]; unfold OSt.stp; rw [hq0])
      replace hs := hs.tl.tl.tl
      replace hs := hs.drop 2 0
      refine ⟨_, _, ?_, ⟨k + 1, A59, c60, al ++ [(⟨(ss.getD k ost0).op, (ss.getD k ost0).a, (ss.getD k ost0).b, (ss.getD k ost0).n, (ss.getD k ost0).q⟩ : Stp)], h62, rfl, rfl, hs.to _ _, q65, q66⟩, ka.to [(1, .pointer (some ⟨b1, 0, none⟩)), (2, .pointer (some ⟨b4, 0, none⟩)), (3, .pointer (some ⟨b18, 0, none⟩)), (4, .int .i64 ((k + 1) : Nat))] (by kernel_rfl)⟩
      omega

set_option maxRecDepth 100000 in
set_option maxHeartbeats 600000 in
theorem mInTape0 (inp : Int) (b_ : Nat) (w : World) (h : Hp) (g : G w h) :
    Calls Tryz.prog 6 #[.agg #[.int .i64 inp, .slice (some ⟨b_, 0, none⟩) 0 0, .slice none 0 0]] w (Ret w h fun v h1 => ∃ b, v = .agg #[.int .i64 inp, .slice none 0 0, .slice (some ⟨b, 0, none⟩) 0 0]) := by
  have hs := SS.start g
  refine go Tryz.func6 [(0, .agg #[.int .i64 inp, .slice (some ⟨b_, 0, none⟩) 0 0, .slice none 0 0])] rfl ?_
  refine cSL ?_
  refine lA 1 25 ([.int .i64 inp, .slice (some ⟨b_, 0, none⟩) 0 0, .slice none 0 0]) hs (fun b1 w2 h3 hs => ?_)
  refine lA 2 30 ([.int .i64 0, .slice none 0 0, .slice none 0 0]) hs (fun b4 w5 h6 hs => ?_)
  refine lN ?_
  refine CG.seq ?_
  have hsr := hs
  refine cR 8 [⟨7, 3, .cells (List.toArray [.int .i64 0, .slice none 0 0, .slice none 0 0]) 30 (0, 0)⟩] mixed hs (al_cons (alOk (by kernel_rfl) (fun _ _ => by kernel_rfl)) al_nil) ?_
  refine eV 0 7 (.pointer (some ⟨b1, 0, none⟩)) ?_
  refine eO 1 8 [(1, 0, 1)] (.int .i64 inp) hs ?_
  refine eV 3 10 (.pointer (some ⟨b1, 2, none⟩)) ?_
  refine eO 4 11 [(1, 2, 1)] (.slice none 0 0) hs ?_
  refine eR 2 9 3 0 ([]) hs (fun b7 w8 h9 hs => ?_)
  refine eVe 5 12 (.slice (some ⟨b7, 0, none⟩) 0 0) hs (fun w11 h12 hs => ?_)
  refine eV 6 13 (.agg #[.int .i64 inp, .slice none 0 0, .slice (some ⟨b7, 0, none⟩) 0 0]) ?_
  refine eD1p [] hsr hs 30 [.int .i64 0, .slice none 0 0, .slice none 0 0] (fun w13 h14 b15 hs => ?_)
  refine tP 8 0 0 ([.int .i64 inp, .slice none 0 0, .slice (some ⟨b7, 0, none⟩) 0 0]) hs (fun w16 hs => ?_)
  refine tN ?_
  refine CG.seq ?_
  refine cSL ?_
  refine lS hs [(4, .int .i64 0, [])] ?_
  refine lN ?_
  refine CG.block ?_
  refine cU ?_
  refine cN ?_
  refine CG.seq ?_
  refine cSL ?_
  refine lS hs [(14, .int .i64 0, []), (15, .pointer (some ⟨b1, 1, none⟩), []), (16, .slice (some ⟨b_, 0, none⟩) 0 0, [(2, 1, 1)]), (17, .int .i64 0, []), (18, .bool false, [])] ?_
  refine lN ?_
  refine cIF ?_
  refine CG.exit ?_
  show CG _ _ _ _ _ _ _ _
  refine cTo [(2, .pointer (some ⟨b4, 0, none⟩)), (3, .pointer (some ⟨b15, 0, none⟩))] ?_
  refine cSL ?_
  refine lS hs [(50, .agg #[.int .i64 inp, .slice none 0 0, .slice (some ⟨b7, 0, none⟩) 0 0], [(0, 0, 3)])] ?_
  refine lP 1 0 ([.int .i64 inp, .slice none 0 0, .slice (some ⟨b7, 0, none⟩) 0 0]) hs (fun w17 hs => ?_)
  refine lN ?_
  refine CG.ret ?_
  exact hs.ret [(1, 0, 3)] (.agg #[.int .i64 inp, .slice none 0 0, .slice (some ⟨b7, 0, none⟩) 0 0]) (⟨_, rfl⟩)


/-- SpoiltTape, of any tape that Tape makes. -/
theorem mSpoilt (inp : Int) (A : Option Addr) (c : Nat) (ts : List RSt) (ss : List OSt) (O : Option Addr) (d : Nat) (os : List Int) (way at_ by_ : Int) (hl : ss.length ≤ 20) (hol : os.length ≤ 2) (hS : OSms ss) (hE : ss = [] → A = none ∧ c = 0 ∧ O = none ∧ d = 0 ∧ os = []) (hN : ss ≠ [] → os ≠ []) (w : World) (h : Hp) (g : G w h) (hA : SlO 7 rsc rst0 h A ts) (hT : RSs h ts ss) (hO : SlO 1 i64c 0 h O os) :
    Calls Tryz.prog 4 #[.agg #[.int .i64 inp, .slice A ts.length c, .slice O os.length d], .int .i64 way, .int .i64 at_, .int .i64 by_] w (Ret w h fun v h1 => ∃ (inp2 : Int) (A c O d : _), ∃ ts2 : List RSt, ∃ ss2 : List OSt, ∃ os2 : List Int, v = .agg #[.int .i64 inp2, .slice A ts2.length c, .slice O os2.length d] ∧ SlO 7 rsc rst0 h1 A ts2 ∧ RSs h1 ts2 ss2 ∧ SlO 1 i64c 0 h1 O os2 ∧ OSms ss2 ∧ ss2.length ≤ 20 ∧ os2.length ≤ 3 ∧ (0 < ss2.length ∧ 0 < os2.length ∨ ss2 = [] ∧ os2 = [] ∧ O = none ∧ d = 0 ∧ c = 0 ∧ ∃ b, A = some ⟨b, 0, none⟩)) := by
  by_cases e : ss = []
  · obtain ⟨e1, e2, e3, e4, e5⟩ := hE e
    have e6 : ts = [] := List.eq_nil_of_length_eq_zero (by rw [hT.len, e]; rfl)
    subst e e1 e2 e3 e4 e5 e6
    refine (mSpoiltT0 inp way at_ by_ w h g).mono ?_
    rintro _ w' ⟨_, h', rfl, u, b, rfl⟩
    exact ⟨_, h', rfl, u, inp, some ⟨b, 0, none⟩, 0, none, 0, [], [], [], rfl, SlO.nil, RSs.nil, SlO.nil, fun i hi => by simp at hi, by simp, by simp, .inr ⟨rfl, rfl, rfl, rfl, rfl, b, rfl⟩⟩
  · have h0 : 0 < ss.length := List.length_pos_iff.2 e
    have h1 : 0 < os.length := List.length_pos_iff.2 (hN e)
    refine (mSpoiltT inp A c ts ss O d os way at_ by_ h0 hl h1 hol hS w h g hA hT hO).mono ?_
    rintro _ w' ⟨_, h', rfl, u, inp2, A2, c2, O2, d2, ts2, ss2, os2, rfl, k1, k2, k3, k4, k5, k6, k7, k8⟩
    exact ⟨_, h', rfl, u, inp2, A2, c2, O2, d2, ts2, ss2, os2, rfl, k1, k2, k3, k4, k5, k6, .inl ⟨k7, k8⟩⟩
theorem mIn (inp : Int) (A : Option Addr) (c : Nat) (ts : List RSt) (ss : List OSt) (O : Option Addr) (d : Nat) (os : List Int) (hl : ss.length ≤ 20) (hol : os.length ≤ 3) (hS : OSms ss) (hx : 0 < ss.length ∧ 0 < os.length ∨ ss = [] ∧ os = [] ∧ O = none ∧ d = 0 ∧ c = 0 ∧ ∃ b, A = some ⟨b, 0, none⟩) (w : World) (h : Hp) (g : G w h) (hA : SlO 7 rsc rst0 h A ts) (hT : RSs h ts ss) (hO : SlO 1 i64c 0 h O os) :
    Calls Tryz.prog 6 #[.agg #[.int .i64 inp, .slice A ts.length c, .slice O os.length d]] w (Ret w h fun v h1 => ∃ A c O d, v = .agg #[.int .i64 inp, .slice A (ss.map OSt.stp).length c, .slice O os.length d] ∧ SlO 9 stc stp0 h1 A (ss.map OSt.stp) ∧ SlO 1 i64c 0 h1 O os) := by
  rcases hx with ⟨h0, h1⟩ | ⟨e, e1, e2, e3, e4, b, e5⟩
  · exact mInTape inp A c ts ss O d os hl h1 hol hS w h g hA hT hO
  · have e6 : ts = [] := List.eq_nil_of_length_eq_zero (by rw [hT.len, e]; rfl)
    subst e e1 e2 e3 e4 e5 e6
    refine (mInTape0 inp b w h g).mono ?_
    rintro _ w' ⟨_, h', rfl, u, b2, rfl⟩
    exact ⟨_, h', rfl, u, none, 0, some ⟨b2, 0, none⟩, 0, rfl, SlO.nil, SlO.nil⟩

end Go.Proofs.YtmkonbkdjmfjhaaGreatDoor
