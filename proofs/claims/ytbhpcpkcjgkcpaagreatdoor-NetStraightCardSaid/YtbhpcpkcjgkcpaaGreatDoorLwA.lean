/- law30.NetStraight answers true. -/
import Derived.Test.YtbhpcpkcjgkcpaaGreatDoorStr
namespace Go.Proofs.YtbhpcpkcjgkcpaaGreatDoor
open Go.RowKit

set_option maxRecDepth 100000 in
set_option maxHeartbeats 600000 in
theorem lStraight (A0 A1 A2 : Option Addr) (c0 c1 c2 : Nat) (zl zv zw : List Int) (i_ m_ o_ : Int) (hl0 : zl.length ≤ 9223372036854775807) (hl1 : zv.length ≤ 9223372036854775807) (hl2 : zw.length ≤ 9223372036854775807) (hz0 : I64s zl) (hz1 : I64s zv) (hz2 : I64s zw) (w : World) (h : Hp) (g : G w h) (hA0 : SlO 1 i64c 0 h A0 zl) (hA1 : SlO 1 i64c 0 h A1 zv) (hA2 : SlO 1 i64c 0 h A2 zw) :
    Calls Tryz.prog 3 #[.slice A0 zl.length c0, .slice A1 zv.length c1, .slice A2 zw.length c2, .int .i64 i_, .int .i64 m_, .int .i64 o_] w (Ret w h fun v _ => v = .bool true) := by
  have hs := St.start g
  refine enter (n := 142) Tryz.func3 rfl rfl (Nat.le_of_ble_eq_true (by kernel_rfl)) [(0, .slice A0 zl.length c0), (1, .slice A1 zv.length c1), (2, .slice A2 zw.length c2), (3, .int .i64 i_), (4, .int .i64 m_), (5, .int .i64 o_)] rfl ?_
  refine CG.seq ?_
  refine CG.listed ?_
  refine LG.val 12 (.bool false) w (by kernel_rfl) (by kernel_rfl) (by kernel_rfl) ?_
  refine LG.next (by kernel_rfl) ?_
  refine CG.seq ?_
  refine CG.listed ?_
  refine LG.val 28 (.slice A0 zl.length c0) w (by kernel_rfl) (by kernel_rfl) (by kernel_rfl) ?_
  refine LG.val 29 (.int .i64 i_) w (by kernel_rfl) (by kernel_rfl) (by kernel_rfl) ?_
  refine LG.val 30 (.int .i64 m_) w (by kernel_rfl) (by kernel_rfl) (by kernel_rfl) ?_
  refine LG.val 31 (.int .i64 o_) w (by kernel_rfl) (by kernel_rfl) (by kernel_rfl) ?_
  refine LG.call 32 10 #[.slice A0 zl.length c0, .int .i64 i_, .int .i64 m_, .int .i64 o_, .int .i64 0] (by kernel_rfl) (by kernel_rfl) (by kernel_rfl) ?_
  refine (mNet A0 c0 zl hl0 hz0 i_ m_ o_ 0 (by decide) w h hs.g hA0).mono ?_
  rintro _ w1 ⟨vu3, h2, rfl, u3, ⟨An, cn, us, ls, rfl, hcn, hAn, hNr, hln, hMk0⟩⟩
  refine ⟨_, rfl, ?_⟩
  replace hs := hs.step u3
  replace hA0 := hA0.gw u3.gr.gw
  replace hA1 := hA1.gw u3.gr.gw
  replace hA2 := hA2.gw u3.gr.gw
  have hMk : NetMk ls (netSizes i_ m_ o_) 0 := ⟨hln, hMk0⟩
  have hl3 : ls.length ≤ 2 := by rcases sizes_len i_ m_ o_ with e | e <;> omega
  refine LG.call 33 9 #[.agg #[.slice An us.length cn]] (by kernel_rfl) (by kernel_rfl) (by kernel_rfl) ?_
  refine (mInNet An cn us ls (by omega) hMk.fit w1 h2 hs.g hAn hNr).mono ?_
  rintro _ w4 ⟨vu6, h5, rfl, u6, ⟨Ap, cp, up, rfl, hcp, hAp, hN⟩⟩
  refine ⟨_, rfl, ?_⟩
  replace hs := hs.step u6
  replace hA0 := hA0.gw u6.gr.gw
  replace hA1 := hA1.gw u6.gr.gw
  replace hA2 := hA2.gw u6.gr.gw
  replace hAn := hAn.gw u6.gr.gw
  replace hNr := hNr.gw u6.gr.gw
  refine LG.var 13 25 ([.slice none 0 0]) hs (by kernel_rfl) (by kernel_rfl) (by kernel_rfl) (fun b7 w8 h9 nb_ u10 hs => ?_)
  replace hA0 := hA0.gw u10.gr.gw
  replace hA1 := hA1.gw u10.gr.gw
  replace hA2 := hA2.gw u10.gr.gw
  replace hAn := hAn.gw u10.gr.gw
  replace hNr := hNr.gw u10.gr.gw
  replace hAp := hAp.gw u10.gr.gw
  replace hN := hN.gw u10.gr.gw
  refine LG.put 0 0 ([.slice Ap up.length cp]) hs g (by kernel_rfl) (by kernel_rfl) (by kernel_rfl) (by kernel_rfl) (fun w11 pu hs => ?_)
  refine LG.next (by kernel_rfl) ?_
  refine CG.to [(1, .slice A1 zv.length c1), (2, .slice A2 zw.length c2), (3, .int .i64 i_), (5, .int .i64 o_), (12, .bool false), (13, .pointer (some ⟨b7, 0, none⟩))] (by kernel_rfl) ?_
  refine CG.seq ?_
  refine CG.listed ?_
  refine LG.val 34 (.int .i64 i_) w11 (by kernel_rfl) (by kernel_rfl) (by kernel_rfl) ?_
  refine LG.call 35 11 #[.int .i64 i_, .int .i64 3] (by kernel_rfl) (by kernel_rfl) (by kernel_rfl) ?_
  refine (hPick (i_) 3 (by omega) (by omega) w11 h9 hs.g).mono ?_
  rintro _ w12 ⟨vu14, h13, rfl, u14, rfl⟩
  refine ⟨_, rfl, ?_⟩
  replace hs := hs.step u14
  replace hA0 := hA0.gw u14.gr.gw
  replace hA1 := hA1.gw u14.gr.gw
  replace hA2 := hA2.gw u14.gr.gw
  replace hAn := hAn.gw u14.gr.gw
  replace hNr := hNr.gw u14.gr.gw
  replace hAp := hAp.gw u14.gr.gw
  replace hN := hN.gw u14.gr.gw
  have lp_2 := pick_lt (i_) 3 (by omega)
  refine LG.val 36 (.int .i64 ((pick i_ 3) + 1 : Nat)) w12 (by kernel_rfl) (by kernel_rfl) (rint (ri64 (n := (pick i_ 3 : Nat) + 1) (by kernel_rfl) (by omega) (by omega)) (by omega)) ?_
  refine LG.val 14 (.int .i64 ((pick i_ 3) + 1 : Nat)) w12 (by kernel_rfl) (by kernel_rfl) (by kernel_rfl) ?_
  refine LG.next (by kernel_rfl) ?_
  refine CG.seq ?_
  refine CG.listed ?_
  refine LG.val 37 (.slice A1 zv.length c1) w12 (by kernel_rfl) (by kernel_rfl) (by kernel_rfl) ?_
  refine LG.val 38 (.int .i64 ((pick i_ 3) + 1 : Nat)) w12 (by kernel_rfl) (by kernel_rfl) (by kernel_rfl) ?_
  refine LG.call 39 13 #[.slice A1 zv.length c1, .int .i64 ((pick i_ 3) + 1 : Nat)] (by kernel_rfl) (by kernel_rfl) (by kernel_rfl) ?_
  refine (hRow A1 c1 zv (pick i_ 3 + 1) (by omega) hl1 hz1 w12 h13 hs.g hA1).mono ?_
  rintro _ w15 ⟨vu17, h16, rfl, u17, ⟨Arv, crv, trv, rfl, hcrv, hArv, hTrv⟩⟩
  refine ⟨_, rfl, ?_⟩
  replace hs := hs.step u17
  replace hA0 := hA0.gw u17.gr.gw
  replace hA1 := hA1.gw u17.gr.gw
  replace hA2 := hA2.gw u17.gr.gw
  replace hAn := hAn.gw u17.gr.gw
  replace hNr := hNr.gw u17.gr.gw
  replace hAp := hAp.gw u17.gr.gw
  replace hN := hN.gw u17.gr.gw
  refine LG.call 40 12 #[.slice Arv trv.length crv] (by kernel_rfl) (by kernel_rfl) (by kernel_rfl) ?_
  refine (hInRow Arv crv trv (rowq zv (pick i_ 3 + 1)) (by rw [rowq_len]; omega) (fun j _ => ((rowq_bd _ _ j).sm (by omega) (by omega) (by omega)).fit) hcrv w15 h16 hs.g hArv hTrv).mono ?_
  rintro _ w18 ⟨vu20, h19, rfl, u20, ⟨Xv, cxv, rfl, hcxv, hXv⟩⟩
  refine ⟨_, rfl, ?_⟩
  replace hs := hs.step u20
  replace hA0 := hA0.gw u20.gr.gw
  replace hA1 := hA1.gw u20.gr.gw
  replace hA2 := hA2.gw u20.gr.gw
  replace hAn := hAn.gw u20.gr.gw
  replace hNr := hNr.gw u20.gr.gw
  replace hAp := hAp.gw u20.gr.gw
  replace hN := hN.gw u20.gr.gw
  replace hArv := hArv.gw u20.gr.gw
  replace hTrv := hTrv.gw u20.gr.gw
  have hlv : (rowq zv (pick i_ 3 + 1)).length = (netSizes i_ m_ o_).getD 0 0 := (rowq_len _ _).trans (sizes_first i_ m_ o_).symm
  have hnv : (rowq zv (pick i_ 3 + 1)).length = pick i_ 3 + 1 := rowq_len _ _
  have hbv : ∀ j, Bd 960 48 ((rowq zv (pick i_ 3 + 1)).getD j 0) := fun j => (rowq_bd _ _ j).scale 2 (by omega)
  refine LG.val 41 (.slice A2 zw.length c2) w18 (by kernel_rfl) (by kernel_rfl) (by kernel_rfl) ?_
  refine LG.val 42 (.int .i64 ((pick i_ 3) + 1 : Nat)) w18 (by kernel_rfl) (by kernel_rfl) (by kernel_rfl) ?_
  refine LG.call 43 13 #[.slice A2 zw.length c2, .int .i64 ((pick i_ 3) + 1 : Nat)] (by kernel_rfl) (by kernel_rfl) (by kernel_rfl) ?_
  refine (hRow A2 c2 zw (pick i_ 3 + 1) (by omega) hl2 hz2 w18 h19 hs.g hA2).mono ?_
  rintro _ w21 ⟨vu23, h22, rfl, u23, ⟨Arw, crw, trw, rfl, hcrw, hArw, hTrw⟩⟩
  refine ⟨_, rfl, ?_⟩
  replace hs := hs.step u23
  replace hA0 := hA0.gw u23.gr.gw
  replace hA1 := hA1.gw u23.gr.gw
  replace hA2 := hA2.gw u23.gr.gw
  replace hAn := hAn.gw u23.gr.gw
  replace hNr := hNr.gw u23.gr.gw
  replace hAp := hAp.gw u23.gr.gw
  replace hN := hN.gw u23.gr.gw
  replace hArv := hArv.gw u23.gr.gw
  replace hTrv := hTrv.gw u23.gr.gw
  replace hXv := hXv.gw u23.gr.gw
  refine LG.call 44 12 #[.slice Arw trw.length crw] (by kernel_rfl) (by kernel_rfl) (by kernel_rfl) ?_
  refine (hInRow Arw crw trw (rowq zw (pick i_ 3 + 1)) (by rw [rowq_len]; omega) (fun j _ => ((rowq_bd _ _ j).sm (by omega) (by omega) (by omega)).fit) hcrw w21 h22 hs.g hArw hTrw).mono ?_
  rintro _ w24 ⟨vu26, h25, rfl, u26, ⟨Xw, cxw, rfl, hcxw, hXw⟩⟩
  refine ⟨_, rfl, ?_⟩
  replace hs := hs.step u26
  replace hA0 := hA0.gw u26.gr.gw
  replace hA1 := hA1.gw u26.gr.gw
  replace hA2 := hA2.gw u26.gr.gw
  replace hAn := hAn.gw u26.gr.gw
  replace hNr := hNr.gw u26.gr.gw
  replace hAp := hAp.gw u26.gr.gw
  replace hN := hN.gw u26.gr.gw
  replace hArv := hArv.gw u26.gr.gw
  replace hTrv := hTrv.gw u26.gr.gw
  replace hXv := hXv.gw u26.gr.gw
  replace hArw := hArw.gw u26.gr.gw
  replace hTrw := hTrw.gw u26.gr.gw
  have hlw : (rowq zw (pick i_ 3 + 1)).length = (netSizes i_ m_ o_).getD 0 0 := (rowq_len _ _).trans (sizes_first i_ m_ o_).symm
  have hnw : (rowq zw (pick i_ 3 + 1)).length = pick i_ 3 + 1 := rowq_len _ _
  have hbw : ∀ j, Bd 960 48 ((rowq zw (pick i_ 3 + 1)).getD j 0) := fun j => (rowq_bd _ _ j).scale 2 (by omega)
  refine LG.val 15 (.slice Xv ((rowq zv (pick i_ 3 + 1)).length) cxv) w24 (by kernel_rfl) (by kernel_rfl) (by kernel_rfl) ?_
  refine LG.val 16 (.slice Xw ((rowq zw (pick i_ 3 + 1)).length) cxw) w24 (by kernel_rfl) (by kernel_rfl) (by kernel_rfl) ?_
  refine LG.next (by kernel_rfl) ?_
  refine CG.to [(5, .int .i64 o_), (12, .bool false), (13, .pointer (some ⟨b7, 0, none⟩)), (14, .int .i64 ((pick i_ 3) + 1 : Nat)), (15, .slice Xv ((rowq zv (pick i_ 3 + 1)).length) cxv), (16, .slice Xw ((rowq zw (pick i_ 3 + 1)).length) cxw)] (by kernel_rfl) ?_
  refine CG.seq ?_
  refine CG.listed ?_
  refine LG.own 46 [(0, 0, 1)] (.agg #[.slice Ap up.length cp]) hs (by kernel_rfl) (by kernel_rfl) (by kernel_rfl) (by kernel_rfl) ?_
  refine LG.val 47 (.slice Xv ((rowq zv (pick i_ 3 + 1)).length) cxv) w24 (by kernel_rfl) (by kernel_rfl) (by kernel_rfl) ?_
  refine LG.call 48 14 #[.agg #[.slice Ap up.length cp], .slice Xv ((rowq zv (pick i_ 3 + 1)).length) cxv] (by kernel_rfl) (by kernel_rfl) (by kernel_rfl) ?_
  refine (nAnswer Ap cp up ls (fun k => (netSizes i_ m_ o_).getD k 0) hMk.ok Xv cxv (rowq zv (pick i_ 3 + 1)) hlv hcxv (fun k hk => (hMk.bd hlv hbv k (Nat.le_of_lt hk)).2 hk) w24 h25 hs.g hAp hN hXv).mono ?_
  rintro _ w27 ⟨vu29, h28, rfl, u29, ⟨Yx, cyx, rfl, hcyx, hYx⟩⟩
  refine ⟨_, rfl, ?_⟩
  replace hs := hs.step u29
  replace hA0 := hA0.gw u29.gr.gw
  replace hA1 := hA1.gw u29.gr.gw
  replace hA2 := hA2.gw u29.gr.gw
  replace hAn := hAn.gw u29.gr.gw
  replace hNr := hNr.gw u29.gr.gw
  replace hAp := hAp.gw u29.gr.gw
  replace hN := hN.gw u29.gr.gw
  replace hArv := hArv.gw u29.gr.gw
  replace hTrv := hTrv.gw u29.gr.gw
  replace hXv := hXv.gw u29.gr.gw
  replace hArw := hArw.gw u29.gr.gw
  replace hTrw := hTrw.gw u29.gr.gw
  replace hXw := hXw.gw u29.gr.gw
  have hlox : (outq ls (rowq zv (pick i_ 3 + 1)) ls.length).length = pick o_ 3 + 1 := (outq_len hMk.ok hlv _ (Nat.le_refl _)).trans (sizes_last i_ m_ o_ _ hMk.len)
  refine LG.val 45 (.tuple #[.slice Yx ((outq ls (rowq zv (pick i_ 3 + 1)) ls.length).length) cyx, .int .i64 0]) w27 (by kernel_rfl) (by kernel_rfl) (by kernel_rfl) ?_
  refine LG.val 49 (.slice Yx ((outq ls (rowq zv (pick i_ 3 + 1)) ls.length).length) cyx) w27 (by kernel_rfl) (by kernel_rfl) (by kernel_rfl) ?_
  refine LG.val 50 (.int .i64 0) w27 (by kernel_rfl) (by kernel_rfl) (by kernel_rfl) ?_
  refine LG.val 17 (.slice Yx ((outq ls (rowq zv (pick i_ 3 + 1)) ls.length).length) cyx) w27 (by kernel_rfl) (by kernel_rfl) (by kernel_rfl) ?_
  refine LG.val 18 (.int .i64 0) w27 (by kernel_rfl) (by kernel_rfl) (by kernel_rfl) ?_
  refine LG.next (by kernel_rfl) ?_
  refine CG.seq ?_
  refine CG.listed ?_
  refine LG.own 52 [(0, 0, 1)] (.agg #[.slice Ap up.length cp]) hs (by kernel_rfl) (by kernel_rfl) (by kernel_rfl) (by kernel_rfl) ?_
  refine LG.val 53 (.slice Xw ((rowq zw (pick i_ 3 + 1)).length) cxw) w27 (by kernel_rfl) (by kernel_rfl) (by kernel_rfl) ?_
  refine LG.call 54 14 #[.agg #[.slice Ap up.length cp], .slice Xw ((rowq zw (pick i_ 3 + 1)).length) cxw] (by kernel_rfl) (by kernel_rfl) (by kernel_rfl) ?_
  refine (nAnswer Ap cp up ls (fun k => (netSizes i_ m_ o_).getD k 0) hMk.ok Xw cxw (rowq zw (pick i_ 3 + 1)) hlw hcxw (fun k hk => (hMk.bd hlw hbw k (Nat.le_of_lt hk)).2 hk) w27 h28 hs.g hAp hN hXw).mono ?_
  rintro _ w30 ⟨vu32, h31, rfl, u32, ⟨Yy, cyy, rfl, hcyy, hYy⟩⟩
  refine ⟨_, rfl, ?_⟩
  replace hs := hs.step u32
  replace hA0 := hA0.gw u32.gr.gw
  replace hA1 := hA1.gw u32.gr.gw
  replace hA2 := hA2.gw u32.gr.gw
  replace hAn := hAn.gw u32.gr.gw
  replace hNr := hNr.gw u32.gr.gw
  replace hAp := hAp.gw u32.gr.gw
  replace hN := hN.gw u32.gr.gw
  replace hArv := hArv.gw u32.gr.gw
  replace hTrv := hTrv.gw u32.gr.gw
  replace hXv := hXv.gw u32.gr.gw
  replace hArw := hArw.gw u32.gr.gw
  replace hTrw := hTrw.gw u32.gr.gw
  replace hXw := hXw.gw u32.gr.gw
  replace hYx := hYx.gw u32.gr.gw
  have hloy : (outq ls (rowq zw (pick i_ 3 + 1)) ls.length).length = pick o_ 3 + 1 := (outq_len hMk.ok hlw _ (Nat.le_refl _)).trans (sizes_last i_ m_ o_ _ hMk.len)
  refine LG.val 51 (.tuple #[.slice Yy ((outq ls (rowq zw (pick i_ 3 + 1)) ls.length).length) cyy, .int .i64 0]) w30 (by kernel_rfl) (by kernel_rfl) (by kernel_rfl) ?_
  refine LG.val 55 (.slice Yy ((outq ls (rowq zw (pick i_ 3 + 1)) ls.length).length) cyy) w30 (by kernel_rfl) (by kernel_rfl) (by kernel_rfl) ?_
  refine LG.val 56 (.int .i64 0) w30 (by kernel_rfl) (by kernel_rfl) (by kernel_rfl) ?_
  refine LG.val 19 (.slice Yy ((outq ls (rowq zw (pick i_ 3 + 1)) ls.length).length) cyy) w30 (by kernel_rfl) (by kernel_rfl) (by kernel_rfl) ?_
  refine LG.val 20 (.int .i64 0) w30 (by kernel_rfl) (by kernel_rfl) (by kernel_rfl) ?_
  refine LG.next (by kernel_rfl) ?_
  refine CG.to [(5, .int .i64 o_), (12, .bool false), (13, .pointer (some ⟨b7, 0, none⟩)), (14, .int .i64 ((pick i_ 3) + 1 : Nat)), (15, .slice Xv ((rowq zv (pick i_ 3 + 1)).length) cxv), (16, .slice Xw ((rowq zw (pick i_ 3 + 1)).length) cxw), (17, .slice Yx ((outq ls (rowq zv (pick i_ 3 + 1)) ls.length).length) cyx), (18, .int .i64 0), (19, .slice Yy ((outq ls (rowq zw (pick i_ 3 + 1)) ls.length).length) cyy), (20, .int .i64 0)] (by kernel_rfl) ?_
  refine CG.seq ?_
  refine CG.listed ?_
  refine LG.call 58 15 #[.int .i64 1, .int .i64 2] (by kernel_rfl) (by kernel_rfl) (by kernel_rfl) ?_
  refine (Ret.of_ext hs.g (cHalf w30)).mono ?_
  rintro _ w33 ⟨vu35, h34, rfl, u35, rfl⟩
  refine ⟨_, rfl, ?_⟩
  replace hs := hs.step u35
  replace hA0 := hA0.gw u35.gr.gw
  replace hA1 := hA1.gw u35.gr.gw
  replace hA2 := hA2.gw u35.gr.gw
  replace hAn := hAn.gw u35.gr.gw
  replace hNr := hNr.gw u35.gr.gw
  replace hAp := hAp.gw u35.gr.gw
  replace hN := hN.gw u35.gr.gw
  replace hArv := hArv.gw u35.gr.gw
  replace hTrv := hTrv.gw u35.gr.gw
  replace hXv := hXv.gw u35.gr.gw
  replace hArw := hArw.gw u35.gr.gw
  replace hTrw := hTrw.gw u35.gr.gw
  replace hXw := hXw.gw u35.gr.gw
  replace hYx := hYx.gw u35.gr.gw
  replace hYy := hYy.gw u35.gr.gw
  refine LG.val 57 (.tuple #[qv (mkRat 1 2), .bool true]) w33 (by kernel_rfl) (by kernel_rfl) (by kernel_rfl) ?_
  refine LG.val 59 (qv (mkRat 1 2)) w33 (by kernel_rfl) (by kernel_rfl) (by kernel_rfl) ?_
  refine LG.val 60 (.bool true) w33 (by kernel_rfl) (by kernel_rfl) (by kernel_rfl) ?_
  refine LG.var 21 45 ([.bool false, .int .u64 0, .string (⟨#[]⟩), .int .u64 0, .string (⟨#[]⟩)]) hs (by kernel_rfl) (by kernel_rfl) (by kernel_rfl) (fun b36 w37 h38 nb_ u39 hs => ?_)
  replace hA0 := hA0.gw u39.gr.gw
  replace hA1 := hA1.gw u39.gr.gw
  replace hA2 := hA2.gw u39.gr.gw
  replace hAn := hAn.gw u39.gr.gw
  replace hNr := hNr.gw u39.gr.gw
  replace hAp := hAp.gw u39.gr.gw
  replace hN := hN.gw u39.gr.gw
  replace hArv := hArv.gw u39.gr.gw
  replace hTrv := hTrv.gw u39.gr.gw
  replace hXv := hXv.gw u39.gr.gw
  replace hArw := hArw.gw u39.gr.gw
  replace hTrw := hTrw.gw u39.gr.gw
  replace hXw := hXw.gw u39.gr.gw
  replace hYx := hYx.gw u39.gr.gw
  replace hYy := hYy.gw u39.gr.gw
  refine LG.put 0 0 (qc (mkRat 1 2)) hs g (by kernel_rfl) (by kernel_rfl) (by kernel_rfl) (by kernel_rfl) (fun w40 pu hs => ?_)
  refine LG.val 22 (.bool true) w40 (by kernel_rfl) (by kernel_rfl) (by kernel_rfl) ?_
  refine LG.next (by kernel_rfl) ?_
  refine CG.to [(5, .int .i64 o_), (12, .bool false), (13, .pointer (some ⟨b7, 0, none⟩)), (14, .int .i64 ((pick i_ 3) + 1 : Nat)), (15, .slice Xv ((rowq zv (pick i_ 3 + 1)).length) cxv), (16, .slice Xw ((rowq zw (pick i_ 3 + 1)).length) cxw), (17, .slice Yx ((outq ls (rowq zv (pick i_ 3 + 1)) ls.length).length) cyx), (18, .int .i64 0), (19, .slice Yy ((outq ls (rowq zw (pick i_ 3 + 1)) ls.length).length) cyy), (20, .int .i64 0), (21, .pointer (some ⟨b36, 0, none⟩))] (by kernel_rfl) ?_
  refine CG.seq ?_
  refine CG.listed ?_
  refine LG.val 23 (.slice none 0 0) w40 (by kernel_rfl) (by kernel_rfl) (by kernel_rfl) ?_
  refine LG.next (by kernel_rfl) ?_
  refine CG.seq ?_
  refine CG.seq ?_
  refine CG.listed ?_
  refine LG.val 24 (.int .i64 0) w40 (by kernel_rfl) (by kernel_rfl) (by kernel_rfl) ?_
  refine LG.next (by kernel_rfl) ?_
  refine CG.block ?_
  refine CG.to [(5, .int .i64 o_), (12, .bool false), (13, .pointer (some ⟨b7, 0, none⟩)), (14, .int .i64 ((pick i_ 3) + 1 : Nat)), (15, .slice Xv ((rowq zv (pick i_ 3 + 1)).length) cxv), (16, .slice Xw ((rowq zw (pick i_ 3 + 1)).length) cxw), (17, .slice Yx ((outq ls (rowq zv (pick i_ 3 + 1)) ls.length).length) cyx), (18, .int .i64 0), (19, .slice Yy ((outq ls (rowq zw (pick i_ 3 + 1)) ls.length).length) cyy), (20, .int .i64 0), (21, .pointer (some ⟨b36, 0, none⟩)), (24, .int .i64 0), (23, .slice none 0 0)] (by kernel_rfl) ?_
  refine CG.loop (fun μ_ Γ w_ => ∃ (c : Nat) (s : Value) (h_ : Hp), μ_ = pick i_ 3 + 1 - c ∧ Γ = [(5, .int .i64 o_), (12, .bool false), (13, .pointer (some ⟨b7, 0, none⟩)), (14, .int .i64 ((pick i_ 3) + 1 : Nat)), (15, .slice Xv ((rowq zv (pick i_ 3 + 1)).length) cxv), (16, .slice Xw ((rowq zw (pick i_ 3 + 1)).length) cxw), (17, .slice Yx ((outq ls (rowq zv (pick i_ 3 + 1)) ls.length).length) cyx), (18, .int .i64 0), (19, .slice Yy ((outq ls (rowq zw (pick i_ 3 + 1)) ls.length).length) cyy), (20, .int .i64 0), (21, .pointer (some ⟨b36, 0, none⟩)), (24, .int .i64 (c : Nat)), (23, s)] ∧ St w h w_ h_ [⟨b36, 45, qc (mkRat 1 2)⟩, ⟨b7, 25, [.slice Ap up.length cp]⟩] ∧ (SlO 1 i64c 0 h_ A0 zl) ∧ (SlO 1 i64c 0 h_ A1 zv) ∧ (SlO 1 i64c 0 h_ A2 zw) ∧ (SlO 3 lvc lvd h_ An us) ∧ (RNetL h_ us ls) ∧ (SlO 3 lvc lvd h_ Ap up) ∧ (NetL h_ up ls) ∧ (SlO 3 rqc rqd h_ Arv trv) ∧ (RTs h_ trv (rowq zv (pick i_ 3 + 1))) ∧ (SlO 5 qc 0 h_ Xv (rowq zv (pick i_ 3 + 1))) ∧ (SlO 3 rqc rqd h_ Arw trw) ∧ (RTs h_ trw (rowq zw (pick i_ 3 + 1))) ∧ (SlO 5 qc 0 h_ Xw (rowq zw (pick i_ 3 + 1))) ∧ (SlO 5 qc 0 h_ Yx (outq ls (rowq zv (pick i_ 3 + 1)) ls.length)) ∧ (SlO 5 qc 0 h_ Yy (outq ls (rowq zw (pick i_ 3 + 1)) ls.length)) ∧ (c ≤ pick i_ 3 + 1) ∧ (Gro h [b36, b7] w_ h_ 45 5 s ((mids (rowq zv (pick i_ 3 + 1)) (rowq zw (pick i_ 3 + 1)) c).length) ((mids (rowq zv (pick i_ 3 + 1)) (rowq zw (pick i_ 3 + 1)) c).flatMap qc))) _ ⟨0, (.slice none 0 0), h38, rfl, rfl, hs.to _ (by kernel_rfl), hA0, hA1, hA2, hAn, hNr, hAp, hN, hArv, hTrv, hXv, hArw, hTrw, hXw, hYx, hYy, Nat.zero_le _, Gro.nil⟩ ?_
  rintro _ _ w41 ⟨c, s, h42, hm43, rfl, hs, hA0, hA1, hA2, hAn, hNr, hAp, hN, hArv, hTrv, hXv, hArw, hTrw, hXw, hYx, hYy, hk, hg⟩
  have hml := mids_len (rowq zv (pick i_ 3 + 1)) (rowq zw (pick i_ 3 + 1)) c
  -- round
  refine CG.seq ?_
  refine CG.seq ?_
  refine CG.listed ?_
  refine LG.val 61 (.int .i64 (c : Nat)) w41 (by kernel_rfl) (by kernel_rfl) (by kernel_rfl) ?_
  refine LG.val 62 (.int .i64 ((pick i_ 3) + 1 : Nat)) w41 (by kernel_rfl) (by kernel_rfl) (by kernel_rfl) ?_
  cases hb44 : (decide (((c : Nat) : Int) < (((pick i_ 3) + 1 : Nat) : Int)))
  ·
    have phb44 := of_decide_eq_false hb44
    refine LG.val 63 (.bool false) w41 (by kernel_rfl) (by kernel_rfl) (rb (by kernel_rfl) hb44) ?_
    refine LG.next (by kernel_rfl) ?_
    refine CG.to [(5, .int .i64 o_), (12, .bool false), (13, .pointer (some ⟨b7, 0, none⟩)), (14, .int .i64 ((pick i_ 3) + 1 : Nat)), (15, .slice Xv ((rowq zv (pick i_ 3 + 1)).length) cxv), (16, .slice Xw ((rowq zw (pick i_ 3 + 1)).length) cxw), (17, .slice Yx ((outq ls (rowq zv (pick i_ 3 + 1)) ls.length).length) cyx), (18, .int .i64 0), (19, .slice Yy ((outq ls (rowq zw (pick i_ 3 + 1)) ls.length).length) cyy), (20, .int .i64 0), (21, .pointer (some ⟨b36, 0, none⟩)), (24, .int .i64 (c : Nat)), (23, s), (63, .bool false)] (by kernel_rfl) ?_
    refine CG.condF (by kernel_rfl) (by kernel_rfl) ?_
    refine CG.exit ?_
    show CG _ _ _ _ _ _ _ _
    refine CG.seq ?_
    refine CG.listed ?_
    refine LG.own 81 [(1, 0, 1)] (.agg #[.slice Ap up.length cp]) hs (by kernel_rfl) (by kernel_rfl) (by kernel_rfl) (by kernel_rfl) ?_
    have hce : c = pick i_ 3 + 1 := by omega
    subst hce
    obtain ⟨a45, n46, c47, rfl⟩ := hg.sl
    obtain ⟨hq48, hs, pw49, po50, hm51, hc52, hz53, sg54⟩ := Gro.pub3 hs hg
    subst hm51
    replace hA0 := hA0.gw pw49
    replace hA1 := hA1.gw pw49
    replace hA2 := hA2.gw pw49
    replace hAn := hAn.gw pw49
    replace hNr := hNr.gw pw49
    replace hAp := hAp.gw pw49
    replace hN := hN.gw pw49
    replace hArv := hArv.gw pw49
    replace hTrv := hTrv.gw pw49
    replace hXv := hXv.gw pw49
    replace hArw := hArw.gw pw49
    replace hTrw := hTrw.gw pw49
    replace hXw := hXw.gw pw49
    replace hYx := hYx.gw pw49
    replace hYy := hYy.gw pw49
    have hA55 : SlO 5 qc 0 hq48 a45 (mids (rowq zv (pick i_ 3 + 1)) (rowq zw (pick i_ 3 + 1)) (pick i_ 3 + 1)) := SlO.of_pub (fun _ => rfl) hz53 sg54
    have hlz : (mids (rowq zv (pick i_ 3 + 1)) (rowq zw (pick i_ 3 + 1)) (pick i_ 3 + 1)).length = (netSizes i_ m_ o_).getD 0 0 := (mids_len _ _ _).trans (sizes_first i_ m_ o_).symm
    have hbz : ∀ j, Bd 960 48 ((mids (rowq zv (pick i_ 3 + 1)) (rowq zw (pick i_ 3 + 1)) (pick i_ 3 + 1)).getD j 0) := mids_bd (fun j => rowq_bd _ _ j) (fun j => rowq_bd _ _ j) _
    have hmid := hMk.mid hlv hlw hlz (mids_mid _ _ _ hnv hnw) ls.length (Nat.le_refl _)
    have hsz := hMk.sums hlz hbz hlz hbz
    refine LG.val 82 (.slice a45 ((mids (rowq zv (pick i_ 3 + 1)) (rowq zw (pick i_ 3 + 1)) (pick i_ 3 + 1)).length) c47) w41 (by kernel_rfl) (by kernel_rfl) (by kernel_rfl) ?_
    refine LG.call 83 14 #[.agg #[.slice Ap up.length cp], .slice a45 ((mids (rowq zv (pick i_ 3 + 1)) (rowq zw (pick i_ 3 + 1)) (pick i_ 3 + 1)).length) c47] (by kernel_rfl) (by kernel_rfl) (by kernel_rfl) ?_
    refine (nAnswer Ap cp up ls (fun k => (netSizes i_ m_ o_).getD k 0) hMk.ok a45 c47 (mids (rowq zv (pick i_ 3 + 1)) (rowq zw (pick i_ 3 + 1)) (pick i_ 3 + 1)) hlz hc52 (fun k hk => (hMk.bd hlz hbz k (Nat.le_of_lt hk)).2 hk) w41 hq48 hs.g hAp hN hA55).mono ?_
    rintro _ w56 ⟨vu58, h57, rfl, u58, ⟨Yz, cyz, rfl, hcyz, hYz⟩⟩
    refine ⟨_, rfl, ?_⟩
    replace hs := hs.step u58
    replace hA0 := hA0.gw u58.gr.gw
    replace hA1 := hA1.gw u58.gr.gw
    replace hA2 := hA2.gw u58.gr.gw
    replace hAn := hAn.gw u58.gr.gw
    replace hNr := hNr.gw u58.gr.gw
    replace hAp := hAp.gw u58.gr.gw
    replace hN := hN.gw u58.gr.gw
    replace hArv := hArv.gw u58.gr.gw
    replace hTrv := hTrv.gw u58.gr.gw
    replace hXv := hXv.gw u58.gr.gw
    replace hArw := hArw.gw u58.gr.gw
    replace hTrw := hTrw.gw u58.gr.gw
    replace hXw := hXw.gw u58.gr.gw
    replace hYx := hYx.gw u58.gr.gw
    replace hYy := hYy.gw u58.gr.gw
    replace hA55 := hA55.gw u58.gr.gw
    have hloz : (outq ls (mids (rowq zv (pick i_ 3 + 1)) (rowq zw (pick i_ 3 + 1)) (pick i_ 3 + 1)) ls.length).length = pick o_ 3 + 1 := (outq_len hMk.ok hlz _ (Nat.le_refl _)).trans (sizes_last i_ m_ o_ _ hMk.len)
    refine LG.val 80 (.tuple #[.slice Yz ((outq ls (mids (rowq zv (pick i_ 3 + 1)) (rowq zw (pick i_ 3 + 1)) (pick i_ 3 + 1)) ls.length).length) cyz, .int .i64 0]) w56 (by kernel_rfl) (by kernel_rfl) (by kernel_rfl) ?_
    refine LG.val 84 (.slice Yz ((outq ls (mids (rowq zv (pick i_ 3 + 1)) (rowq zw (pick i_ 3 + 1)) (pick i_ 3 + 1)) ls.length).length) cyz) w56 (by kernel_rfl) (by kernel_rfl) (by kernel_rfl) ?_
    refine LG.val 85 (.int .i64 0) w56 (by kernel_rfl) (by kernel_rfl) (by kernel_rfl) ?_
    refine LG.val 25 (.slice Yz ((outq ls (mids (rowq zv (pick i_ 3 + 1)) (rowq zw (pick i_ 3 + 1)) (pick i_ 3 + 1)) ls.length).length) cyz) w56 (by kernel_rfl) (by kernel_rfl) (by kernel_rfl) ?_
    refine LG.val 26 (.int .i64 0) w56 (by kernel_rfl) (by kernel_rfl) (by kernel_rfl) ?_
    refine LG.next (by kernel_rfl) ?_
    refine CG.to [(5, .int .i64 o_), (12, .bool false), (17, .slice Yx ((outq ls (rowq zv (pick i_ 3 + 1)) ls.length).length) cyx), (18, .int .i64 0), (19, .slice Yy ((outq ls (rowq zw (pick i_ 3 + 1)) ls.length).length) cyy), (20, .int .i64 0), (21, .pointer (some ⟨b36, 0, none⟩)), (25, .slice Yz ((outq ls (mids (rowq zv (pick i_ 3 + 1)) (rowq zw (pick i_ 3 + 1)) (pick i_ 3 + 1)) ls.length).length) cyz), (26, .int .i64 0)] (by kernel_rfl) ?_
    refine CG.seq ?_
    refine CG.seq ?_
    refine CG.listed ?_
    refine LG.val 86 (.int .i64 0) w56 (by kernel_rfl) (by kernel_rfl) (by kernel_rfl) ?_
    refine LG.val 87 (.bool false) w56 (by kernel_rfl) (by kernel_rfl) (by kernel_rfl) ?_
    refine LG.val 88 (.bool false) w56 (by kernel_rfl) (by kernel_rfl) (by kernel_rfl) ?_
    refine LG.val 89 (.int .i64 0) w56 (by kernel_rfl) (by kernel_rfl) (by kernel_rfl) ?_
    refine LG.val 90 (.bool false) w56 (by kernel_rfl) (by kernel_rfl) (by kernel_rfl) ?_
    refine LG.val 91 (.bool false) w56 (by kernel_rfl) (by kernel_rfl) (by kernel_rfl) ?_
    refine LG.val 92 (.bool false) w56 (by kernel_rfl) (by kernel_rfl) (by kernel_rfl) ?_
    refine LG.val 93 (.int .i64 0) w56 (by kernel_rfl) (by kernel_rfl) (by kernel_rfl) ?_
    refine LG.val 94 (.bool false) w56 (by kernel_rfl) (by kernel_rfl) (by kernel_rfl) ?_
    refine LG.val 95 (.bool false) w56 (by kernel_rfl) (by kernel_rfl) (by kernel_rfl) ?_
    refine LG.val 96 (.bool false) w56 (by kernel_rfl) (by kernel_rfl) (by kernel_rfl) ?_
    refine LG.val 97 (.slice Yx ((outq ls (rowq zv (pick i_ 3 + 1)) ls.length).length) cyx) w56 (by kernel_rfl) (by kernel_rfl) (by kernel_rfl) ?_
    refine LG.val 98 (.int .i64 ((outq ls (rowq zv (pick i_ 3 + 1)) ls.length).length : Nat)) w56 (by kernel_rfl) (by kernel_rfl) (by kernel_rfl) ?_
    refine LG.val 99 (.slice Yy ((outq ls (rowq zw (pick i_ 3 + 1)) ls.length).length) cyy) w56 (by kernel_rfl) (by kernel_rfl) (by kernel_rfl) ?_
    refine LG.val 100 (.int .i64 ((outq ls (rowq zw (pick i_ 3 + 1)) ls.length).length : Nat)) w56 (by kernel_rfl) (by kernel_rfl) (by kernel_rfl) ?_
    have hb59 : ((((outq ls (rowq zv (pick i_ 3 + 1)) ls.length).length : Nat) : Int) != (((outq ls (rowq zw (pick i_ 3 + 1)) ls.length).length : Nat) : Int)) = false := bneF (by omega)
    have phb59 := eqOfBne hb59
    refine LG.val 101 (.bool false) w56 (by kernel_rfl) (by kernel_rfl) (rb (by kernel_rfl) hb59) ?_
    refine LG.val 102 (.bool false) w56 (by kernel_rfl) (by kernel_rfl) (by kernel_rfl) ?_
    refine LG.val 103 (.bool false) w56 (by kernel_rfl) (by kernel_rfl) (by kernel_rfl) ?_
    refine LG.val 104 (.slice Yx ((outq ls (rowq zv (pick i_ 3 + 1)) ls.length).length) cyx) w56 (by kernel_rfl) (by kernel_rfl) (by kernel_rfl) ?_
    refine LG.val 105 (.int .i64 ((outq ls (rowq zv (pick i_ 3 + 1)) ls.length).length : Nat)) w56 (by kernel_rfl) (by kernel_rfl) (by kernel_rfl) ?_
    refine LG.val 106 (.slice Yz ((outq ls (mids (rowq zv (pick i_ 3 + 1)) (rowq zw (pick i_ 3 + 1)) (pick i_ 3 + 1)) ls.length).length) cyz) w56 (by kernel_rfl) (by kernel_rfl) (by kernel_rfl) ?_
    refine LG.val 107 (.int .i64 ((outq ls (mids (rowq zv (pick i_ 3 + 1)) (rowq zw (pick i_ 3 + 1)) (pick i_ 3 + 1)) ls.length).length : Nat)) w56 (by kernel_rfl) (by kernel_rfl) (by kernel_rfl) ?_
    have hb60 : ((((outq ls (rowq zv (pick i_ 3 + 1)) ls.length).length : Nat) : Int) != (((outq ls (mids (rowq zv (pick i_ 3 + 1)) (rowq zw (pick i_ 3 + 1)) (pick i_ 3 + 1)) ls.length).length : Nat) : Int)) = false := bneF (by omega)
    have phb60 := eqOfBne hb60
    refine LG.val 108 (.bool false) w56 (by kernel_rfl) (by kernel_rfl) (rb (by kernel_rfl) hb60) ?_
    refine LG.val 109 (.bool false) w56 (by kernel_rfl) (by kernel_rfl) (by kernel_rfl) ?_
    refine LG.val 110 (.bool false) w56 (by kernel_rfl) (by kernel_rfl) (by kernel_rfl) ?_
    refine LG.val 111 (.slice Yx ((outq ls (rowq zv (pick i_ 3 + 1)) ls.length).length) cyx) w56 (by kernel_rfl) (by kernel_rfl) (by kernel_rfl) ?_
    refine LG.val 112 (.int .i64 ((outq ls (rowq zv (pick i_ 3 + 1)) ls.length).length : Nat)) w56 (by kernel_rfl) (by kernel_rfl) (by kernel_rfl) ?_
    refine LG.val 113 (.int .i64 o_) w56 (by kernel_rfl) (by kernel_rfl) (by kernel_rfl) ?_
    refine LG.call 114 11 #[.int .i64 o_, .int .i64 3] (by kernel_rfl) (by kernel_rfl) (by kernel_rfl) ?_
    refine (hPick (o_) 3 (by omega) (by omega) w56 h57 hs.g).mono ?_
    rintro _ w61 ⟨vu63, h62, rfl, u63, rfl⟩
    refine ⟨_, rfl, ?_⟩
    replace hs := hs.step u63
    replace hA0 := hA0.gw u63.gr.gw
    replace hA1 := hA1.gw u63.gr.gw
    replace hA2 := hA2.gw u63.gr.gw
    replace hAn := hAn.gw u63.gr.gw
    replace hNr := hNr.gw u63.gr.gw
    replace hAp := hAp.gw u63.gr.gw
    replace hN := hN.gw u63.gr.gw
    replace hArv := hArv.gw u63.gr.gw
    replace hTrv := hTrv.gw u63.gr.gw
    replace hXv := hXv.gw u63.gr.gw
    replace hArw := hArw.gw u63.gr.gw
    replace hTrw := hTrw.gw u63.gr.gw
    replace hXw := hXw.gw u63.gr.gw
    replace hYx := hYx.gw u63.gr.gw
    replace hYy := hYy.gw u63.gr.gw
    replace hA55 := hA55.gw u63.gr.gw
    replace hYz := hYz.gw u63.gr.gw
    have lp_11 := pick_lt (o_) 3 (by omega)
    refine LG.val 115 (.int .i64 ((pick o_ 3) + 1 : Nat)) w61 (by kernel_rfl) (by kernel_rfl) (rint (ri64 (n := (pick o_ 3 : Nat) + 1) (by kernel_rfl) (by omega) (by omega)) (by omega)) ?_
    have hb64 : ((((outq ls (rowq zv (pick i_ 3 + 1)) ls.length).length : Nat) : Int) != (((pick o_ 3) + 1 : Nat) : Int)) = false := bneF (by omega)
    have phb64 := eqOfBne hb64
    refine LG.val 116 (.bool false) w61 (by kernel_rfl) (by kernel_rfl) (rb (by kernel_rfl) hb64) ?_
    refine LG.val 117 (.bool false) w61 (by kernel_rfl) (by kernel_rfl) (by kernel_rfl) ?_
    refine LG.next (by kernel_rfl) ?_
    refine CG.to [(12, .bool false), (17, .slice Yx ((outq ls (rowq zv (pick i_ 3 + 1)) ls.length).length) cyx), (19, .slice Yy ((outq ls (rowq zw (pick i_ 3 + 1)) ls.length).length) cyy), (21, .pointer (some ⟨b36, 0, none⟩)), (25, .slice Yz ((outq ls (mids (rowq zv (pick i_ 3 + 1)) (rowq zw (pick i_ 3 + 1)) (pick i_ 3 + 1)) ls.length).length) cyz), (117, .bool false)] (by kernel_rfl) ?_
    refine CG.condF (by kernel_rfl) (by kernel_rfl) ?_
    refine CG.skipN ?_
    refine CG.seq ?_
    refine CG.seq ?_
    refine CG.listed ?_
    refine LG.val 27 (.int .i64 0) w61 (by kernel_rfl) (by kernel_rfl) (by kernel_rfl) ?_
    refine LG.next (by kernel_rfl) ?_
    refine CG.block ?_
    refine CG.to [(17, .slice Yx ((outq ls (rowq zv (pick i_ 3 + 1)) ls.length).length) cyx), (19, .slice Yy ((outq ls (rowq zw (pick i_ 3 + 1)) ls.length).length) cyy), (21, .pointer (some ⟨b36, 0, none⟩)), (25, .slice Yz ((outq ls (mids (rowq zv (pick i_ 3 + 1)) (rowq zw (pick i_ 3 + 1)) (pick i_ 3 + 1)) ls.length).length) cyz), (27, .int .i64 0)] (by kernel_rfl) ?_
    refine CG.loop (fun μ_ Γ w_ => ∃ (j : Nat) (h_ : Hp), μ_ = pick o_ 3 + 1 - j ∧ Γ = [(17, .slice Yx ((outq ls (rowq zv (pick i_ 3 + 1)) ls.length).length) cyx), (19, .slice Yy ((outq ls (rowq zw (pick i_ 3 + 1)) ls.length).length) cyy), (21, .pointer (some ⟨b36, 0, none⟩)), (25, .slice Yz ((outq ls (mids (rowq zv (pick i_ 3 + 1)) (rowq zw (pick i_ 3 + 1)) (pick i_ 3 + 1)) ls.length).length) cyz), (27, .int .i64 (j : Nat))] ∧ St w h w_ h_ [⟨b36, 45, qc (mkRat 1 2)⟩, ⟨b7, 25, [.slice Ap up.length cp]⟩] ∧ (SlO 1 i64c 0 h_ A0 zl) ∧ (SlO 1 i64c 0 h_ A1 zv) ∧ (SlO 1 i64c 0 h_ A2 zw) ∧ (SlO 3 lvc lvd h_ An us) ∧ (RNetL h_ us ls) ∧ (SlO 3 lvc lvd h_ Ap up) ∧ (NetL h_ up ls) ∧ (SlO 3 rqc rqd h_ Arv trv) ∧ (RTs h_ trv (rowq zv (pick i_ 3 + 1))) ∧ (SlO 5 qc 0 h_ Xv (rowq zv (pick i_ 3 + 1))) ∧ (SlO 3 rqc rqd h_ Arw trw) ∧ (RTs h_ trw (rowq zw (pick i_ 3 + 1))) ∧ (SlO 5 qc 0 h_ Xw (rowq zw (pick i_ 3 + 1))) ∧ (SlO 5 qc 0 h_ Yx (outq ls (rowq zv (pick i_ 3 + 1)) ls.length)) ∧ (SlO 5 qc 0 h_ Yy (outq ls (rowq zw (pick i_ 3 + 1)) ls.length)) ∧ (SlO 5 qc 0 h_ a45 (mids (rowq zv (pick i_ 3 + 1)) (rowq zw (pick i_ 3 + 1)) (pick i_ 3 + 1))) ∧ (SlO 5 qc 0 h_ Yz (outq ls (mids (rowq zv (pick i_ 3 + 1)) (rowq zw (pick i_ 3 + 1)) (pick i_ 3 + 1)) ls.length)) ∧ (j ≤ pick o_ 3 + 1)) _ ⟨0, h62, rfl, rfl, hs.to _ (by kernel_rfl), hA0, hA1, hA2, hAn, hNr, hAp, hN, hArv, hTrv, hXv, hArw, hTrw, hXw, hYx, hYy, hA55, hYz, Nat.zero_le _⟩ ?_
    rintro _ _ w65 ⟨j, h66, hm67, rfl, hs, hA0, hA1, hA2, hAn, hNr, hAp, hN, hArv, hTrv, hXv, hArw, hTrw, hXw, hYx, hYy, hA55, hYz, hj⟩
    have hsj := hMk.sums hlv hbv hlw hbw j
    -- round
    refine CG.seq ?_
    refine CG.seq ?_
    refine CG.listed ?_
    refine LG.val 118 (.int .i64 (j : Nat)) w65 (by kernel_rfl) (by kernel_rfl) (by kernel_rfl) ?_
    refine LG.val 119 (.slice Yx ((outq ls (rowq zv (pick i_ 3 + 1)) ls.length).length) cyx) w65 (by kernel_rfl) (by kernel_rfl) (by kernel_rfl) ?_
    refine LG.val 120 (.int .i64 ((outq ls (rowq zv (pick i_ 3 + 1)) ls.length).length : Nat)) w65 (by kernel_rfl) (by kernel_rfl) (by kernel_rfl) ?_
    cases hb68 : (decide (((j : Nat) : Int) < (((outq ls (rowq zv (pick i_ 3 + 1)) ls.length).length : Nat) : Int)))
    ·
      have phb68 := of_decide_eq_false hb68
      refine LG.val 121 (.bool false) w65 (by kernel_rfl) (by kernel_rfl) (rb (by kernel_rfl) hb68) ?_
      refine LG.next (by kernel_rfl) ?_
      refine CG.condF (by kernel_rfl) (by kernel_rfl) ?_
      refine CG.exit ?_
      show CG _ _ _ _ _ _ _ _
      refine CG.to [] (by kernel_rfl) ?_
      refine CG.seq ?_
      refine CG.listed ?_
      refine LG.call 141 19 #[] (by kernel_rfl) (by kernel_rfl) (by kernel_rfl) ?_
      refine (lKnown w65 h66 hs.g).mono ?_
      rintro _ w69 ⟨vu71, h70, rfl, u71, rfl⟩
      refine ⟨_, rfl, ?_⟩
      replace hs := hs.step u71
      replace hA0 := hA0.gw u71.gr.gw
      replace hA1 := hA1.gw u71.gr.gw
      replace hA2 := hA2.gw u71.gr.gw
      replace hAn := hAn.gw u71.gr.gw
      replace hNr := hNr.gw u71.gr.gw
      replace hAp := hAp.gw u71.gr.gw
      replace hN := hN.gw u71.gr.gw
      replace hArv := hArv.gw u71.gr.gw
      replace hTrv := hTrv.gw u71.gr.gw
      replace hXv := hXv.gw u71.gr.gw
      replace hArw := hArw.gw u71.gr.gw
      replace hTrw := hTrw.gw u71.gr.gw
      replace hXw := hXw.gw u71.gr.gw
      replace hYx := hYx.gw u71.gr.gw
      replace hYy := hYy.gw u71.gr.gw
      replace hA55 := hA55.gw u71.gr.gw
      replace hYz := hYz.gw u71.gr.gw
      refine LG.val 12 (.bool true) w69 (by kernel_rfl) (by kernel_rfl) (by kernel_rfl) ?_
      refine LG.next (by kernel_rfl) ?_
      refine CG.ret ?_
      exact retP hs [] (.bool true) (by kernel_rfl) (by kernel_rfl) rfl
    ·
      have phb68 := of_decide_eq_true hb68
      refine LG.val 121 (.bool true) w65 (by kernel_rfl) (by kernel_rfl) (rb (by kernel_rfl) hb68) ?_
      refine LG.next (by kernel_rfl) ?_
      refine CG.condT (by kernel_rfl) (by kernel_rfl) ?_
      refine CG.skipN ?_
      refine CG.seq ?_
      refine CG.block ?_
      refine CG.seq ?_
      have hsr := hs
      refine CG.region [] 17 [] mixed (by kernel_rfl) hs.g al_nil (fun _ hb => by cases hb) ?_
      refine Rg.pure 0 124 (.slice Yx ((outq ls (rowq zv (pick i_ 3 + 1)) ls.length).length) cyx) (by kernel_rfl) (by kernel_rfl) (fun _ => by kernel_rfl) ?_
      refine Rg.pure 1 125 (.int .i64 (j : Nat)) (by kernel_rfl) (by kernel_rfl) (fun _ => by kernel_rfl) ?_
      refine Rg.pure 2 126 (.pointer (some ⟨(aB Yx), aO Yx + j * 5, none⟩)) (by kernel_rfl) (by kernel_rfl) (fun _ => ixAddr (t := 32) (e := 45) (x := .tmp 124) (ix := .tmp 125) (A := Yx) (len := (outq ls (rowq zv (pick i_ 3 + 1)) ls.length).length) (cap := cyx) (sz := 5) (i := (j : Nat)) j (by kernel_rfl) (by kernel_rfl) (by kernel_rfl) (by kernel_rfl) (by kernel_rfl) (hYx.ok (by omega)) (by omega) (by omega) _) ?_
      refine Rg.load 3 127 (qv ((outq ls (rowq zv (pick i_ 3 + 1)) ls.length).getD j 0)) (by kernel_rfl) (by kernel_rfl) (fun _ hx => Seg.run (hYx.el j (by omega)) hs.g hx.ext (by kernel_rfl)) ?_
      refine Rg.pure 4 128 (.slice Yy ((outq ls (rowq zw (pick i_ 3 + 1)) ls.length).length) cyy) (by kernel_rfl) (by kernel_rfl) (fun _ => by kernel_rfl) ?_
      refine Rg.pure 5 129 (.int .i64 (j : Nat)) (by kernel_rfl) (by kernel_rfl) (fun _ => by kernel_rfl) ?_
      refine Rg.pure 6 130 (.pointer (some ⟨(aB Yy), aO Yy + j * 5, none⟩)) (by kernel_rfl) (by kernel_rfl) (fun _ => ixAddr (t := 32) (e := 45) (x := .tmp 128) (ix := .tmp 129) (A := Yy) (len := (outq ls (rowq zw (pick i_ 3 + 1)) ls.length).length) (cap := cyy) (sz := 5) (i := (j : Nat)) j (by kernel_rfl) (by kernel_rfl) (by kernel_rfl) (by kernel_rfl) (by kernel_rfl) (hYy.ok (by omega)) (by omega) (by omega) _) ?_
      refine Rg.load 7 131 (qv ((outq ls (rowq zw (pick i_ 3 + 1)) ls.length).getD j 0)) (by kernel_rfl) (by kernel_rfl) (fun _ hx => Seg.run (hYy.el j (by omega)) hs.g hx.ext (by kernel_rfl)) ?_
      refine Rg.own 9 133 [(0, 0, 5)] (qv (mkRat 1 2)) hs (by kernel_rfl) (by kernel_rfl) (fun _ _ => List.not_mem_nil) (by kernel_rfl) (by kernel_rfl) ?_
      refine Rg.pure 11 135 (.slice Yz ((outq ls (mids (rowq zv (pick i_ 3 + 1)) (rowq zw (pick i_ 3 + 1)) (pick i_ 3 + 1)) ls.length).length) cyz) (by kernel_rfl) (by kernel_rfl) (fun _ => by kernel_rfl) ?_
      refine Rg.pure 12 136 (.int .i64 (j : Nat)) (by kernel_rfl) (by kernel_rfl) (fun _ => by kernel_rfl) ?_
      refine Rg.pure 13 137 (.pointer (some ⟨(aB Yz), aO Yz + j * 5, none⟩)) (by kernel_rfl) (by kernel_rfl) (fun _ => ixAddr (t := 32) (e := 45) (x := .tmp 135) (ix := .tmp 136) (A := Yz) (len := (outq ls (mids (rowq zv (pick i_ 3 + 1)) (rowq zw (pick i_ 3 + 1)) (pick i_ 3 + 1)) ls.length).length) (cap := cyz) (sz := 5) (i := (j : Nat)) j (by kernel_rfl) (by kernel_rfl) (by kernel_rfl) (by kernel_rfl) (by kernel_rfl) (hYz.ok (by omega)) (by omega) (by omega) _) ?_
      refine Rg.load 14 138 (qv ((outq ls (mids (rowq zv (pick i_ 3 + 1)) (rowq zw (pick i_ 3 + 1)) (pick i_ 3 + 1)) ls.length).getD j 0)) (by kernel_rfl) (by kernel_rfl) (fun _ hx => Seg.run (hYz.el j (by omega)) hs.g hx.ext (by kernel_rfl)) ?_
      refine Rg.call 8 132 16 #[qv ((outq ls (rowq zv (pick i_ 3 + 1)) ls.length).getD j 0), qv ((outq ls (rowq zw (pick i_ 3 + 1)) ls.length).getD j 0)] (by kernel_rfl) (by kernel_rfl) (fun _ => by kernel_rfl) (fun w75 h76 u77 => ?_)
      replace hs := hs.step u77
      replace hA0 := hA0.gw u77.gr.gw
      replace hA1 := hA1.gw u77.gr.gw
      replace hA2 := hA2.gw u77.gr.gw
      replace hAn := hAn.gw u77.gr.gw
      replace hNr := hNr.gw u77.gr.gw
      replace hAp := hAp.gw u77.gr.gw
      replace hN := hN.gw u77.gr.gw
      replace hArv := hArv.gw u77.gr.gw
      replace hTrv := hTrv.gw u77.gr.gw
      replace hXv := hXv.gw u77.gr.gw
      replace hArw := hArw.gw u77.gr.gw
      replace hTrw := hTrw.gw u77.gr.gw
      replace hXw := hXw.gw u77.gr.gw
      replace hYx := hYx.gw u77.gr.gw
      replace hYy := hYy.gw u77.gr.gw
      replace hA55 := hA55.gw u77.gr.gw
      replace hYz := hYz.gw u77.gr.gw
      refine (Ret.of_ext hs.g (cAdd ((outq ls (rowq zv (pick i_ 3 + 1)) ls.length).getD j 0) ((outq ls (rowq zw (pick i_ 3 + 1)) ls.length).getD j 0) hsj.1 hsj.2.1 w75)).mono ?_
      rintro _ w72 ⟨vu74, h73, rfl, u74, rfl⟩
      refine ⟨_, h73, rfl, u74.m _, ?_⟩
      replace hs := hs.step u74
      replace hA0 := hA0.gw u74.gr.gw
      replace hA1 := hA1.gw u74.gr.gw
      replace hA2 := hA2.gw u74.gr.gw
      replace hAn := hAn.gw u74.gr.gw
      replace hNr := hNr.gw u74.gr.gw
      replace hAp := hAp.gw u74.gr.gw
      replace hN := hN.gw u74.gr.gw
      replace hArv := hArv.gw u74.gr.gw
      replace hTrv := hTrv.gw u74.gr.gw
      replace hXv := hXv.gw u74.gr.gw
      replace hArw := hArw.gw u74.gr.gw
      replace hTrw := hTrw.gw u74.gr.gw
      replace hXw := hXw.gw u74.gr.gw
      replace hYx := hYx.gw u74.gr.gw
      replace hYy := hYy.gw u74.gr.gw
      replace hA55 := hA55.gw u74.gr.gw
      replace hYz := hYz.gw u74.gr.gw
      refine Rg.call 10 134 17 #[qv (((outq ls (rowq zv (pick i_ 3 + 1)) ls.length).getD j 0) + ((outq ls (rowq zw (pick i_ 3 + 1)) ls.length).getD j 0)), qv (mkRat 1 2)] (by kernel_rfl) (by kernel_rfl) (fun _ => by kernel_rfl) (fun w81 h82 u83 => ?_)
      replace hs := hs.step u83
      replace hA0 := hA0.gw u83.gr.gw
      replace hA1 := hA1.gw u83.gr.gw
      replace hA2 := hA2.gw u83.gr.gw
      replace hAn := hAn.gw u83.gr.gw
      replace hNr := hNr.gw u83.gr.gw
      replace hAp := hAp.gw u83.gr.gw
      replace hN := hN.gw u83.gr.gw
      replace hArv := hArv.gw u83.gr.gw
      replace hTrv := hTrv.gw u83.gr.gw
      replace hXv := hXv.gw u83.gr.gw
      replace hArw := hArw.gw u83.gr.gw
      replace hTrw := hTrw.gw u83.gr.gw
      replace hXw := hXw.gw u83.gr.gw
      replace hYx := hYx.gw u83.gr.gw
      replace hYy := hYy.gw u83.gr.gw
      replace hA55 := hA55.gw u83.gr.gw
      replace hYz := hYz.gw u83.gr.gw
      refine (Ret.of_ext hs.g (cMul (((outq ls (rowq zv (pick i_ 3 + 1)) ls.length).getD j 0) + ((outq ls (rowq zw (pick i_ 3 + 1)) ls.length).getD j 0)) (mkRat 1 2) hsj.2.2.1 (bd_half.sm (by omega) (by omega) (by omega)) w81)).mono ?_
      rintro _ w78 ⟨vu80, h79, rfl, u80, rfl⟩
      refine ⟨_, h79, rfl, u80.m _, ?_⟩
      replace hs := hs.step u80
      replace hA0 := hA0.gw u80.gr.gw
      replace hA1 := hA1.gw u80.gr.gw
      replace hA2 := hA2.gw u80.gr.gw
      replace hAn := hAn.gw u80.gr.gw
      replace hNr := hNr.gw u80.gr.gw
      replace hAp := hAp.gw u80.gr.gw
      replace hN := hN.gw u80.gr.gw
      replace hArv := hArv.gw u80.gr.gw
      replace hTrv := hTrv.gw u80.gr.gw
      replace hXv := hXv.gw u80.gr.gw
      replace hArw := hArw.gw u80.gr.gw
      replace hTrw := hTrw.gw u80.gr.gw
      replace hXw := hXw.gw u80.gr.gw
      replace hYx := hYx.gw u80.gr.gw
      replace hYy := hYy.gw u80.gr.gw
      replace hA55 := hA55.gw u80.gr.gw
      replace hYz := hYz.gw u80.gr.gw
      refine Rg.call 15 139 18 #[qv ((((outq ls (rowq zv (pick i_ 3 + 1)) ls.length).getD j 0) + ((outq ls (rowq zw (pick i_ 3 + 1)) ls.length).getD j 0)) * (mkRat 1 2)), qv ((outq ls (mids (rowq zv (pick i_ 3 + 1)) (rowq zw (pick i_ 3 + 1)) (pick i_ 3 + 1)) ls.length).getD j 0)] (by kernel_rfl) (by kernel_rfl) (fun _ => by kernel_rfl) (fun w87 h88 u89 => ?_)
      replace hs := hs.step u89
      replace hA0 := hA0.gw u89.gr.gw
      replace hA1 := hA1.gw u89.gr.gw
      replace hA2 := hA2.gw u89.gr.gw
      replace hAn := hAn.gw u89.gr.gw
      replace hNr := hNr.gw u89.gr.gw
      replace hAp := hAp.gw u89.gr.gw
      replace hN := hN.gw u89.gr.gw
      replace hArv := hArv.gw u89.gr.gw
      replace hTrv := hTrv.gw u89.gr.gw
      replace hXv := hXv.gw u89.gr.gw
      replace hArw := hArw.gw u89.gr.gw
      replace hTrw := hTrw.gw u89.gr.gw
      replace hXw := hXw.gw u89.gr.gw
      replace hYx := hYx.gw u89.gr.gw
      replace hYy := hYy.gw u89.gr.gw
      replace hA55 := hA55.gw u89.gr.gw
      replace hYz := hYz.gw u89.gr.gw
      refine (cCmp ((((outq ls (rowq zv (pick i_ 3 + 1)) ls.length).getD j 0) + ((outq ls (rowq zw (pick i_ 3 + 1)) ls.length).getD j 0)) * (mkRat 1 2)) ((outq ls (mids (rowq zv (pick i_ 3 + 1)) (rowq zw (pick i_ 3 + 1)) (pick i_ 3 + 1)) ls.length).getD j 0) (hsj.2.2.2) (hsz j).1 w87 h88 hs.g).mono ?_
      rintro _ w84 ⟨vu86, h85, rfl, u86, rfl⟩
      refine ⟨_, h85, rfl, u86.m _, ?_⟩
      replace hs := hs.step u86
      replace hA0 := hA0.gw u86.gr.gw
      replace hA1 := hA1.gw u86.gr.gw
      replace hA2 := hA2.gw u86.gr.gw
      replace hAn := hAn.gw u86.gr.gw
      replace hNr := hNr.gw u86.gr.gw
      replace hAp := hAp.gw u86.gr.gw
      replace hN := hN.gw u86.gr.gw
      replace hArv := hArv.gw u86.gr.gw
      replace hTrv := hTrv.gw u86.gr.gw
      replace hXv := hXv.gw u86.gr.gw
      replace hArw := hArw.gw u86.gr.gw
      replace hTrw := hTrw.gw u86.gr.gw
      replace hXw := hXw.gw u86.gr.gw
      replace hYx := hYx.gw u86.gr.gw
      replace hYy := hYy.gw u86.gr.gw
      replace hA55 := hA55.gw u86.gr.gw
      replace hYz := hYz.gw u86.gr.gw
      have hb90 : ((cmpR ((((outq ls (rowq zv (pick i_ 3 + 1)) ls.length).getD j 0) + ((outq ls (rowq zw (pick i_ 3 + 1)) ls.length).getD j 0)) * (mkRat 1 2)) ((outq ls (mids (rowq zv (pick i_ 3 + 1)) (rowq zw (pick i_ 3 + 1)) (pick i_ 3 + 1)) ls.length).getD j 0) : Int) != (0 : Int)) = false := bneF (by rw [← hmid j]; exact cmpR_self _)
      have phb90 := eqOfBne hb90
      refine Rg.pure 16 140 (.bool false) (by kernel_rfl) (by kernel_rfl) (fun _ => rb (by kernel_rfl) hb90) ?_
      refine Rg.fin0 (by kernel_rfl) (fun w91 h92 u93 => ?_)
      replace hs := hs.step u93
      replace hA0 := hA0.gw u93.gr.gw
      replace hA1 := hA1.gw u93.gr.gw
      replace hA2 := hA2.gw u93.gr.gw
      replace hAn := hAn.gw u93.gr.gw
      replace hNr := hNr.gw u93.gr.gw
      replace hAp := hAp.gw u93.gr.gw
      replace hN := hN.gw u93.gr.gw
      replace hArv := hArv.gw u93.gr.gw
      replace hTrv := hTrv.gw u93.gr.gw
      replace hXv := hXv.gw u93.gr.gw
      replace hArw := hArw.gw u93.gr.gw
      replace hTrw := hTrw.gw u93.gr.gw
      replace hXw := hXw.gw u93.gr.gw
      replace hYx := hYx.gw u93.gr.gw
      replace hYy := hYy.gw u93.gr.gw
      replace hA55 := hA55.gw u93.gr.gw
      replace hYz := hYz.gw u93.gr.gw
      refine T.next (by kernel_rfl) ?_
      refine CG.to [(17, .slice Yx ((outq ls (rowq zv (pick i_ 3 + 1)) ls.length).length) cyx), (19, .slice Yy ((outq ls (rowq zw (pick i_ 3 + 1)) ls.length).length) cyy), (21, .pointer (some ⟨b36, 0, none⟩)), (25, .slice Yz ((outq ls (mids (rowq zv (pick i_ 3 + 1)) (rowq zw (pick i_ 3 + 1)) (pick i_ 3 + 1)) ls.length).length) cyz), (27, .int .i64 (j : Nat)), (140, .bool false)] (by kernel_rfl) ?_
      refine CG.condF (by kernel_rfl) (by kernel_rfl) ?_
      refine CG.skipN ?_
      refine CG.listed ?_
      refine LG.val 122 (.int .i64 (j : Nat)) w91 (by kernel_rfl) (by kernel_rfl) (by kernel_rfl) ?_
      refine LG.val 123 (.int .i64 (j + 1 : Nat)) w91 (by kernel_rfl) (by kernel_rfl) (rint (ri64 (n := (j : Nat) + 1) (by kernel_rfl) (by omega) (by omega)) (by omega)) ?_
      refine LG.val 27 (.int .i64 (j + 1 : Nat)) w91 (by kernel_rfl) (by kernel_rfl) (by kernel_rfl) ?_
      refine LG.done (by kernel_rfl) ?_
      intro a_ ka
      refine ⟨_, _, ?_, ⟨j + 1, h92, rfl, rfl, hs.to _ (by kernel_rfl), hA0, hA1, hA2, hAn, hNr, hAp, hN, hArv, hTrv, hXv, hArw, hTrw, hXw, hYx, hYy, hA55, hYz, by omega⟩, ka.to [(17, .slice Yx ((outq ls (rowq zv (pick i_ 3 + 1)) ls.length).length) cyx), (19, .slice Yy ((outq ls (rowq zw (pick i_ 3 + 1)) ls.length).length) cyy), (21, .pointer (some ⟨b36, 0, none⟩)), (25, .slice Yz ((outq ls (mids (rowq zv (pick i_ 3 + 1)) (rowq zw (pick i_ 3 + 1)) (pick i_ 3 + 1)) ls.length).length) cyz), (27, .int .i64 ((j + 1) : Nat))] (by kernel_rfl)⟩
      omega
  ·
    have phb44 := of_decide_eq_true hb44
    refine LG.val 63 (.bool true) w41 (by kernel_rfl) (by kernel_rfl) (rb (by kernel_rfl) hb44) ?_
    refine LG.next (by kernel_rfl) ?_
    refine CG.to [(5, .int .i64 o_), (12, .bool false), (13, .pointer (some ⟨b7, 0, none⟩)), (14, .int .i64 ((pick i_ 3) + 1 : Nat)), (15, .slice Xv ((rowq zv (pick i_ 3 + 1)).length) cxv), (16, .slice Xw ((rowq zw (pick i_ 3 + 1)).length) cxw), (17, .slice Yx ((outq ls (rowq zv (pick i_ 3 + 1)) ls.length).length) cyx), (18, .int .i64 0), (19, .slice Yy ((outq ls (rowq zw (pick i_ 3 + 1)) ls.length).length) cyy), (20, .int .i64 0), (21, .pointer (some ⟨b36, 0, none⟩)), (24, .int .i64 (c : Nat)), (23, s), (63, .bool true)] (by kernel_rfl) ?_
    refine CG.condT (by kernel_rfl) (by kernel_rfl) ?_
    refine CG.skipN ?_
    refine CG.seq ?_
    refine CG.block ?_
    have hsr := hs
    have hg_r := hg
    refine CG.region (s.ownBlock.toList) 14 [] mixed (by kernel_rfl) hs.g al_nil (fun b hb => hg.lt (Option.mem_toList.1 hb)) ?_
    refine Rg.pure 0 66 (s) (by kernel_rfl) (by kernel_rfl) (fun _ => by kernel_rfl) ?_
    refine Rg.pure 1 67 (.slice Xv ((rowq zv (pick i_ 3 + 1)).length) cxv) (by kernel_rfl) (by kernel_rfl) (fun _ => by kernel_rfl) ?_
    refine Rg.pure 2 68 (.int .i64 (c : Nat)) (by kernel_rfl) (by kernel_rfl) (fun _ => by kernel_rfl) ?_
    refine Rg.pure 3 69 (.pointer (some ⟨(aB Xv), aO Xv + c * 5, none⟩)) (by kernel_rfl) (by kernel_rfl) (fun _ => ixAddr (t := 32) (e := 45) (x := .tmp 67) (ix := .tmp 68) (A := Xv) (len := (rowq zv (pick i_ 3 + 1)).length) (cap := cxv) (sz := 5) (i := (c : Nat)) c (by kernel_rfl) (by kernel_rfl) (by kernel_rfl) (by kernel_rfl) (by kernel_rfl) (hXv.ok (by omega)) (by omega) (by omega) _) ?_
    refine Rg.load 4 70 (qv ((rowq zv (pick i_ 3 + 1)).getD c 0)) (by kernel_rfl) (by kernel_rfl) (fun _ hx => Seg.runM (hXv.el c (by omega)) hs.g (fun b hb => hg.jk b (Option.mem_toList.1 hb)) hx (by kernel_rfl)) ?_
    refine Rg.pure 5 71 (.slice Xw ((rowq zw (pick i_ 3 + 1)).length) cxw) (by kernel_rfl) (by kernel_rfl) (fun _ => by kernel_rfl) ?_
    refine Rg.pure 6 72 (.int .i64 (c : Nat)) (by kernel_rfl) (by kernel_rfl) (fun _ => by kernel_rfl) ?_
    refine Rg.pure 7 73 (.pointer (some ⟨(aB Xw), aO Xw + c * 5, none⟩)) (by kernel_rfl) (by kernel_rfl) (fun _ => ixAddr (t := 32) (e := 45) (x := .tmp 71) (ix := .tmp 72) (A := Xw) (len := (rowq zw (pick i_ 3 + 1)).length) (cap := cxw) (sz := 5) (i := (c : Nat)) c (by kernel_rfl) (by kernel_rfl) (by kernel_rfl) (by kernel_rfl) (by kernel_rfl) (hXw.ok (by omega)) (by omega) (by omega) _) ?_
    refine Rg.load 8 74 (qv ((rowq zw (pick i_ 3 + 1)).getD c 0)) (by kernel_rfl) (by kernel_rfl) (fun _ hx => Seg.runM (hXw.el c (by omega)) hs.g (fun b hb => hg.jk b (Option.mem_toList.1 hb)) hx (by kernel_rfl)) ?_
    refine Rg.own 10 76 [(0, 0, 5)] (qv (mkRat 1 2)) hs (by kernel_rfl) (by kernel_rfl) (fun p hp => by rw [List.mem_singleton] at hp; rw [hp]; exact notM_row hg (by kernel_rfl)) (by kernel_rfl) (by kernel_rfl) ?_
    refine Rg.call 9 75 16 #[qv ((rowq zv (pick i_ 3 + 1)).getD c 0), qv ((rowq zw (pick i_ 3 + 1)).getD c 0)] (by kernel_rfl) (by kernel_rfl) (fun _ => by kernel_rfl) (fun w97 h98 u99 => ?_)
    replace hs := hs.step u99
    replace hg := hg.up u99
    replace hA0 := hA0.gw u99.gr.gw
    replace hA1 := hA1.gw u99.gr.gw
    replace hA2 := hA2.gw u99.gr.gw
    replace hAn := hAn.gw u99.gr.gw
    replace hNr := hNr.gw u99.gr.gw
    replace hAp := hAp.gw u99.gr.gw
    replace hN := hN.gw u99.gr.gw
    replace hArv := hArv.gw u99.gr.gw
    replace hTrv := hTrv.gw u99.gr.gw
    replace hXv := hXv.gw u99.gr.gw
    replace hArw := hArw.gw u99.gr.gw
    replace hTrw := hTrw.gw u99.gr.gw
    replace hXw := hXw.gw u99.gr.gw
    replace hYx := hYx.gw u99.gr.gw
    replace hYy := hYy.gw u99.gr.gw
    refine (Ret.of_ext hs.g (cAdd ((rowq zv (pick i_ 3 + 1)).getD c 0) ((rowq zw (pick i_ 3 + 1)).getD c 0) ((hbv c).sm (by omega) (by omega) (by omega)) ((hbw c).sm (by omega) (by omega) (by omega)) w97)).mono ?_
    rintro _ w94 ⟨vu96, h95, rfl, u96, rfl⟩
    refine ⟨_, h95, rfl, u96.m _, ?_⟩
    replace hs := hs.step u96
    replace hg := hg.up u96
    replace hA0 := hA0.gw u96.gr.gw
    replace hA1 := hA1.gw u96.gr.gw
    replace hA2 := hA2.gw u96.gr.gw
    replace hAn := hAn.gw u96.gr.gw
    replace hNr := hNr.gw u96.gr.gw
    replace hAp := hAp.gw u96.gr.gw
    replace hN := hN.gw u96.gr.gw
    replace hArv := hArv.gw u96.gr.gw
    replace hTrv := hTrv.gw u96.gr.gw
    replace hXv := hXv.gw u96.gr.gw
    replace hArw := hArw.gw u96.gr.gw
    replace hTrw := hTrw.gw u96.gr.gw
    replace hXw := hXw.gw u96.gr.gw
    replace hYx := hYx.gw u96.gr.gw
    replace hYy := hYy.gw u96.gr.gw
    refine Rg.call 11 77 17 #[qv (((rowq zv (pick i_ 3 + 1)).getD c 0) + ((rowq zw (pick i_ 3 + 1)).getD c 0)), qv (mkRat 1 2)] (by kernel_rfl) (by kernel_rfl) (fun _ => by kernel_rfl) (fun w103 h104 u105 => ?_)
    replace hs := hs.step u105
    replace hg := hg.up u105
    replace hA0 := hA0.gw u105.gr.gw
    replace hA1 := hA1.gw u105.gr.gw
    replace hA2 := hA2.gw u105.gr.gw
    replace hAn := hAn.gw u105.gr.gw
    replace hNr := hNr.gw u105.gr.gw
    replace hAp := hAp.gw u105.gr.gw
    replace hN := hN.gw u105.gr.gw
    replace hArv := hArv.gw u105.gr.gw
    replace hTrv := hTrv.gw u105.gr.gw
    replace hXv := hXv.gw u105.gr.gw
    replace hArw := hArw.gw u105.gr.gw
    replace hTrw := hTrw.gw u105.gr.gw
    replace hXw := hXw.gw u105.gr.gw
    replace hYx := hYx.gw u105.gr.gw
    replace hYy := hYy.gw u105.gr.gw
    refine (Ret.of_ext hs.g (cMul (((rowq zv (pick i_ 3 + 1)).getD c 0) + ((rowq zw (pick i_ 3 + 1)).getD c 0)) (mkRat 1 2) ((bd_sum (by omega) (hbv c) (hbw c)).sm (by omega) (by omega) (by omega)) (bd_half.sm (by omega) (by omega) (by omega)) w103)).mono ?_
    rintro _ w100 ⟨vu102, h101, rfl, u102, rfl⟩
    refine ⟨_, h101, rfl, u102.m _, ?_⟩
    replace hs := hs.step u102
    replace hg := hg.up u102
    replace hA0 := hA0.gw u102.gr.gw
    replace hA1 := hA1.gw u102.gr.gw
    replace hA2 := hA2.gw u102.gr.gw
    replace hAn := hAn.gw u102.gr.gw
    replace hNr := hNr.gw u102.gr.gw
    replace hAp := hAp.gw u102.gr.gw
    replace hN := hN.gw u102.gr.gw
    replace hArv := hArv.gw u102.gr.gw
    replace hTrv := hTrv.gw u102.gr.gw
    replace hXv := hXv.gw u102.gr.gw
    replace hArw := hArw.gw u102.gr.gw
    replace hTrw := hTrw.gw u102.gr.gw
    replace hXw := hXw.gw u102.gr.gw
    replace hYx := hYx.gw u102.gr.gw
    replace hYy := hYy.gw u102.gr.gw
    refine Rg.row 12 78 45 1 (qc ((((rowq zv (pick i_ 3 + 1)).getD c 0) + ((rowq zw (pick i_ 3 + 1)).getD c 0)) * (mkRat 1 2))) (by kernel_rfl) (by kernel_rfl) (fun _ => by kernel_rfl) (fun b106 w107 h108 u109 hS110 => ?_)
    replace hs := hs.step u109
    replace hg := hg.up u109
    replace hA0 := hA0.gw u109.gr.gw
    replace hA1 := hA1.gw u109.gr.gw
    replace hA2 := hA2.gw u109.gr.gw
    replace hAn := hAn.gw u109.gr.gw
    replace hNr := hNr.gw u109.gr.gw
    replace hAp := hAp.gw u109.gr.gw
    replace hN := hN.gw u109.gr.gw
    replace hArv := hArv.gw u109.gr.gw
    replace hTrv := hTrv.gw u109.gr.gw
    replace hXv := hXv.gw u109.gr.gw
    replace hArw := hArw.gw u109.gr.gw
    replace hTrw := hTrw.gw u109.gr.gw
    replace hXw := hXw.gw u109.gr.gw
    replace hYx := hYx.gw u109.gr.gw
    replace hYy := hYy.gw u109.gr.gw
    refine Rg.app 13 79 (x := .tmp 66) (y := .tmp 78) (ty := 32) (e := 45) (z := .agg #[.bool false, .int .u64 0, .string (⟨#[]⟩), .int .u64 0, .string (⟨#[]⟩)]) (sz := 5) (bt := 56) (m := ((mids (rowq zv (pick i_ 3 + 1)) (rowq zw (pick i_ 3 + 1)) c).length)) (m2 := 1) (c := 1) (b := b106) (v := s) (cs := (mids (rowq zv (pick i_ 3 + 1)) (rowq zw (pick i_ 3 + 1)) c).flatMap qc) (news := qc ((((rowq zv (pick i_ 3 + 1)).getD c 0) + ((rowq zw (pick i_ 3 + 1)).getD c 0)) * (mkRat 1 2))) hs g hg hS110 (fun b hb => by simp [hb]) (by kernel_rfl) (by kernel_rfl) (by kernel_rfl) (by kernel_rfl) (by kernel_rfl) (by kernel_rfl) (by kernel_rfl) (by kernel_rfl) (by decide) (by kernel_rfl) (by kernel_rfl) (by omega) (by omega) (fun w117 h118 u119 s111 w112 h113 gr114 gg115 hl_ hs hg116 => ?_)
    have gr_ := u119.gr.trans gr114
    obtain ⟨s111A, s111n, s111c, rfl⟩ := hg116.sl
    replace hA0 := hA0.gw gr_.gw
    replace hA1 := hA1.gw gr_.gw
    replace hA2 := hA2.gw gr_.gw
    replace hAn := hAn.gw gr_.gw
    replace hNr := hNr.gw gr_.gw
    replace hAp := hAp.gw gr_.gw
    replace hN := hN.gw gr_.gw
    replace hArv := hArv.gw gr_.gw
    replace hTrv := hTrv.gw gr_.gw
    replace hXv := hXv.gw gr_.gw
    replace hArw := hArw.gw gr_.gw
    replace hTrw := hTrw.gw gr_.gw
    replace hXw := hXw.gw gr_.gw
    replace hYx := hYx.gw gr_.gw
    replace hYy := hYy.gw gr_.gw
    replace hS110 := hS110.gw gr_.gw
    replace hg116 := Gro.snoc (l := mids (rowq zv (pick i_ 3 + 1)) (rowq zw (pick i_ 3 + 1)) c) (f := qc) (x := (((rowq zv (pick i_ 3 + 1)).getD c 0) + ((rowq zw (pick i_ 3 + 1)).getD c 0)) * (mkRat 1 2)) hg116 (by kernel_rfl)
    refine Rg.fin0 (by kernel_rfl) (fun w120 h121 u122 => ?_)
    replace hs := hs.step u122
    replace hg116 := hg116.up u122
    replace hA0 := hA0.gw u122.gr.gw
    replace hA1 := hA1.gw u122.gr.gw
    replace hA2 := hA2.gw u122.gr.gw
    replace hAn := hAn.gw u122.gr.gw
    replace hNr := hNr.gw u122.gr.gw
    replace hAp := hAp.gw u122.gr.gw
    replace hN := hN.gw u122.gr.gw
    replace hArv := hArv.gw u122.gr.gw
    replace hTrv := hTrv.gw u122.gr.gw
    replace hXv := hXv.gw u122.gr.gw
    replace hArw := hArw.gw u122.gr.gw
    replace hTrw := hTrw.gw u122.gr.gw
    replace hXw := hXw.gw u122.gr.gw
    replace hYx := hYx.gw u122.gr.gw
    replace hYy := hYy.gw u122.gr.gw
    replace hS110 := hS110.gw u122.gr.gw
    refine T.val 14 23 ((.slice s111A s111n s111c)) w120 (by kernel_rfl) (by kernel_rfl) (by kernel_rfl) ?_
    refine T.next (by kernel_rfl) ?_
    refine CG.to [(5, .int .i64 o_), (12, .bool false), (13, .pointer (some ⟨b7, 0, none⟩)), (14, .int .i64 ((pick i_ 3) + 1 : Nat)), (15, .slice Xv ((rowq zv (pick i_ 3 + 1)).length) cxv), (16, .slice Xw ((rowq zw (pick i_ 3 + 1)).length) cxw), (17, .slice Yx ((outq ls (rowq zv (pick i_ 3 + 1)) ls.length).length) cyx), (18, .int .i64 0), (19, .slice Yy ((outq ls (rowq zw (pick i_ 3 + 1)) ls.length).length) cyy), (20, .int .i64 0), (21, .pointer (some ⟨b36, 0, none⟩)), (24, .int .i64 (c : Nat)), (23, (.slice s111A s111n s111c))] (by kernel_rfl) ?_
    refine CG.listed ?_
    refine LG.val 64 (.int .i64 (c : Nat)) w120 (by kernel_rfl) (by kernel_rfl) (by kernel_rfl) ?_
    refine LG.val 65 (.int .i64 (c + 1 : Nat)) w120 (by kernel_rfl) (by kernel_rfl) (rint (ri64 (n := (c : Nat) + 1) (by kernel_rfl) (by omega) (by omega)) (by omega)) ?_
    refine LG.val 24 (.int .i64 (c + 1 : Nat)) w120 (by kernel_rfl) (by kernel_rfl) (by kernel_rfl) ?_
    refine LG.done (by kernel_rfl) ?_
    intro a_ ka
    refine ⟨_, _, ?_, ⟨c + 1, (.slice s111A s111n s111c), h121, rfl, rfl, hs.to _ (by kernel_rfl), hA0, hA1, hA2, hAn, hNr, hAp, hN, hArv, hTrv, hXv, hArw, hTrw, hXw, hYx, hYy, by omega, hg116⟩, ka.to [(5, .int .i64 o_), (12, .bool false), (13, .pointer (some ⟨b7, 0, none⟩)), (14, .int .i64 ((pick i_ 3) + 1 : Nat)), (15, .slice Xv ((rowq zv (pick i_ 3 + 1)).length) cxv), (16, .slice Xw ((rowq zw (pick i_ 3 + 1)).length) cxw), (17, .slice Yx ((outq ls (rowq zv (pick i_ 3 + 1)) ls.length).length) cyx), (18, .int .i64 0), (19, .slice Yy ((outq ls (rowq zw (pick i_ 3 + 1)) ls.length).length) cyy), (20, .int .i64 0), (21, .pointer (some ⟨b36, 0, none⟩)), (24, .int .i64 ((c + 1) : Nat)), (23, (.slice s111A s111n s111c))] (by kernel_rfl)⟩
    omega

end Go.Proofs.YtbhpcpkcjgkcpaaGreatDoor
