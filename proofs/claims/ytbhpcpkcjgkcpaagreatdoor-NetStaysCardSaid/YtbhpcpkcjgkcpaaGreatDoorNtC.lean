/- Contracts of net.suits, forward, Answer, of nets that are well formed. -/
import Derived.Test.YtbhpcpkcjgkcpaaGreatDoorNtB
import Derived.Test.YtbhpcpkcjgkcpaaGreatDoorMod
namespace Go.Proofs.YtbhpcpkcjgkcpaaGreatDoor
open Go.RowKit

set_option maxRecDepth 100000 in
set_option maxHeartbeats 600000 in
theorem nSuits (A : Option Addr) (cap : Nat) (ts : List LV) (ls : List Lay) (d : Nat → Nat) (hO : NetOk ls d) (X : Option Addr) (c0 : Nat) (xs : List Rat) (hx : xs.length = d 0) (w : World) (h : Hp) (g : G w h) (hA : SlO 3 lvc lvd h A ts) (hN : NetL h ts ls) (hX : SlO 5 qc 0 h X xs) :
    Calls Tryz.prog 50 #[.agg #[.slice A ts.length cap], .slice X xs.length c0] w (Ret w h fun v _ => v = .bool true) := by
  have hs := St.start g
  have hl := hN.len
  obtain ⟨o1, o2⟩ := hO.len
  have o3 := hO.first
  refine enter (n := 16) Tryz.func50 rfl rfl (Nat.le_of_ble_eq_true (by kernel_rfl)) [(0, .agg #[.slice A ts.length cap]), (1, .slice X xs.length c0)] rfl ?_
  refine CG.seq ?_
  refine CG.listed ?_
  refine LG.var 2 25 ([.slice A ts.length cap]) hs (by kernel_rfl) (by kernel_rfl) (by kernel_rfl) (fun b1 w2 h3 nb_ u4 hs => ?_)
  replace hA := hA.gw u4.gr.gw
  replace hN := hN.gw u4.gr.gw
  replace hX := hX.gw u4.gr.gw
  refine LG.val 4 (.bool false) w2 (by kernel_rfl) (by kernel_rfl) (by kernel_rfl) ?_
  refine LG.next (by kernel_rfl) ?_
  refine CG.seq ?_
  refine CG.listed ?_
  refine LG.val 5 (.slice X xs.length c0) w2 (by kernel_rfl) (by kernel_rfl) (by kernel_rfl) ?_
  refine LG.val 6 (.int .i64 (xs.length : Nat)) w2 (by kernel_rfl) (by kernel_rfl) (by kernel_rfl) ?_
  refine LG.val 7 (.pointer (some ⟨b1, 0, none⟩)) w2 (by kernel_rfl) (by kernel_rfl) (by kernel_rfl) ?_
  refine LG.own 8 [(0, 0, 1)] (.slice A ts.length cap) hs (by kernel_rfl) (by kernel_rfl) (by kernel_rfl) (by kernel_rfl) ?_
  refine LG.val 9 (.pointer (some ⟨(aB A), aO A + 0 * 3, none⟩)) w2 (by kernel_rfl) (by kernel_rfl) (ixAddr (t := 23) (e := 57) (x := .tmp 8) (ix := .const (.int .i64 0)) (A := A) (len := ts.length) (cap := cap) (sz := 3) (i := 0) 0 (by kernel_rfl) (by kernel_rfl) (by kernel_rfl) (by kernel_rfl) (by kernel_rfl) (hA.ok (by omega)) (by omega) (by omega) _) ?_
  refine LG.val 10 (.pointer (some ⟨(aB A), aO A + 0 * 3 + 1, none⟩)) w2 (by kernel_rfl) (by kernel_rfl) (by kernel_rfl) ?_
  obtain ⟨ekx, ⟨AWx, cWx, usx, eWx, hcWx, hAWx, hUx⟩, ⟨ABx, cBx, eBx, hcBx, hABx⟩⟩ := hN.at_ 0 (by omega)
  obtain ⟨mtx, lbx, r12x, kdx⟩ := hO.lay 0 (by omega)
  have lux := hUx.len; have mrx := mtx.rows; have mpx := mtx.rpos; have mcx := mtx.cpos; have m0x := mtx.row 0 (by omega)
  refine LG.val 11 (.slice AWx usx.length cWx) w2 (by kernel_rfl) (by kernel_rfl) (rval (Seg.run ((hA.el 0 (by omega)).part 1 1) hs.g (Ext.refl _) (by kernel_rfl)) eWx) ?_
  refine LG.val 12 (.pointer (some ⟨(aB AWx), aO AWx + 0 * 1, none⟩)) w2 (by kernel_rfl) (by kernel_rfl) (ixAddr (t := 55) (e := 32) (x := .tmp 11) (ix := .const (.int .i64 0)) (A := AWx) (len := usx.length) (cap := cWx) (sz := 1) (i := 0) 0 (by kernel_rfl) (by kernel_rfl) (by kernel_rfl) (by kernel_rfl) (by kernel_rfl) (hAWx.ok (by omega)) (by omega) (by omega) _) ?_
  obtain ⟨Arp, crp, erp, hcrp, hRrp⟩ := hUx.at_ 0 (by omega)
  refine LG.val 13 (.slice Arp ((((ls.getD 0 lay0).W).getD 0 []).length) crp) w2 (by kernel_rfl) (by kernel_rfl) (rval (Seg.run (hAWx.el 0 (by omega)) hs.g (Ext.refl _) (by kernel_rfl)) erp) ?_
  refine LG.val 14 (.int .i64 ((((ls.getD 0 lay0).W).getD 0 []).length : Nat)) w2 (by kernel_rfl) (by kernel_rfl) (by kernel_rfl) ?_
  have hb5 : (((xs.length : Nat) : Int) == (((((ls.getD 0 lay0).W).getD 0 []).length : Nat) : Int)) = true := beqT (by omega)
  have phb5 := eq_of_beq hb5
  refine LG.val 15 (.bool true) w2 (by kernel_rfl) (by kernel_rfl) (rb (by kernel_rfl) hb5) ?_
  refine LG.val 4 (.bool true) w2 (by kernel_rfl) (by kernel_rfl) (by kernel_rfl) ?_
  refine LG.next (by kernel_rfl) ?_
  refine CG.to [(4, .bool true)] (by kernel_rfl) ?_
  refine CG.ret ?_
  exact retP hs [] (.bool true) (by kernel_rfl) (by kernel_rfl) rfl


/-- What a layer answers; what goes into layer k. -/
def layq (L : Lay) (x : List Rat) : List Rat := (List.range L.W.length).map fun i => act L.k (dotq (L.W.getD i []) x x.length + L.B.getD i 0)
def outq (ls : List Lay) (xs : List Rat) : Nat → List Rat
  | 0 => xs
  | k + 1 => layq (ls.getD k lay0) (outq ls xs k)
theorem outq_len {ls : List Lay} {d : Nat → Nat} (o : NetOk ls d) {xs : List Rat} (hx : xs.length = d 0) (k : Nat) (hk : k ≤ ls.length) : (outq ls xs k).length = d k := by
  cases k with
  | zero => exact hx
  | succ k => show (layq _ _).length = _; unfold layq; rw [List.length_map, List.length_range]; exact (o.lay k (by omega)).1.rows
/-- All numbers on the way through a layer are small. -/
structure LaySm (L : Lay) (x : List Rat) (r c : Nat) : Prop where
  sx : ∀ j, j < c → Sm (x.getD j 0)
  sa : ∀ i j, i < r → j < c → Sm ((L.W.getD i []).getD j 0)
  sp : ∀ i j, i < r → j < c → Sm ((L.W.getD i []).getD j 0 * x.getD j 0)
  sd : ∀ i j, i < r → j ≤ c → Sm (dotq (L.W.getD i []) x j)
  sb : ∀ i, i < r → Sm (L.B.getD i 0)
  ss : ∀ i, i < r → Sm (dotq (L.W.getD i []) x c + L.B.getD i 0)
theorem getD_set_self {l : List Rat} {i : Nat} {x : Rat} (h : i < l.length) : (l.set i x).getD i 0 = x := by
  rw [List.getD_eq_getElem?_getD, List.getElem?_set_self h]; rfl
theorem fstep {pl : List Rat} {f : Nat → Rat} {i : Nat} {x : Rat} (hp : ∀ j, j < i → pl.getD j 0 = f j) (hi : i < pl.length) (hx : x = f i) : ∀ j, j < i + 1 → (pl.set i x).getD j 0 = f j := by
  intro j hj
  by_cases e : j = i
  · subst e; rw [getD_set_self hi, hx]
  · rw [List.getD_eq_getElem?_getD, List.getElem?_set_ne (Ne.symm e), ← List.getD_eq_getElem?_getD]; exact hp j (by omega)
theorem layq_of {pl : List Rat} {L : Lay} {x : List Rat} {i n : Nat} (hp : ∀ j, j < i → pl.getD j 0 = act L.k (dotq (L.W.getD j []) x n + L.B.getD j 0)) (hi : i = L.W.length) (hl : pl.length = L.W.length) (hn : x.length = n) : pl = layq L x := by
  subst hn hi
  unfold layq
  refine List.ext_getElem (by simp [hl]) (fun j h1 h2 => ?_)
  have := hp j (by omega)
  rw [List.getD_eq_getElem?_getD, List.getElem?_eq_getElem h1] at this
  simp only [List.getElem_map, List.getElem_range]
  exact this

set_option maxRecDepth 100000 in
set_option maxHeartbeats 600000 in
theorem nForward (A : Option Addr) (cap : Nat) (ts : List LV) (ls : List Lay) (d : Nat → Nat) (hO : NetOk ls d) (X : Option Addr) (c0 : Nat) (xs : List Rat) (hx : xs.length = d 0) (hc0 : xs.length ≤ c0) (hS : ∀ k, k < ls.length → LaySm (ls.getD k lay0) (outq ls xs k) (d (k + 1)) (d k)) (w : World) (h : Hp) (g : G w h) (hA : SlO 3 lvc lvd h A ts) (hN : NetL h ts ls) (hX : SlO 5 qc 0 h X xs) :
    Calls Tryz.prog 51 #[.agg #[.slice A ts.length cap], .slice X xs.length c0] w (Ret w h fun v h => ∃ s1 s2 Ax cx, v = .agg #[s1, s2, .slice Ax (outq ls xs ls.length).length cx] ∧ (outq ls xs ls.length).length ≤ cx ∧ SlO 5 qc 0 h Ax (outq ls xs ls.length)) := by
  have hs := St.start g
  have hl := hN.len
  obtain ⟨o1, o2⟩ := hO.len
  have o3 := hO.first
  refine enter (n := 84) Tryz.func51 rfl rfl (Nat.le_of_ble_eq_true (by kernel_rfl)) [(0, .agg #[.slice A ts.length cap]), (1, .slice X xs.length c0)] rfl ?_
  refine CG.seq ?_
  refine CG.listed ?_
  refine LG.var 2 25 ([.slice A ts.length cap]) hs (by kernel_rfl) (by kernel_rfl) (by kernel_rfl) (fun b1 w2 h3 nb_ u4 hs => ?_)
  replace hA := hA.gw u4.gr.gw
  replace hN := hN.gw u4.gr.gw
  replace hX := hX.gw u4.gr.gw
  refine LG.var 4 112 ([.slice none 0 0, .slice none 0 0, .slice none 0 0]) hs (by kernel_rfl) (by kernel_rfl) (by kernel_rfl) (fun b5 w6 h7 nb_ u8 hs => ?_)
  replace hA := hA.gw u8.gr.gw
  replace hN := hN.gw u8.gr.gw
  replace hX := hX.gw u8.gr.gw
  refine LG.next (by kernel_rfl) ?_
  refine CG.seq ?_
  refine CG.listed ?_
  refine LG.val 14 (.slice X xs.length c0) w6 (by kernel_rfl) (by kernel_rfl) (by kernel_rfl) ?_
  refine LG.val 15 (.agg #[.slice none 0 0, .slice none 0 0, .slice X xs.length c0]) w6 (by kernel_rfl) (by kernel_rfl) (by kernel_rfl) ?_
  refine LG.var 5 112 ([.slice none 0 0, .slice none 0 0, .slice none 0 0]) hs (by kernel_rfl) (by kernel_rfl) (by kernel_rfl) (fun b9 w10 h11 nb_ u12 hs => ?_)
  replace hA := hA.gw u12.gr.gw
  replace hN := hN.gw u12.gr.gw
  replace hX := hX.gw u12.gr.gw
  refine LG.put 0 0 ([.slice none 0 0, .slice none 0 0, .slice X xs.length c0]) hs g (by kernel_rfl) (by kernel_rfl) (by kernel_rfl) (by kernel_rfl) (fun w13 pu hs => ?_)
  refine LG.next (by kernel_rfl) ?_
  refine CG.seq ?_
  refine CG.seq ?_
  refine CG.listed ?_
  refine LG.val 16 (.pointer (some ⟨b1, 0, none⟩)) w13 (by kernel_rfl) (by kernel_rfl) (by kernel_rfl) ?_
  refine LG.own 17 [(2, 0, 1)] (.slice A ts.length cap) hs (by kernel_rfl) (by kernel_rfl) (by kernel_rfl) (by kernel_rfl) ?_
  refine LG.val 18 (.int .i64 (ts.length : Nat)) w13 (by kernel_rfl) (by kernel_rfl) (by kernel_rfl) ?_
  refine LG.val 19 (.int .i64 0) w13 (by kernel_rfl) (by kernel_rfl) (by kernel_rfl) ?_
  refine LG.next (by kernel_rfl) ?_
  refine CG.block ?_
  refine CG.to [(4, .pointer (some ⟨b5, 0, none⟩)), (5, .pointer (some ⟨b9, 0, none⟩)), (17, .slice A ts.length cap), (18, .int .i64 (ts.length : Nat)), (19, .int .i64 0)] (by kernel_rfl) ?_
  refine CG.loop (fun μ_ Γ w_ => ∃ (k : Nat) (s1 : Value) (s2 : Value) (l1 : List Value) (l2 : List Value) (Ax : Option Addr) (cx : Nat) (h_ : Hp), μ_ = ls.length - k ∧ Γ = [(4, .pointer (some ⟨b5, 0, none⟩)), (5, .pointer (some ⟨b9, 0, none⟩)), (17, .slice A ts.length cap), (18, .int .i64 (ts.length : Nat)), (19, .int .i64 (k : Nat))] ∧ St w h w_ h_ [⟨b9, 112, [s1, s2, .slice Ax ((outq ls xs k).length) cx]⟩, ⟨b5, 112, [.slice none 0 0, .slice none 0 0, .slice none 0 0]⟩, ⟨b1, 25, [.slice A ts.length cap]⟩] ∧ (SlO 3 lvc lvd h_ A ts) ∧ (NetL h_ ts ls) ∧ (SlO 5 qc 0 h_ X xs) ∧ (k ≤ ls.length) ∧ (l1.length = k) ∧ (l2.length = k) ∧ ((outq ls xs k).length ≤ cx) ∧ (Apart s1 s2) ∧ (SlO 5 qc 0 h_ Ax (outq ls xs k)) ∧ (Gro h [b9, b5, b1] w_ h_ 32 1 s1 ((l1).length) ((l1).flatMap vc)) ∧ (Gro h [b9, b5, b1] w_ h_ 32 1 s2 ((l2).length) ((l2).flatMap vc))) _ ⟨0, (.slice none 0 0), (.slice none 0 0), [], [], X, c0, h11, rfl, rfl, hs.to _ (by kernel_rfl), hA, hN, hX, Nat.zero_le _, rfl, rfl, hc0, Apart.nil, hX, Gro.nil, Gro.nil⟩ ?_
  rintro _ _ w14 ⟨k, s1, s2, l1, l2, Ax, cx, h15, hm16, rfl, hs, hA, hN, hX, hk, hl1, hl2, hcx, hap, hXk, hg1, hg2⟩
  have hlx := outq_len hO hx k (by omega)
  have hsm := fun h0 => hO.small k h0
  -- round
  refine CG.seq ?_
  refine CG.listed ?_
  cases hb17 : (decide (((k : Nat) : Int) < ((ts.length : Nat) : Int)))
  ·
    have phb17 := of_decide_eq_false hb17
    refine LG.val 20 (.bool false) w14 (by kernel_rfl) (by kernel_rfl) (rb (by kernel_rfl) hb17) ?_
    refine LG.next (by kernel_rfl) ?_
    refine CG.seq ?_
    refine CG.condF (by kernel_rfl) (by kernel_rfl) ?_
    refine CG.exit ?_
    show CG _ _ _ _ _ _ _ _
    refine CG.seq ?_
    refine CG.listed ?_
    obtain ⟨a1, n1, c1, rfl⟩ := hg1.sl
    obtain ⟨a2, n2, c2, rfl⟩ := hg2.sl
    refine LG.own 83 [(0, 0, 3)] (.agg #[.slice a1 n1 c1, .slice a2 n2 c2, .slice Ax ((outq ls xs k).length) cx]) hs (by kernel_rfl) (by kernel_rfl) (by kernel_rfl) (by kernel_rfl) ?_
    refine LG.put 1 0 ([.slice a1 n1 c1, .slice a2 n2 c2, .slice Ax ((outq ls xs k).length) cx]) hs g (by kernel_rfl) (by kernel_rfl) (by kernel_rfl) (by kernel_rfl) (fun w18 pu hs => ?_)
    refine LG.next (by kernel_rfl) ?_
    refine CG.ret ?_
    have hkn : k = ls.length := by omega
    subst hkn
    exact retP hs [(1, 0, 3)] (.agg #[.slice a1 n1 c1, .slice a2 n2 c2, .slice Ax ((outq ls xs ls.length).length) cx]) (by kernel_rfl) (by kernel_rfl) ⟨_, _, _, _, rfl, hcx, hXk⟩
  ·
    have phb17 := of_decide_eq_true hb17
    refine LG.val 20 (.bool true) w14 (by kernel_rfl) (by kernel_rfl) (rb (by kernel_rfl) hb17) ?_
    refine LG.next (by kernel_rfl) ?_
    refine CG.seq ?_
    refine CG.condT (by kernel_rfl) (by kernel_rfl) ?_
    refine CG.skipN ?_
    refine CG.seq ?_
    refine CG.block ?_
    refine CG.seq ?_
    refine CG.listed ?_
    refine LG.val 21 (.pointer (some ⟨(aB A), aO A + k * 3, none⟩)) w14 (by kernel_rfl) (by kernel_rfl) (ixAddr (t := 23) (e := 57) (x := .tmp 17) (ix := .tmp 19) (A := A) (len := ts.length) (cap := cap) (sz := 3) (i := (k : Nat)) k (by kernel_rfl) (by kernel_rfl) (by kernel_rfl) (by kernel_rfl) (by kernel_rfl) (hA.ok (by omega)) (by omega) (by omega) _) ?_
    obtain ⟨ekx, ⟨AWx, cWx, usx, eWx, hcWx, hAWx, hUx⟩, ⟨ABx, cBx, eBx, hcBx, hABx⟩⟩ := hN.at_ k (by omega)
    obtain ⟨mtx, lbx, r12x, kdx⟩ := hO.lay k (by omega)
    have lux := hUx.len; have mrx := mtx.rows; have mpx := mtx.rpos; have mcx := mtx.cpos; have m0x := mtx.row 0 (by omega)
    refine LG.val 22 (.agg #[.int .i64 ((ls.getD k lay0).k), .slice AWx usx.length cWx, .slice ABx ((ls.getD k lay0).B.length) cBx]) w14 (by kernel_rfl) (by kernel_rfl) (rval (v := .agg #[.int .i64 ((ts.getD k lvd).1), (ts.getD k lvd).2.1, (ts.getD k lvd).2.2]) (Seg.run (hA.el k (by omega)) hs.g (Ext.refl _) (by kernel_rfl)) (by rw [ekx, eWx, eBx])) ?_
    refine LG.var 7 57 ([.int .i64 0, .slice none 0 0, .slice none 0 0]) hs (by kernel_rfl) (by kernel_rfl) (by kernel_rfl) (fun b19 w20 h21 nb_ u22 hs => ?_)
    replace hg1 := (hg1.up u22).new b19 (fun c hc e => Nat.lt_irrefl c (Nat.lt_of_lt_of_le (hg1.lt hc) (by rw [e]; exact nb_)))
    replace hg2 := (hg2.up u22).new b19 (fun c hc e => Nat.lt_irrefl c (Nat.lt_of_lt_of_le (hg2.lt hc) (by rw [e]; exact nb_)))
    replace hA := hA.gw u22.gr.gw
    replace hN := hN.gw u22.gr.gw
    replace hX := hX.gw u22.gr.gw
    replace hXk := hXk.gw u22.gr.gw
    replace hAWx := hAWx.gw u22.gr.gw
    replace hUx := hUx.gw u22.gr.gw
    replace hABx := hABx.gw u22.gr.gw
    refine LG.put 0 0 ([.int .i64 ((ls.getD k lay0).k), .slice AWx usx.length cWx, .slice ABx ((ls.getD k lay0).B.length) cBx]) hs g (by kernel_rfl) (by kernel_rfl) (by kernel_rfl) (by kernel_rfl) (fun w23 pu hs => ?_)
    replace hg1 := hg1.put pu (by simp [bxAt])
    replace hg2 := hg2.put pu (by simp [bxAt])
    replace hs := hs.to [⟨b19, 57, [.int .i64 ((ls.getD k lay0).k), .slice AWx usx.length cWx, .slice ABx ((ls.getD k lay0).B.length) cBx]⟩, ⟨b9, 112, [s1, s2, .slice Ax ((outq ls xs k).length) cx]⟩, ⟨b5, 112, [.slice none 0 0, .slice none 0 0, .slice none 0 0]⟩, ⟨b1, 25, [.slice A ts.length cap]⟩] (by kernel_rfl)
    refine LG.next (by kernel_rfl) ?_
    refine CG.seq ?_
    refine CG.listed ?_
    refine LG.val 23 (.pointer (some ⟨b19, 1, none⟩)) w23 (by kernel_rfl) (by kernel_rfl) (by kernel_rfl) ?_
    refine LG.own 24 [(0, 1, 1)] (.slice AWx usx.length cWx) hs (by kernel_rfl) (by kernel_rfl) (by kernel_rfl) (by kernel_rfl) ?_
    refine LG.val 25 (.int .i64 (usx.length : Nat)) w23 (by kernel_rfl) (by kernel_rfl) (by kernel_rfl) ?_
    refine LG.arr 26 45 usx.length ((List.replicate usx.length 0).flatMap qc) hs (by kernel_rfl) (by kernel_rfl) (mkSl (t := 32) (e := 45) (x := .tmp 25) (y := .tmp 25) (z := .agg #[.bool false, .int .u64 0, .string (⟨#[]⟩), .int .u64 0, .string (⟨#[]⟩)]) (m := usx.length) (sz := 5) (bt := 56) (by kernel_rfl) (by kernel_rfl) (by kernel_rfl) (by kernel_rfl) (by kernel_rfl) (by kernel_rfl) (by kernel_rfl) (by decide) (by omega) (by omega) _) (fun b24 w25 h26 nb_ u27 hs => ?_)
    replace hg1 := (hg1.up u27).new b24 (fun c hc e => Nat.lt_irrefl c (Nat.lt_of_lt_of_le (hg1.lt hc) (by rw [e]; exact nb_)))
    replace hg2 := (hg2.up u27).new b24 (fun c hc e => Nat.lt_irrefl c (Nat.lt_of_lt_of_le (hg2.lt hc) (by rw [e]; exact nb_)))
    replace hA := hA.gw u27.gr.gw
    replace hN := hN.gw u27.gr.gw
    replace hX := hX.gw u27.gr.gw
    replace hXk := hXk.gw u27.gr.gw
    replace hAWx := hAWx.gw u27.gr.gw
    replace hUx := hUx.gw u27.gr.gw
    replace hABx := hABx.gw u27.gr.gw
    have hl28 : (List.replicate usx.length 0).length = usx.length := by simp
    refine LG.val 8 (.slice (some ⟨b24, 0, none⟩) usx.length usx.length) w25 (by kernel_rfl) (by kernel_rfl) (by kernel_rfl) ?_
    refine LG.next (by kernel_rfl) ?_
    refine CG.to [(4, .pointer (some ⟨b5, 0, none⟩)), (5, .pointer (some ⟨b9, 0, none⟩)), (17, .slice A ts.length cap), (18, .int .i64 (ts.length : Nat)), (19, .int .i64 (k : Nat)), (7, .pointer (some ⟨b19, 0, none⟩)), (8, .slice (some ⟨b24, 0, none⟩) usx.length usx.length)] (by kernel_rfl) ?_
    refine CG.seq ?_
    refine CG.listed ?_
    refine LG.val 27 (.pointer (some ⟨b19, 1, none⟩)) w25 (by kernel_rfl) (by kernel_rfl) (by kernel_rfl) ?_
    refine LG.own 28 [(1, 1, 1)] (.slice AWx usx.length cWx) hs (by kernel_rfl) (by kernel_rfl) (by kernel_rfl) (by kernel_rfl) ?_
    refine LG.val 29 (.int .i64 (usx.length : Nat)) w25 (by kernel_rfl) (by kernel_rfl) (by kernel_rfl) ?_
    refine LG.arr 30 45 usx.length ((List.replicate usx.length 0).flatMap qc) hs (by kernel_rfl) (by kernel_rfl) (mkSl (t := 32) (e := 45) (x := .tmp 29) (y := .tmp 29) (z := .agg #[.bool false, .int .u64 0, .string (⟨#[]⟩), .int .u64 0, .string (⟨#[]⟩)]) (m := usx.length) (sz := 5) (bt := 56) (by kernel_rfl) (by kernel_rfl) (by kernel_rfl) (by kernel_rfl) (by kernel_rfl) (by kernel_rfl) (by kernel_rfl) (by decide) (by omega) (by omega) _) (fun b29 w30 h31 nb_ u32 hs => ?_)
    replace hg1 := (hg1.up u32).new b29 (fun c hc e => Nat.lt_irrefl c (Nat.lt_of_lt_of_le (hg1.lt hc) (by rw [e]; exact nb_)))
    replace hg2 := (hg2.up u32).new b29 (fun c hc e => Nat.lt_irrefl c (Nat.lt_of_lt_of_le (hg2.lt hc) (by rw [e]; exact nb_)))
    replace hA := hA.gw u32.gr.gw
    replace hN := hN.gw u32.gr.gw
    replace hX := hX.gw u32.gr.gw
    replace hXk := hXk.gw u32.gr.gw
    replace hAWx := hAWx.gw u32.gr.gw
    replace hUx := hUx.gw u32.gr.gw
    replace hABx := hABx.gw u32.gr.gw
    have hl33 : (List.replicate usx.length 0).length = usx.length := by simp
    refine LG.val 9 (.slice (some ⟨b29, 0, none⟩) usx.length usx.length) w30 (by kernel_rfl) (by kernel_rfl) (by kernel_rfl) ?_
    refine LG.next (by kernel_rfl) ?_
    refine CG.seq ?_
    refine CG.seq ?_
    refine CG.listed ?_
    refine LG.val 31 (.pointer (some ⟨b19, 1, none⟩)) w30 (by kernel_rfl) (by kernel_rfl) (by kernel_rfl) ?_
    refine LG.own 32 [(2, 1, 1)] (.slice AWx usx.length cWx) hs (by kernel_rfl) (by kernel_rfl) (by kernel_rfl) (by kernel_rfl) ?_
    refine LG.val 33 (.int .i64 (usx.length : Nat)) w30 (by kernel_rfl) (by kernel_rfl) (by kernel_rfl) ?_
    refine LG.val 34 (.int .i64 0) w30 (by kernel_rfl) (by kernel_rfl) (by kernel_rfl) ?_
    refine LG.next (by kernel_rfl) ?_
    refine CG.to [(4, .pointer (some ⟨b5, 0, none⟩)), (5, .pointer (some ⟨b9, 0, none⟩)), (17, .slice A ts.length cap), (18, .int .i64 (ts.length : Nat)), (19, .int .i64 (k : Nat)), (7, .pointer (some ⟨b19, 0, none⟩)), (8, .slice (some ⟨b24, 0, none⟩) usx.length usx.length), (9, .slice (some ⟨b29, 0, none⟩) usx.length usx.length), (32, .slice AWx usx.length cWx), (33, .int .i64 (usx.length : Nat)), (34, .int .i64 0)] (by kernel_rfl) ?_
    refine CG.block ?_
    refine CG.to [(4, .pointer (some ⟨b5, 0, none⟩)), (5, .pointer (some ⟨b9, 0, none⟩)), (17, .slice A ts.length cap), (18, .int .i64 (ts.length : Nat)), (19, .int .i64 (k : Nat)), (7, .pointer (some ⟨b19, 0, none⟩)), (8, .slice (some ⟨b24, 0, none⟩) usx.length usx.length), (9, .slice (some ⟨b29, 0, none⟩) usx.length usx.length), (32, .slice AWx usx.length cWx), (33, .int .i64 (usx.length : Nat)), (34, .int .i64 0)] (by kernel_rfl) ?_
    have hS_ := hS k (by omega)
    refine CG.loop (fun μ_ Γ w_ => ∃ (i : Nat) (ql : List Rat) (pl : List Rat) (h_ : Hp), μ_ = usx.length - i ∧ Γ = [(4, .pointer (some ⟨b5, 0, none⟩)), (5, .pointer (some ⟨b9, 0, none⟩)), (17, .slice A ts.length cap), (18, .int .i64 (ts.length : Nat)), (19, .int .i64 (k : Nat)), (7, .pointer (some ⟨b19, 0, none⟩)), (8, .slice (some ⟨b24, 0, none⟩) usx.length usx.length), (9, .slice (some ⟨b29, 0, none⟩) usx.length usx.length), (32, .slice AWx usx.length cWx), (33, .int .i64 (usx.length : Nat)), (34, .int .i64 (i : Nat))] ∧ St w h w_ h_ [⟨b29, 45, (pl).flatMap qc⟩, ⟨b24, 45, (ql).flatMap qc⟩, ⟨b19, 57, [.int .i64 ((ls.getD k lay0).k), .slice AWx usx.length cWx, .slice ABx ((ls.getD k lay0).B.length) cBx]⟩, ⟨b9, 112, [s1, s2, .slice Ax ((outq ls xs k).length) cx]⟩, ⟨b5, 112, [.slice none 0 0, .slice none 0 0, .slice none 0 0]⟩, ⟨b1, 25, [.slice A ts.length cap]⟩] ∧ (SlO 3 lvc lvd h_ A ts) ∧ (NetL h_ ts ls) ∧ (SlO 5 qc 0 h_ X xs) ∧ (SlO 5 qc 0 h_ Ax (outq ls xs k)) ∧ (SlO 1 vc undef h_ AWx usx) ∧ (QVs h_ usx (ls.getD k lay0).W) ∧ (SlO 5 qc 0 h_ ABx (ls.getD k lay0).B) ∧ (Gro h [b29, b24, b19, b9, b5, b1] w_ h_ 32 1 s1 ((l1).length) ((l1).flatMap vc)) ∧ (Gro h [b29, b24, b19, b9, b5, b1] w_ h_ 32 1 s2 ((l2).length) ((l2).flatMap vc)) ∧ (i ≤ usx.length) ∧ (ql.length = usx.length) ∧ (pl.length = usx.length) ∧ (∀ j, j < i → pl.getD j 0 = act (ls.getD k lay0).k (dotq ((ls.getD k lay0).W.getD j []) (outq ls xs k) (d k) + (ls.getD k lay0).B.getD j 0))) _ ⟨0, List.replicate usx.length 0, List.replicate usx.length 0, h31, rfl, rfl, hs.to _ (by kernel_rfl), hA, hN, hX, hXk, hAWx, hUx, hABx, hg1, hg2, Nat.zero_le _, by simp, by simp, fun j hj => absurd hj (Nat.not_lt_zero j)⟩ ?_
    rintro _ _ w34 ⟨i, ql, pl, h35, hm36, rfl, hs, hA, hN, hX, hXk, hAWx, hUx, hABx, hg1, hg2, hi, hlq, hlp, hp⟩
    -- round
    refine CG.seq ?_
    refine CG.listed ?_
    cases hb37 : (decide (((i : Nat) : Int) < ((usx.length : Nat) : Int)))
    ·
      have phb37 := of_decide_eq_false hb37
      refine LG.val 35 (.bool false) w34 (by kernel_rfl) (by kernel_rfl) (rb (by kernel_rfl) hb37) ?_
      refine LG.next (by kernel_rfl) ?_
      refine CG.seq ?_
      refine CG.condF (by kernel_rfl) (by kernel_rfl) ?_
      refine CG.exit ?_
      show CG _ _ _ _ _ _ _ _
      refine CG.seq ?_
      refine CG.listed ?_
      refine LG.val 67 (.pointer (some ⟨b9, 0, none⟩)) w34 (by kernel_rfl) (by kernel_rfl) (by kernel_rfl) ?_
      refine LG.own 68 [(3, 0, 1)] (s1) hs (by kernel_rfl) (by kernel_rfl) (by kernel_rfl) (by kernel_rfl) ?_
      refine LG.val 69 (.pointer (some ⟨b9, 2, none⟩)) w34 (by kernel_rfl) (by kernel_rfl) (by kernel_rfl) ?_
      refine LG.own 70 [(3, 2, 1)] (.slice Ax ((outq ls xs k).length) cx) hs (by kernel_rfl) (by kernel_rfl) (by kernel_rfl) (by kernel_rfl) ?_
      refine LG.row 71 32 1 ([.slice Ax ((outq ls xs k).length) cx]) hs.g (by kernel_rfl) (by kernel_rfl) (by kernel_rfl) (fun b38 w39 h40 u41 hS42 => ?_)
      replace hs := hs.step u41
      replace hg1 := hg1.up u41
      replace hg2 := hg2.up u41
      replace hA := hA.gw u41.gr.gw
      replace hN := hN.gw u41.gr.gw
      replace hX := hX.gw u41.gr.gw
      replace hXk := hXk.gw u41.gr.gw
      replace hAWx := hAWx.gw u41.gr.gw
      replace hUx := hUx.gw u41.gr.gw
      replace hABx := hABx.gw u41.gr.gw
      refine LG.app 72 (x := .tmp 68) (y := .tmp 71) (ty := 55) (e := 32) (z := .slice none 0 0) (sz := 1) (bt := 24) (m := ((l1).length)) (m2 := 1) (c := 1) (b := b38) (v := s1) (cs := (l1).flatMap vc) (news := [.slice Ax ((outq ls xs k).length) cx]) hs g hg1 hS42 (by kernel_rfl) (by kernel_rfl) (by kernel_rfl) (by kernel_rfl) (by kernel_rfl) (by kernel_rfl) (by kernel_rfl) (by kernel_rfl) (by decide) (by kernel_rfl) (by kernel_rfl) (by omega) (by omega) (fun s43 w44 h45 gr46 gg47 hl_ hs hg48 => ?_)
      obtain ⟨s43A, s43n, s43c, rfl⟩ := hg48.sl
      replace hA := hA.gw gr46.gw
      replace hN := hN.gw gr46.gw
      replace hX := hX.gw gr46.gw
      replace hXk := hXk.gw gr46.gw
      replace hAWx := hAWx.gw gr46.gw
      replace hUx := hUx.gw gr46.gw
      replace hABx := hABx.gw gr46.gw
      replace hS42 := hS42.gw gr46.gw
      have ap52 := Apart.grown (w := w39) hap hl_ (fun b hb => own_lt hg2.own hb)
      replace hg2 := hg2.app gg47 gr46 hap.symm
      replace hg48 := Gro.snoc (l := l1) (f := vc) (x := (.slice Ax ((outq ls xs k).length) cx : Value)) hg48 (by kernel_rfl)
      refine LG.val 73 (.pointer (some ⟨b9, 0, none⟩)) w44 (by kernel_rfl) (by kernel_rfl) (by kernel_rfl) ?_
      refine LG.put 3 0 ([(.slice s43A s43n s43c)]) hs g (by kernel_rfl) (by kernel_rfl) (by kernel_rfl) (by kernel_rfl) (fun w53 pu hs => ?_)
      replace hg2 := hg2.put pu (by simp [bxAt])
      replace hg48 := hg48.put pu (by simp [bxAt])
      replace hs := hs.to [⟨b29, 45, (pl).flatMap qc⟩, ⟨b24, 45, (ql).flatMap qc⟩, ⟨b19, 57, [.int .i64 ((ls.getD k lay0).k), .slice AWx usx.length cWx, .slice ABx ((ls.getD k lay0).B.length) cBx]⟩, ⟨b9, 112, [(.slice s43A s43n s43c), s2, .slice Ax ((outq ls xs k).length) cx]⟩, ⟨b5, 112, [.slice none 0 0, .slice none 0 0, .slice none 0 0]⟩, ⟨b1, 25, [.slice A ts.length cap]⟩] (by kernel_rfl)
      refine LG.next (by kernel_rfl) ?_
      refine CG.to [(4, .pointer (some ⟨b5, 0, none⟩)), (5, .pointer (some ⟨b9, 0, none⟩)), (17, .slice A ts.length cap), (18, .int .i64 (ts.length : Nat)), (19, .int .i64 (k : Nat)), (8, .slice (some ⟨b24, 0, none⟩) usx.length usx.length), (9, .slice (some ⟨b29, 0, none⟩) usx.length usx.length)] (by kernel_rfl) ?_
      refine CG.seq ?_
      refine CG.listed ?_
      refine LG.val 74 (.pointer (some ⟨b9, 1, none⟩)) w53 (by kernel_rfl) (by kernel_rfl) (by kernel_rfl) ?_
      refine LG.own 75 [(3, 1, 1)] (s2) hs (by kernel_rfl) (by kernel_rfl) (by kernel_rfl) (by kernel_rfl) ?_
      refine LG.val 76 (.slice (some ⟨b24, 0, none⟩) usx.length usx.length) w53 (by kernel_rfl) (by kernel_rfl) (by kernel_rfl) ?_
      refine LG.row 77 32 1 ([.slice (some ⟨b24, 0, none⟩) usx.length usx.length]) hs.g (by kernel_rfl) (by kernel_rfl) (by kernel_rfl) (fun b54 w55 h56 u57 hS58 => ?_)
      replace hs := hs.step u57
      replace hg2 := hg2.up u57
      replace hg48 := hg48.up u57
      replace hA := hA.gw u57.gr.gw
      replace hN := hN.gw u57.gr.gw
      replace hX := hX.gw u57.gr.gw
      replace hXk := hXk.gw u57.gr.gw
      replace hAWx := hAWx.gw u57.gr.gw
      replace hUx := hUx.gw u57.gr.gw
      replace hABx := hABx.gw u57.gr.gw
      replace hS42 := hS42.gw u57.gr.gw
      refine LG.app 78 (x := .tmp 75) (y := .tmp 77) (ty := 55) (e := 32) (z := .slice none 0 0) (sz := 1) (bt := 24) (m := ((l2).length)) (m2 := 1) (c := 1) (b := b54) (v := s2) (cs := (l2).flatMap vc) (news := [.slice (some ⟨b24, 0, none⟩) usx.length usx.length]) hs g hg2 hS58 (by kernel_rfl) (by kernel_rfl) (by kernel_rfl) (by kernel_rfl) (by kernel_rfl) (by kernel_rfl) (by kernel_rfl) (by kernel_rfl) (by decide) (by kernel_rfl) (by kernel_rfl) (by omega) (by omega) (fun s59 w60 h61 gr62 gg63 hl_ hs hg64 => ?_)
      obtain ⟨s59A, s59n, s59c, rfl⟩ := hg64.sl
      replace hA := hA.gw gr62.gw
      replace hN := hN.gw gr62.gw
      replace hX := hX.gw gr62.gw
      replace hXk := hXk.gw gr62.gw
      replace hAWx := hAWx.gw gr62.gw
      replace hUx := hUx.gw gr62.gw
      replace hABx := hABx.gw gr62.gw
      replace hS42 := hS42.gw gr62.gw
      replace hS58 := hS58.gw gr62.gw
      have ap68 := Apart.grown (w := w55) ap52.symm hl_ (fun b hb => own_lt hg48.own hb)
      replace hg48 := hg48.app gg63 gr62 ap52.symm.symm
      replace hg64 := Gro.snoc (l := l2) (f := vc) (x := (.slice (some ⟨b24, 0, none⟩) usx.length usx.length : Value)) hg64 (by kernel_rfl)
      refine LG.val 79 (.pointer (some ⟨b9, 1, none⟩)) w60 (by kernel_rfl) (by kernel_rfl) (by kernel_rfl) ?_
      refine LG.put 3 1 ([(.slice s59A s59n s59c)]) hs g (by kernel_rfl) (by kernel_rfl) (by kernel_rfl) (by kernel_rfl) (fun w69 pu hs => ?_)
      replace hg48 := hg48.put pu (by simp [bxAt])
      replace hg64 := hg64.put pu (by simp [bxAt])
      replace hs := hs.to [⟨b29, 45, (pl).flatMap qc⟩, ⟨b24, 45, (ql).flatMap qc⟩, ⟨b19, 57, [.int .i64 ((ls.getD k lay0).k), .slice AWx usx.length cWx, .slice ABx ((ls.getD k lay0).B.length) cBx]⟩, ⟨b9, 112, [(.slice s43A s43n s43c), (.slice s59A s59n s59c), .slice Ax ((outq ls xs k).length) cx]⟩, ⟨b5, 112, [.slice none 0 0, .slice none 0 0, .slice none 0 0]⟩, ⟨b1, 25, [.slice A ts.length cap]⟩] (by kernel_rfl)
      refine LG.next (by kernel_rfl) ?_
      refine CG.to [(4, .pointer (some ⟨b5, 0, none⟩)), (5, .pointer (some ⟨b9, 0, none⟩)), (17, .slice A ts.length cap), (18, .int .i64 (ts.length : Nat)), (19, .int .i64 (k : Nat)), (9, .slice (some ⟨b29, 0, none⟩) usx.length usx.length)] (by kernel_rfl) ?_
      refine CG.listed ?_
      obtain ⟨h70, hs, pw71, sg72, oth74⟩ := hs.pub 0 (Nat.le_of_ble_eq_true (by kernel_rfl))
      replace hg48 := (hg48.out (by simp [bxAt]) oth74).sub [b24, b19, b9, b5, b1] (by simp)
      replace hg64 := (hg64.out (by simp [bxAt]) oth74).sub [b24, b19, b9, b5, b1] (by simp)
      replace hA := hA.gw pw71
      replace hN := hN.gw pw71
      replace hX := hX.gw pw71
      replace hXk := hXk.gw pw71
      replace hAWx := hAWx.gw pw71
      replace hUx := hUx.gw pw71
      replace hABx := hABx.gw pw71
      replace hS42 := hS42.gw pw71
      replace hS58 := hS58.gw pw71
      replace hs := hs.to [⟨b24, 45, (ql).flatMap qc⟩, ⟨b19, 57, [.int .i64 ((ls.getD k lay0).k), .slice AWx usx.length cWx, .slice ABx ((ls.getD k lay0).B.length) cBx]⟩, ⟨b9, 112, [(.slice s43A s43n s43c), (.slice s59A s59n s59c), .slice Ax ((outq ls xs k).length) cx]⟩, ⟨b5, 112, [.slice none 0 0, .slice none 0 0, .slice none 0 0]⟩, ⟨b1, 25, [.slice A ts.length cap]⟩] (by kernel_rfl)
      have hA73 : SlO 5 qc 0 h70 (some ⟨b29, 0, none⟩) (pl) := SlO.of_flat (fun _ => rfl) sg72
      have hpl : pl = outq ls xs (k + 1) := layq_of hp (by omega) (by omega) hlx
      have hll : usx.length = (outq ls xs (k + 1)).length := by rw [← hpl]; omega
      replace hA73 : SlO 5 qc 0 h70 (some ⟨b29, 0, none⟩) (outq ls xs (k + 1)) := hpl ▸ hA73
      refine LG.val 80 (.slice (some ⟨b29, 0, none⟩) ((outq ls xs (k + 1)).length) usx.length) w69 (by kernel_rfl) (by kernel_rfl) (rval (by kernel_rfl) (by rw [← hll])) ?_
      refine LG.val 81 (.pointer (some ⟨b9, 2, none⟩)) w69 (by kernel_rfl) (by kernel_rfl) (by kernel_rfl) ?_
      refine LG.put 2 2 ([.slice (some ⟨b29, 0, none⟩) ((outq ls xs (k + 1)).length) usx.length]) hs g (by kernel_rfl) (by kernel_rfl) (by kernel_rfl) (by kernel_rfl) (fun w75 pu hs => ?_)
      replace hg48 := hg48.put pu (by simp [bxAt])
      replace hg64 := hg64.put pu (by simp [bxAt])
      replace hs := hs.to [⟨b24, 45, (ql).flatMap qc⟩, ⟨b19, 57, [.int .i64 ((ls.getD k lay0).k), .slice AWx usx.length cWx, .slice ABx ((ls.getD k lay0).B.length) cBx]⟩, ⟨b9, 112, [(.slice s43A s43n s43c), (.slice s59A s59n s59c), .slice (some ⟨b29, 0, none⟩) ((outq ls xs (k + 1)).length) usx.length]⟩, ⟨b5, 112, [.slice none 0 0, .slice none 0 0, .slice none 0 0]⟩, ⟨b1, 25, [.slice A ts.length cap]⟩] (by kernel_rfl)
      refine LG.next (by kernel_rfl) ?_
      refine CG.listed ?_
      refine LG.val 82 (.int .i64 (k + 1 : Nat)) w75 (by kernel_rfl) (by kernel_rfl) (rint (ri64 (n := (k : Nat) + 1) (by kernel_rfl) (by omega) (by omega)) (by omega)) ?_
      refine LG.val 19 (.int .i64 (k + 1 : Nat)) w75 (by kernel_rfl) (by kernel_rfl) (by kernel_rfl) ?_
      refine LG.done (by kernel_rfl) ?_
      intro a_ ka
      replace hs := hs.drop 2
      replace hg48 := hg48.sub [b9, b5, b1] (by simp)
      replace hg64 := hg64.sub [b9, b5, b1] (by simp)
      refine ⟨_, _, ?_, ⟨k + 1, (.slice s43A s43n s43c), (.slice s59A s59n s59c), l1 ++ [(.slice Ax ((outq ls xs k).length) cx : Value)], l2 ++ [(.slice (some ⟨b24, 0, none⟩) usx.length usx.length : Value)], some ⟨b29, 0, none⟩, usx.length, h70, rfl, rfl, hs.to _ (by kernel_rfl), hA, hN, hX, by omega, by simp; omega, by simp; omega, by omega, ap68.symm, hA73, hg48, hg64⟩, ka.to [(4, .pointer (some ⟨b5, 0, none⟩)), (5, .pointer (some ⟨b9, 0, none⟩)), (17, .slice A ts.length cap), (18, .int .i64 (ts.length : Nat)), (19, .int .i64 ((k + 1) : Nat))] (by kernel_rfl)⟩
      omega
    ·
      have phb37 := of_decide_eq_true hb37
      refine LG.val 35 (.bool true) w34 (by kernel_rfl) (by kernel_rfl) (rb (by kernel_rfl) hb37) ?_
      refine LG.next (by kernel_rfl) ?_
      refine CG.seq ?_
      refine CG.condT (by kernel_rfl) (by kernel_rfl) ?_
      refine CG.skipN ?_
      refine CG.seq ?_
      refine CG.block ?_
      refine CG.seq ?_
      refine CG.listed ?_
      refine LG.val 36 (.int .i64 (i : Nat)) w34 (by kernel_rfl) (by kernel_rfl) (by kernel_rfl) ?_
      refine LG.val 37 (.pointer (some ⟨(aB AWx), aO AWx + i * 1, none⟩)) w34 (by kernel_rfl) (by kernel_rfl) (ixAddr (t := 55) (e := 32) (x := .tmp 32) (ix := .tmp 34) (A := AWx) (len := usx.length) (cap := cWx) (sz := 1) (i := (i : Nat)) i (by kernel_rfl) (by kernel_rfl) (by kernel_rfl) (by kernel_rfl) (by kernel_rfl) (hAWx.ok (by omega)) (by omega) (by omega) _) ?_
      obtain ⟨Arp, crp, erp, hcrp, hRrp⟩ := hUx.at_ i (by omega)
      refine LG.val 38 (.slice Arp ((((ls.getD k lay0).W).getD i []).length) crp) w34 (by kernel_rfl) (by kernel_rfl) (rval (Seg.run (hAWx.el i (by omega)) hs.g (Ext.refl _) (by kernel_rfl)) erp) ?_
      refine LG.val 10 (.int .i64 (i : Nat)) w34 (by kernel_rfl) (by kernel_rfl) (by kernel_rfl) ?_
      refine LG.val 11 (.slice Arp ((((ls.getD k lay0).W).getD i []).length) crp) w34 (by kernel_rfl) (by kernel_rfl) (by kernel_rfl) ?_
      refine LG.next (by kernel_rfl) ?_
      refine CG.to [(4, .pointer (some ⟨b5, 0, none⟩)), (5, .pointer (some ⟨b9, 0, none⟩)), (17, .slice A ts.length cap), (18, .int .i64 (ts.length : Nat)), (19, .int .i64 (k : Nat)), (7, .pointer (some ⟨b19, 0, none⟩)), (8, .slice (some ⟨b24, 0, none⟩) usx.length usx.length), (9, .slice (some ⟨b29, 0, none⟩) usx.length usx.length), (32, .slice AWx usx.length cWx), (33, .int .i64 (usx.length : Nat)), (34, .int .i64 (i : Nat)), (10, .int .i64 (i : Nat)), (11, .slice Arp ((((ls.getD k lay0).W).getD i []).length) crp)] (by kernel_rfl) ?_
      refine CG.seq ?_
      refine CG.listed ?_
      refine LG.val 40 (.slice Arp ((((ls.getD k lay0).W).getD i []).length) crp) w34 (by kernel_rfl) (by kernel_rfl) (by kernel_rfl) ?_
      refine LG.val 41 (.pointer (some ⟨b9, 2, none⟩)) w34 (by kernel_rfl) (by kernel_rfl) (by kernel_rfl) ?_
      refine LG.own 42 [(3, 2, 1)] (.slice Ax ((outq ls xs k).length) cx) hs (by kernel_rfl) (by kernel_rfl) (by kernel_rfl) (by kernel_rfl) ?_
      refine LG.call 43 91 #[.slice Arp ((((ls.getD k lay0).W).getD i []).length) crp, .slice Ax ((outq ls xs k).length) cx] (by kernel_rfl) (by kernel_rfl) (by kernel_rfl) ?_
      refine (cDot Arp crp ((ls.getD k lay0).W.getD i []) Ax cx (outq ls xs k) (d k) (mtx.row i (by omega)) hlx (by omega) (fun j hj => hS_.sa i j (by omega) hj) (fun j hj => hS_.sx j hj) (fun j hj => hS_.sp i j (by omega) hj) (fun j hj => hS_.sd i j (by omega) (by omega)) w34 h35 hs.g hRrp hXk).mono ?_
      rintro _ w76 ⟨vu78, h77, rfl, u78, rfl⟩
      refine ⟨_, rfl, ?_⟩
      replace hs := hs.step u78
      replace hg1 := hg1.up u78
      replace hg2 := hg2.up u78
      replace hA := hA.gw u78.gr.gw
      replace hN := hN.gw u78.gr.gw
      replace hX := hX.gw u78.gr.gw
      replace hXk := hXk.gw u78.gr.gw
      replace hAWx := hAWx.gw u78.gr.gw
      replace hUx := hUx.gw u78.gr.gw
      replace hABx := hABx.gw u78.gr.gw
      replace hRrp := hRrp.gw u78.gr.gw
      refine LG.val 39 (.tuple #[qv (dotq ((ls.getD k lay0).W.getD i []) (outq ls xs k) (d k)), .bool true]) w76 (by kernel_rfl) (by kernel_rfl) (by kernel_rfl) ?_
      refine LG.val 44 (qv (dotq ((ls.getD k lay0).W.getD i []) (outq ls xs k) (d k))) w76 (by kernel_rfl) (by kernel_rfl) (by kernel_rfl) ?_
      refine LG.val 45 (.bool true) w76 (by kernel_rfl) (by kernel_rfl) (by kernel_rfl) ?_
      refine LG.var 12 45 ([.bool false, .int .u64 0, .string (⟨#[]⟩), .int .u64 0, .string (⟨#[]⟩)]) hs (by kernel_rfl) (by kernel_rfl) (by kernel_rfl) (fun b79 w80 h81 nb_ u82 hs => ?_)
      replace hg1 := (hg1.up u82).new b79 (fun c hc e => Nat.lt_irrefl c (Nat.lt_of_lt_of_le (hg1.lt hc) (by rw [e]; exact nb_)))
      replace hg2 := (hg2.up u82).new b79 (fun c hc e => Nat.lt_irrefl c (Nat.lt_of_lt_of_le (hg2.lt hc) (by rw [e]; exact nb_)))
      replace hA := hA.gw u82.gr.gw
      replace hN := hN.gw u82.gr.gw
      replace hX := hX.gw u82.gr.gw
      replace hXk := hXk.gw u82.gr.gw
      replace hAWx := hAWx.gw u82.gr.gw
      replace hUx := hUx.gw u82.gr.gw
      replace hABx := hABx.gw u82.gr.gw
      replace hRrp := hRrp.gw u82.gr.gw
      refine LG.put 0 0 (qc (dotq ((ls.getD k lay0).W.getD i []) (outq ls xs k) (d k))) hs g (by kernel_rfl) (by kernel_rfl) (by kernel_rfl) (by kernel_rfl) (fun w83 pu hs => ?_)
      replace hg1 := hg1.put pu (by simp [bxAt])
      replace hg2 := hg2.put pu (by simp [bxAt])
      replace hs := hs.to [⟨b79, 45, qc (dotq ((ls.getD k lay0).W.getD i []) (outq ls xs k) (d k))⟩, ⟨b29, 45, (pl).flatMap qc⟩, ⟨b24, 45, (ql).flatMap qc⟩, ⟨b19, 57, [.int .i64 ((ls.getD k lay0).k), .slice AWx usx.length cWx, .slice ABx ((ls.getD k lay0).B.length) cBx]⟩, ⟨b9, 112, [s1, s2, .slice Ax ((outq ls xs k).length) cx]⟩, ⟨b5, 112, [.slice none 0 0, .slice none 0 0, .slice none 0 0]⟩, ⟨b1, 25, [.slice A ts.length cap]⟩] (by kernel_rfl)
      refine LG.val 13 (.bool true) w83 (by kernel_rfl) (by kernel_rfl) (by kernel_rfl) ?_
      refine LG.next (by kernel_rfl) ?_
      refine CG.to [(4, .pointer (some ⟨b5, 0, none⟩)), (5, .pointer (some ⟨b9, 0, none⟩)), (17, .slice A ts.length cap), (18, .int .i64 (ts.length : Nat)), (19, .int .i64 (k : Nat)), (7, .pointer (some ⟨b19, 0, none⟩)), (8, .slice (some ⟨b24, 0, none⟩) usx.length usx.length), (9, .slice (some ⟨b29, 0, none⟩) usx.length usx.length), (32, .slice AWx usx.length cWx), (33, .int .i64 (usx.length : Nat)), (34, .int .i64 (i : Nat)), (10, .int .i64 (i : Nat)), (12, .pointer (some ⟨b79, 0, none⟩))] (by kernel_rfl) ?_
      refine CG.seq ?_
      have hsr := hs
      have hg1_r := hg1
      have hg2_r := hg2
      refine CG.region [] 9 [] mixed (by kernel_rfl) hs.g al_nil (fun _ hb => by cases hb) ?_
      refine Rg.pure 0 46 (.slice (some ⟨b24, 0, none⟩) usx.length usx.length) (by kernel_rfl) (by kernel_rfl) (fun _ => by kernel_rfl) ?_
      refine Rg.pure 1 47 (.int .i64 (i : Nat)) (by kernel_rfl) (by kernel_rfl) (fun _ => by kernel_rfl) ?_
      refine Rg.own 2 48 [(0, 0, 5)] (qv (dotq ((ls.getD k lay0).W.getD i []) (outq ls xs k) (d k))) hs (by kernel_rfl) (by kernel_rfl) (fun _ _ => List.not_mem_nil) (by kernel_rfl) (by kernel_rfl) ?_
      refine Rg.pure 3 49 (.pointer (some ⟨b19, 2, none⟩)) (by kernel_rfl) (by kernel_rfl) (fun _ => by kernel_rfl) ?_
      refine Rg.own 4 50 [(3, 2, 1)] (.slice ABx ((ls.getD k lay0).B.length) cBx) hs (by kernel_rfl) (by kernel_rfl) (fun _ _ => List.not_mem_nil) (by kernel_rfl) (by kernel_rfl) ?_
      refine Rg.pure 5 51 (.int .i64 (i : Nat)) (by kernel_rfl) (by kernel_rfl) (fun _ => by kernel_rfl) ?_
      refine Rg.pure 6 52 (.pointer (some ⟨(aB ABx), aO ABx + i * 5, none⟩)) (by kernel_rfl) (by kernel_rfl) (fun _ => ixAddr (t := 32) (e := 45) (x := .tmp 50) (ix := .tmp 51) (A := ABx) (len := (ls.getD k lay0).B.length) (cap := cBx) (sz := 5) (i := (i : Nat)) i (by kernel_rfl) (by kernel_rfl) (by kernel_rfl) (by kernel_rfl) (by kernel_rfl) (hABx.ok (by omega)) (by omega) (by omega) _) ?_
      refine Rg.load 7 53 (qv (((ls.getD k lay0).B).getD i 0)) (by kernel_rfl) (by kernel_rfl) (fun _ hx => Seg.run (hABx.el i (by omega)) hs.g hx.ext (by kernel_rfl)) ?_
      refine Rg.call 8 54 16 #[qv (dotq ((ls.getD k lay0).W.getD i []) (outq ls xs k) (d k)), qv (((ls.getD k lay0).B).getD i 0)] (by kernel_rfl) (by kernel_rfl) (fun _ => by kernel_rfl) (fun w87 h88 u89 => ?_)
      replace hs := hs.step u89
      replace hg1 := hg1.up u89
      replace hg2 := hg2.up u89
      replace hA := hA.gw u89.gr.gw
      replace hN := hN.gw u89.gr.gw
      replace hX := hX.gw u89.gr.gw
      replace hXk := hXk.gw u89.gr.gw
      replace hAWx := hAWx.gw u89.gr.gw
      replace hUx := hUx.gw u89.gr.gw
      replace hABx := hABx.gw u89.gr.gw
      replace hRrp := hRrp.gw u89.gr.gw
      refine (Ret.of_ext hs.g (cAdd (dotq ((ls.getD k lay0).W.getD i []) (outq ls xs k) (d k)) ((ls.getD k lay0).B.getD i 0) (hS_.sd i (d k) (by omega) (by omega)) (hS_.sb i (by omega)) w87)).mono ?_
      rintro _ w84 ⟨vu86, h85, rfl, u86, rfl⟩
      refine ⟨_, h85, rfl, u86.m _, ?_⟩
      replace hs := hs.step u86
      replace hg1 := hg1.up u86
      replace hg2 := hg2.up u86
      replace hA := hA.gw u86.gr.gw
      replace hN := hN.gw u86.gr.gw
      replace hX := hX.gw u86.gr.gw
      replace hXk := hXk.gw u86.gr.gw
      replace hAWx := hAWx.gw u86.gr.gw
      replace hUx := hUx.gw u86.gr.gw
      replace hABx := hABx.gw u86.gr.gw
      replace hRrp := hRrp.gw u86.gr.gw
      refine Rg.fin0 (by kernel_rfl) (fun w90 h91 u92 => ?_)
      replace hs := hs.step u92
      replace hg1 := hg1.up u92
      replace hg2 := hg2.up u92
      replace hA := hA.gw u92.gr.gw
      replace hN := hN.gw u92.gr.gw
      replace hX := hX.gw u92.gr.gw
      replace hXk := hXk.gw u92.gr.gw
      replace hAWx := hAWx.gw u92.gr.gw
      replace hUx := hUx.gw u92.gr.gw
      replace hABx := hABx.gw u92.gr.gw
      replace hRrp := hRrp.gw u92.gr.gw
      refine T.val 9 55 (.pointer (some ⟨b24, 0 + i * 5, none⟩)) w90 (by kernel_rfl) (by kernel_rfl) (ixAddr (t := 32) (e := 45) (x := .tmp 46) (ix := .tmp 47) (A := some ⟨b24, 0, none⟩) (len := usx.length) (cap := usx.length) (sz := 5) (i := (i : Nat)) i (by kernel_rfl) (by kernel_rfl) (by kernel_rfl) (by kernel_rfl) (by kernel_rfl) rfl (by omega) (by omega) _) ?_
      refine T.putA 10 2 (ql) qc 5 i (dotq ((ls.getD k lay0).W.getD i []) (outq ls xs k) (d k) + (ls.getD k lay0).B.getD i 0) hs g (by kernel_rfl) (by kernel_rfl) (by kernel_rfl) rfl (fun _ => rfl) (by omega) (by kernel_rfl) (fun w93 pu hs => ?_)
      replace hg1 := hg1.put pu (by simp [bxAt])
      replace hg2 := hg2.put pu (by simp [bxAt])
      have hl94 : ((ql).set i (dotq ((ls.getD k lay0).W.getD i []) (outq ls xs k) (d k) + (ls.getD k lay0).B.getD i 0)).length = usx.length := by rw [List.length_set]; exact hlq
      replace hs := hs.to [⟨b79, 45, qc (dotq ((ls.getD k lay0).W.getD i []) (outq ls xs k) (d k))⟩, ⟨b29, 45, (pl).flatMap qc⟩, ⟨b24, 45, ((ql).set i (dotq ((ls.getD k lay0).W.getD i []) (outq ls xs k) (d k) + (ls.getD k lay0).B.getD i 0)).flatMap qc⟩, ⟨b19, 57, [.int .i64 ((ls.getD k lay0).k), .slice AWx usx.length cWx, .slice ABx ((ls.getD k lay0).B.length) cBx]⟩, ⟨b9, 112, [s1, s2, .slice Ax ((outq ls xs k).length) cx]⟩, ⟨b5, 112, [.slice none 0 0, .slice none 0 0, .slice none 0 0]⟩, ⟨b1, 25, [.slice A ts.length cap]⟩] (by kernel_rfl)
      refine T.next (by kernel_rfl) ?_
      refine CG.to [(4, .pointer (some ⟨b5, 0, none⟩)), (5, .pointer (some ⟨b9, 0, none⟩)), (17, .slice A ts.length cap), (18, .int .i64 (ts.length : Nat)), (19, .int .i64 (k : Nat)), (7, .pointer (some ⟨b19, 0, none⟩)), (8, .slice (some ⟨b24, 0, none⟩) usx.length usx.length), (9, .slice (some ⟨b29, 0, none⟩) usx.length usx.length), (32, .slice AWx usx.length cWx), (33, .int .i64 (usx.length : Nat)), (34, .int .i64 (i : Nat)), (10, .int .i64 (i : Nat))] (by kernel_rfl) ?_
      have hsr := hs
      have hg1_r := hg1
      have hg2_r := hg2
      refine CG.region [] 9 [] mixed (by kernel_rfl) hs.g al_nil (fun _ hb => by cases hb) ?_
      refine Rg.pure 0 56 (.slice (some ⟨b29, 0, none⟩) usx.length usx.length) (by kernel_rfl) (by kernel_rfl) (fun _ => by kernel_rfl) ?_
      refine Rg.pure 1 57 (.int .i64 (i : Nat)) (by kernel_rfl) (by kernel_rfl) (fun _ => by kernel_rfl) ?_
      refine Rg.pure 2 58 (.pointer (some ⟨b19, 0, none⟩)) (by kernel_rfl) (by kernel_rfl) (fun _ => by kernel_rfl) ?_
      refine Rg.own 3 59 [(3, 0, 1)] (.int .i64 ((ls.getD k lay0).k)) hs (by kernel_rfl) (by kernel_rfl) (fun _ _ => List.not_mem_nil) (by kernel_rfl) (by kernel_rfl) ?_
      refine Rg.pure 4 60 (.slice (some ⟨b24, 0, none⟩) usx.length usx.length) (by kernel_rfl) (by kernel_rfl) (fun _ => by kernel_rfl) ?_
      refine Rg.pure 5 61 (.int .i64 (i : Nat)) (by kernel_rfl) (by kernel_rfl) (fun _ => by kernel_rfl) ?_
      refine Rg.pure 6 62 (.pointer (some ⟨b24, 0 + i * 5, none⟩)) (by kernel_rfl) (by kernel_rfl) (fun _ => ixAddr (t := 32) (e := 45) (x := .tmp 60) (ix := .tmp 61) (A := some ⟨b24, 0, none⟩) (len := usx.length) (cap := usx.length) (sz := 5) (i := (i : Nat)) i (by kernel_rfl) (by kernel_rfl) (by kernel_rfl) (by kernel_rfl) (by kernel_rfl) rfl (by omega) (by omega) _) ?_
      refine Rg.ownA 7 63 2 ((ql).set i (dotq ((ls.getD k lay0).W.getD i []) (outq ls xs k) (d k) + (ls.getD k lay0).B.getD i 0)) qc 5 0 i (qv (((ql).set i (dotq ((ls.getD k lay0).W.getD i []) (outq ls xs k) (d k) + (ls.getD k lay0).B.getD i 0)).getD i 0)) hs (by kernel_rfl) (by kernel_rfl) List.not_mem_nil (by kernel_rfl) rfl (fun _ => rfl) (by omega) (by kernel_rfl) ?_
      refine Rg.call 8 64 92 #[.int .i64 ((ls.getD k lay0).k), qv (((ql).set i (dotq ((ls.getD k lay0).W.getD i []) (outq ls xs k) (d k) + (ls.getD k lay0).B.getD i 0)).getD i 0)] (by kernel_rfl) (by kernel_rfl) (fun _ => by kernel_rfl) (fun w98 h99 u100 => ?_)
      replace hs := hs.step u100
      replace hg1 := hg1.up u100
      replace hg2 := hg2.up u100
      replace hA := hA.gw u100.gr.gw
      replace hN := hN.gw u100.gr.gw
      replace hX := hX.gw u100.gr.gw
      replace hXk := hXk.gw u100.gr.gw
      replace hAWx := hAWx.gw u100.gr.gw
      replace hUx := hUx.gw u100.gr.gw
      replace hABx := hABx.gw u100.gr.gw
      replace hRrp := hRrp.gw u100.gr.gw
      refine (nAct _ kdx (((ql).set i (dotq ((ls.getD k lay0).W.getD i []) (outq ls xs k) (d k) + (ls.getD k lay0).B.getD i 0)).getD i 0) (by rw [getD_set_self (by omega)]; exact hS_.ss i (by omega)) w98 h99 hs.g).mono ?_
      rintro _ w95 ⟨vu97, h96, rfl, u97, rfl⟩
      refine ⟨_, h96, rfl, u97.m _, ?_⟩
      replace hs := hs.step u97
      replace hg1 := hg1.up u97
      replace hg2 := hg2.up u97
      replace hA := hA.gw u97.gr.gw
      replace hN := hN.gw u97.gr.gw
      replace hX := hX.gw u97.gr.gw
      replace hXk := hXk.gw u97.gr.gw
      replace hAWx := hAWx.gw u97.gr.gw
      replace hUx := hUx.gw u97.gr.gw
      replace hABx := hABx.gw u97.gr.gw
      replace hRrp := hRrp.gw u97.gr.gw
      refine Rg.fin0 (by kernel_rfl) (fun w101 h102 u103 => ?_)
      replace hs := hs.step u103
      replace hg1 := hg1.up u103
      replace hg2 := hg2.up u103
      replace hA := hA.gw u103.gr.gw
      replace hN := hN.gw u103.gr.gw
      replace hX := hX.gw u103.gr.gw
      replace hXk := hXk.gw u103.gr.gw
      replace hAWx := hAWx.gw u103.gr.gw
      replace hUx := hUx.gw u103.gr.gw
      replace hABx := hABx.gw u103.gr.gw
      replace hRrp := hRrp.gw u103.gr.gw
      refine T.val 9 65 (.pointer (some ⟨b29, 0 + i * 5, none⟩)) w101 (by kernel_rfl) (by kernel_rfl) (ixAddr (t := 32) (e := 45) (x := .tmp 56) (ix := .tmp 57) (A := some ⟨b29, 0, none⟩) (len := usx.length) (cap := usx.length) (sz := 5) (i := (i : Nat)) i (by kernel_rfl) (by kernel_rfl) (by kernel_rfl) (by kernel_rfl) (by kernel_rfl) rfl (by omega) (by omega) _) ?_
      refine T.putA 10 1 (pl) qc 5 i (act (ls.getD k lay0).k (((ql).set i (dotq ((ls.getD k lay0).W.getD i []) (outq ls xs k) (d k) + (ls.getD k lay0).B.getD i 0)).getD i 0)) hs g (by kernel_rfl) (by kernel_rfl) (by kernel_rfl) rfl (fun _ => rfl) (by omega) (by kernel_rfl) (fun w104 pu hs => ?_)
      replace hg1 := hg1.put pu (by simp [bxAt])
      replace hg2 := hg2.put pu (by simp [bxAt])
      have hl105 : ((pl).set i (act (ls.getD k lay0).k (((ql).set i (dotq ((ls.getD k lay0).W.getD i []) (outq ls xs k) (d k) + (ls.getD k lay0).B.getD i 0)).getD i 0))).length = usx.length := by rw [List.length_set]; exact hlp
      replace hs := hs.to [⟨b79, 45, qc (dotq ((ls.getD k lay0).W.getD i []) (outq ls xs k) (d k))⟩, ⟨b29, 45, ((pl).set i (act (ls.getD k lay0).k (((ql).set i (dotq ((ls.getD k lay0).W.getD i []) (outq ls xs k) (d k) + (ls.getD k lay0).B.getD i 0)).getD i 0))).flatMap qc⟩, ⟨b24, 45, ((ql).set i (dotq ((ls.getD k lay0).W.getD i []) (outq ls xs k) (d k) + (ls.getD k lay0).B.getD i 0)).flatMap qc⟩, ⟨b19, 57, [.int .i64 ((ls.getD k lay0).k), .slice AWx usx.length cWx, .slice ABx ((ls.getD k lay0).B.length) cBx]⟩, ⟨b9, 112, [s1, s2, .slice Ax ((outq ls xs k).length) cx]⟩, ⟨b5, 112, [.slice none 0 0, .slice none 0 0, .slice none 0 0]⟩, ⟨b1, 25, [.slice A ts.length cap]⟩] (by kernel_rfl)
      refine T.next (by kernel_rfl) ?_
      refine CG.to [(4, .pointer (some ⟨b5, 0, none⟩)), (5, .pointer (some ⟨b9, 0, none⟩)), (17, .slice A ts.length cap), (18, .int .i64 (ts.length : Nat)), (19, .int .i64 (k : Nat)), (7, .pointer (some ⟨b19, 0, none⟩)), (8, .slice (some ⟨b24, 0, none⟩) usx.length usx.length), (9, .slice (some ⟨b29, 0, none⟩) usx.length usx.length), (32, .slice AWx usx.length cWx), (33, .int .i64 (usx.length : Nat)), (34, .int .i64 (i : Nat))] (by kernel_rfl) ?_
      refine CG.listed ?_
      refine LG.val 66 (.int .i64 (i + 1 : Nat)) w104 (by kernel_rfl) (by kernel_rfl) (rint (ri64 (n := (i : Nat) + 1) (by kernel_rfl) (by omega) (by omega)) (by omega)) ?_
      refine LG.val 34 (.int .i64 (i + 1 : Nat)) w104 (by kernel_rfl) (by kernel_rfl) (by kernel_rfl) ?_
      refine LG.done (by kernel_rfl) ?_
      intro a_ ka
      replace hs := hs.drop 1
      replace hg1 := hg1.sub [b29, b24, b19, b9, b5, b1] (by simp)
      replace hg2 := hg2.sub [b29, b24, b19, b9, b5, b1] (by simp)
      refine ⟨_, _, ?_, ⟨i + 1, (ql).set i (dotq ((ls.getD k lay0).W.getD i []) (outq ls xs k) (d k) + (ls.getD k lay0).B.getD i 0), (pl).set i (act (ls.getD k lay0).k (((ql).set i (dotq ((ls.getD k lay0).W.getD i []) (outq ls xs k) (d k) + (ls.getD k lay0).B.getD i 0)).getD i 0)), h102, rfl, rfl, hs.to _ (by kernel_rfl), hA, hN, hX, hXk, hAWx, hUx, hABx, hg1, hg2, by omega, hl94, hl105, (fstep hp (by omega) (congrArg _ (getD_set_self (by omega))))⟩, ka.to [(4, .pointer (some ⟨b5, 0, none⟩)), (5, .pointer (some ⟨b9, 0, none⟩)), (17, .slice A ts.length cap), (18, .int .i64 (ts.length : Nat)), (19, .int .i64 (k : Nat)), (7, .pointer (some ⟨b19, 0, none⟩)), (8, .slice (some ⟨b24, 0, none⟩) usx.length usx.length), (9, .slice (some ⟨b29, 0, none⟩) usx.length usx.length), (32, .slice AWx usx.length cWx), (33, .int .i64 (usx.length : Nat)), (34, .int .i64 ((i + 1) : Nat))] (by kernel_rfl)⟩
      omega

set_option maxRecDepth 100000 in
set_option maxHeartbeats 600000 in
theorem nAnswer (A : Option Addr) (cap : Nat) (ts : List LV) (ls : List Lay) (d : Nat → Nat) (hO : NetOk ls d) (X : Option Addr) (c0 : Nat) (xs : List Rat) (hx : xs.length = d 0) (hc0 : xs.length ≤ c0) (hS : ∀ k, k < ls.length → LaySm (ls.getD k lay0) (outq ls xs k) (d (k + 1)) (d k)) (w : World) (h : Hp) (g : G w h) (hA : SlO 3 lvc lvd h A ts) (hN : NetL h ts ls) (hX : SlO 5 qc 0 h X xs) :
    Calls Tryz.prog 14 #[.agg #[.slice A ts.length cap], .slice X xs.length c0] w (Ret w h fun v h => ∃ Ax cx, v = .tuple #[.slice Ax (outq ls xs ls.length).length cx, .int .i64 0] ∧ (outq ls xs ls.length).length ≤ cx ∧ SlO 5 qc 0 h Ax (outq ls xs ls.length)) := by
  have hs := St.start g
  have hl := hN.len
  obtain ⟨o1, o2⟩ := hO.len
  have o3 := hO.first
  refine enter (n := 17) Tryz.func14 rfl rfl (Nat.le_of_ble_eq_true (by kernel_rfl)) [(0, .agg #[.slice A ts.length cap]), (1, .slice X xs.length c0)] rfl ?_
  refine CG.seq ?_
  refine CG.listed ?_
  refine LG.var 2 25 ([.slice A ts.length cap]) hs (by kernel_rfl) (by kernel_rfl) (by kernel_rfl) (fun b1 w2 h3 nb_ u4 hs => ?_)
  replace hA := hA.gw u4.gr.gw
  replace hN := hN.gw u4.gr.gw
  replace hX := hX.gw u4.gr.gw
  refine LG.val 4 (.slice none 0 0) w2 (by kernel_rfl) (by kernel_rfl) (by kernel_rfl) ?_
  refine LG.val 5 (.int .i64 0) w2 (by kernel_rfl) (by kernel_rfl) (by kernel_rfl) ?_
  refine LG.next (by kernel_rfl) ?_
  refine CG.seq ?_
  refine CG.seq ?_
  refine CG.listed ?_
  refine LG.own 6 [(0, 0, 1)] (.agg #[.slice A ts.length cap]) hs (by kernel_rfl) (by kernel_rfl) (by kernel_rfl) (by kernel_rfl) ?_
  refine LG.call 7 34 #[.agg #[.slice A ts.length cap]] (by kernel_rfl) (by kernel_rfl) (by kernel_rfl) ?_
  refine (nCheck A cap ts ls d hO w2 h3 hs.g hA hN).mono ?_
  rintro _ w5 ⟨vu7, h6, rfl, u7, rfl⟩
  refine ⟨_, rfl, ?_⟩
  replace hs := hs.step u7
  replace hA := hA.gw u7.gr.gw
  replace hN := hN.gw u7.gr.gw
  replace hX := hX.gw u7.gr.gw
  refine LG.val 8 (.bool false) w5 (by kernel_rfl) (by kernel_rfl) (by kernel_rfl) ?_
  refine LG.next (by kernel_rfl) ?_
  refine CG.condF (by kernel_rfl) (by kernel_rfl) ?_
  refine CG.skipN ?_
  refine CG.seq ?_
  refine CG.seq ?_
  refine CG.listed ?_
  refine LG.own 9 [(0, 0, 1)] (.agg #[.slice A ts.length cap]) hs (by kernel_rfl) (by kernel_rfl) (by kernel_rfl) (by kernel_rfl) ?_
  refine LG.val 10 (.slice X xs.length c0) w5 (by kernel_rfl) (by kernel_rfl) (by kernel_rfl) ?_
  refine LG.call 11 50 #[.agg #[.slice A ts.length cap], .slice X xs.length c0] (by kernel_rfl) (by kernel_rfl) (by kernel_rfl) ?_
  refine (nSuits A cap ts ls d hO X c0 xs hx w5 h6 hs.g hA hN hX).mono ?_
  rintro _ w8 ⟨vu10, h9, rfl, u10, rfl⟩
  refine ⟨_, rfl, ?_⟩
  replace hs := hs.step u10
  replace hA := hA.gw u10.gr.gw
  replace hN := hN.gw u10.gr.gw
  replace hX := hX.gw u10.gr.gw
  refine LG.val 12 (.bool false) w8 (by kernel_rfl) (by kernel_rfl) (by kernel_rfl) ?_
  refine LG.next (by kernel_rfl) ?_
  refine CG.to [(1, .slice X xs.length c0), (2, .pointer (some ⟨b1, 0, none⟩)), (4, .slice none 0 0), (5, .int .i64 0), (12, .bool false)] (by kernel_rfl) ?_
  refine CG.condF (by kernel_rfl) (by kernel_rfl) ?_
  refine CG.skipN ?_
  refine CG.seq ?_
  refine CG.listed ?_
  refine LG.own 13 [(0, 0, 1)] (.agg #[.slice A ts.length cap]) hs (by kernel_rfl) (by kernel_rfl) (by kernel_rfl) (by kernel_rfl) ?_
  refine LG.val 14 (.slice X xs.length c0) w8 (by kernel_rfl) (by kernel_rfl) (by kernel_rfl) ?_
  refine LG.call 15 51 #[.agg #[.slice A ts.length cap], .slice X xs.length c0] (by kernel_rfl) (by kernel_rfl) (by kernel_rfl) ?_
  refine (nForward A cap ts ls d hO X c0 xs hx hc0 hS w8 h9 hs.g hA hN hX).mono ?_
  rintro _ w11 ⟨vu13, h12, rfl, u13, ⟨s1, s2, Ax, cx, rfl, hcx, hXk⟩⟩
  refine ⟨_, rfl, ?_⟩
  replace hs := hs.step u13
  replace hA := hA.gw u13.gr.gw
  replace hN := hN.gw u13.gr.gw
  replace hX := hX.gw u13.gr.gw
  refine LG.val 16 (.slice Ax ((outq ls xs ls.length).length) cx) w11 (by kernel_rfl) (by kernel_rfl) (by kernel_rfl) ?_
  refine LG.val 4 (.slice Ax ((outq ls xs ls.length).length) cx) w11 (by kernel_rfl) (by kernel_rfl) (by kernel_rfl) ?_
  refine LG.val 5 (.int .i64 0) w11 (by kernel_rfl) (by kernel_rfl) (by kernel_rfl) ?_
  refine LG.next (by kernel_rfl) ?_
  refine CG.to [(4, .slice Ax ((outq ls xs ls.length).length) cx), (5, .int .i64 0)] (by kernel_rfl) ?_
  refine CG.ret ?_
  exact retP hs [] (.tuple #[.slice Ax ((outq ls xs ls.length).length) cx, .int .i64 0]) (by kernel_rfl) (by kernel_rfl) ⟨_, _, rfl, hcx, hXk⟩

end Go.Proofs.YtbhpcpkcjgkcpaaGreatDoor
