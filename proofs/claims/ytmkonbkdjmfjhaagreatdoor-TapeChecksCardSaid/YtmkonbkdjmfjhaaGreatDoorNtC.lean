/- Contracts of net.suits, forward, Answer, of nets that are well formed. -/
import Derived.Test.YtmkonbkdjmfjhaaGreatDoorNtB
import Derived.Test.YtmkonbkdjmfjhaaGreatDoorMod
namespace Go.Proofs.YtmkonbkdjmfjhaaGreatDoor
open Go.RowKit


/-- What a layer answers; what goes into layer k. -/
def layq (L : Lay) (x : List Rat) : List Rat := (List.range L.W.length).map fun i => act L.k (dotq (L.W.getD i []) x x.length + L.B.getD i 0)
def outq (ls : List Lay) (xs : List Rat) : Nat → List Rat
  | 0 => xs
  | k + 1 => layq (ls.getD k lay0) (outq ls xs k)
theorem outq_len {ls : List Lay} {d : Nat → Nat} (o : NetOk ls d) {xs : List Rat} (hx : xs.length = d 0) (k : Nat) (hk : k ≤ ls.length) : (outq ls xs k).length = d k := by
  cases k with
  | zero => exact hx
  | succ k => show (layq _ _).length = _; unfold layq; rw [List.length_map, List.length_range]; exact (o.lay k (by omega)).1.rows
/-- All numbers on the way through a layer are small. -/
structure LaySm (L : Lay) (x : List Rat) (r c : Nat) : Prop where
  sx : ∀ j, j < c → Sm (x.getD j 0)
  sa : ∀ i j, i < r → j < c → Sm ((L.W.getD i []).getD j 0)
  sp : ∀ i j, i < r → j < c → Sm ((L.W.getD i []).getD j 0 * x.getD j 0)
  sd : ∀ i j, i < r → j ≤ c → Sm (dotq (L.W.getD i []) x j)
  sb : ∀ i, i < r → Sm (L.B.getD i 0)
  ss : ∀ i, i < r → Sm (dotq (L.W.getD i []) x c + L.B.getD i 0)
theorem getD_set_self {l : List Rat} {i : Nat} {x : Rat} (h : i < l.length) : (l.set i x).getD i 0 = x := by
  rw [List.getD_eq_getElem?_getD, List.getElem?_set_self h]; rfl
theorem fstep {pl : List Rat} {f : Nat → Rat} {i : Nat} {x : Rat} (hp : ∀ j, j < i → pl.getD j 0 = f j) (hi : i < pl.length) (hx : x = f i) : ∀ j, j < i + 1 → (pl.set i x).getD j 0 = f j := by
  intro j hj
  by_cases e : j = i
  · subst e; rw [getD_set_self hi, hx]
  · rw [List.getD_eq_getElem?_getD, List.getElem?_set_ne (Ne.symm e), ← List.getD_eq_getElem?_getD]; exact hp j (by omega)
theorem layq_of {pl : List Rat} {L : Lay} {x : List Rat} {i n : Nat} (hp : ∀ j, j < i → pl.getD j 0 = act L.k (dotq (L.W.getD j []) x n + L.B.getD j 0)) (hi : i = L.W.length) (hl : pl.length = L.W.length) (hn : x.length = n) : pl = layq L x := by
  subst hn hi
  unfold layq
  refine List.ext_getElem (by simp [hl]) (fun j h1 h2 => ?_)
  have := hp j (by omega)
  rw [List.getD_eq_getElem?_getD, List.getElem?_eq_getElem h1] at this
  simp only [List.getElem_map, List.getElem_range]
  exact this

end Go.Proofs.YtmkonbkdjmfjhaaGreatDoor
