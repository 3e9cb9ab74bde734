/- Values: numbers of the program's, as the engine prints them. -/
import Derived.Test.YtmkonbkdjmfjhaaGreatDoorEngD
import Derived.Test.YtmkonbkdjmfjhaaGreatDoorSlE
import Derived.Test.YtmkonbkdjmfjhaaGreatDoorFracD
import Derived.Test.YtmkonbkdjmfjhaaGreatDoorFracF
namespace Go.Proofs.YtmkonbkdjmfjhaaGreatDoor
open Go.RowKit

theorem mixed : Tryz.prog.follows .mixedOrders = true := by kernel_rfl
theorem rb {s : Result Next} {e b : Bool} {w : World} (h : s = .ok (.value (.bool e)) w) (he : e = b) : s = .ok (.value (.bool b)) w := he ▸ h
theorem ri64 {s : Result Next} {n : Int} {w : World} (h : s = .ok (.value (.int .i64 (IntKind.wrap .i64 n))) w) (h0 : -9223372036854775808 ≤ n) (h1 : n ≤ 9223372036854775807) : s = .ok (.value (.int .i64 n)) w := by
  have : IntKind.wrap .i64 n = n := by rw [IntKind.wrap_i64]; omega
  rw [this] at h; exact h
theorem rint {s : Result Next} {k : IntKind} {n m : Int} {w : World} (h : s = .ok (.value (.int k n)) w) (e : n = m) : s = .ok (.value (.int k m)) w := e ▸ h
theorem rval {s : Result Next} {v u : Value} {w : World} (h : s = .ok (.value v) w) (e : v = u) : s = .ok (.value u) w := e ▸ h

theorem wrU8 (n : Nat) : IntKind.wrap .u8 (n : Int) = ((n % 256 : Nat) : Int) := by rw [IntKind.wrap_u8]; omega
theorem wrU32 (n : Nat) : IntKind.wrap .u32 (n : Int) = ((n % 4294967296 : Nat) : Int) := by rw [IntKind.wrap_u32]; omega
theorem wrU64 (n : Nat) : IntKind.wrap .u64 (n : Int) = ((n % 18446744073709551616 : Nat) : Int) := by rw [IntKind.wrap_u64]; omega
theorem fitU8 {n : Int} (h0 : 0 ≤ n) (h : n < 256) : IntKind.wrap .u8 n = n := by rw [IntKind.wrap_u8]; omega
theorem fitU32 {n : Int} (h0 : 0 ≤ n) (h : n < 4294967296) : IntKind.wrap .u32 n = n := by rw [IntKind.wrap_u32]; omega
theorem fitU64 {n : Int} (h0 : 0 ≤ n) (h : n < 18446744073709551616) : IntKind.wrap .u64 n = n := by rw [IntKind.wrap_u64]; omega
theorem fitI64 {n : Int} (h0 : -9223372036854775808 ≤ n) (h : n < 9223372036854775808) : IntKind.wrap .i64 n = n := by rw [IntKind.wrap_i64]; omega
theorem fnU8 {n : Nat} (h : n < 256) : IntKind.wrap .u8 (n : Int) = (n : Int) := by rw [IntKind.wrap_u8]; omega
theorem fnU32 {n : Nat} (h : n < 4294967296) : IntKind.wrap .u32 (n : Int) = (n : Int) := by rw [IntKind.wrap_u32]; omega
theorem fnU64 {n : Nat} (h : n < 18446744073709551616) : IntKind.wrap .u64 (n : Int) = (n : Int) := by rw [IntKind.wrap_u64]; omega
theorem fnI64 {n : Nat} (h : n < 9223372036854775808) : IntKind.wrap .i64 (n : Int) = (n : Int) := by rw [IntKind.wrap_i64]; omega
theorem fdivNat (a b : Nat) : Int.fdiv (a : Int) (b : Int) = ((a / b : Nat) : Int) := by rw [Int.fdiv_eq_ediv_of_nonneg _ (by omega)]; simp
theorem tdivNat (a b : Nat) : Int.tdiv (a : Int) (b : Int) = ((a / b : Nat) : Int) := rfl
theorem tmodNat (a b : Nat) : Int.tmod (a : Int) (b : Int) = ((a % b : Nat) : Int) := rfl
theorem quoU8 (a b : Nat) (h : a < 256) : IntKind.wrap .u8 (Int.tdiv (a : Int) (b : Int)) = ((a / b : Nat) : Int) := by rw [tdivNat]; exact fnU8 (Nat.lt_of_le_of_lt (Nat.div_le_self _ _) h)
theorem quoU32 (a b : Nat) (h : a < 4294967296) : IntKind.wrap .u32 (Int.tdiv (a : Int) (b : Int)) = ((a / b : Nat) : Int) := by rw [tdivNat]; exact fnU32 (Nat.lt_of_le_of_lt (Nat.div_le_self _ _) h)
theorem quoU64 (a b : Nat) (h : a < 18446744073709551616) : IntKind.wrap .u64 (Int.tdiv (a : Int) (b : Int)) = ((a / b : Nat) : Int) := by rw [tdivNat]; exact fnU64 (Nat.lt_of_le_of_lt (Nat.div_le_self _ _) h)
theorem quoI64 (a b : Nat) (h : a < 9223372036854775808) : IntKind.wrap .i64 (Int.tdiv (a : Int) (b : Int)) = ((a / b : Nat) : Int) := by rw [tdivNat]; exact fnI64 (Nat.lt_of_le_of_lt (Nat.div_le_self _ _) h)
section div
variable {P : Program} {Γ : Env} {o : Oper}
theorem opQuo {t u : TypeId} {x y : Operand} {k : IntKind} {a b : Int} (ho : o.op = .binOp .quo t x y u) (hx : ev Γ x = .int k a) (hy : ev Γ y = .int k b) (hb : b ≠ 0) (w : World) :
    (execOp (ev Γ) o).run P w = .ok (.value (.int k (k.wrap (a.tdiv b)))) w := by
  unfold execOp; simp only [ho]; rw [hx, hy]
  simp [binOp, eqGuard, Op.intDiv, hb, Result.andThen]
theorem opRem {t u : TypeId} {x y : Operand} {k : IntKind} {a b : Int} (ho : o.op = .binOp .rem t x y u) (hx : ev Γ x = .int k a) (hy : ev Γ y = .int k b) (hb : b ≠ 0) (w : World) :
    (execOp (ev Γ) o).run P w = .ok (.value (.int k (a.tmod b))) w := by
  unfold execOp; simp only [ho]; rw [hx, hy]
  simp [binOp, eqGuard, Op.intDiv, hb, Result.andThen]
theorem opShl {t u : TypeId} {x y : Operand} {k ky : IntKind} {a : Int} {n : Nat} (ho : o.op = .binOp .shl t x y u) (hx : ev Γ x = .int k a) (hy : ev Γ y = .int ky (n : Int)) (hn : n ≤ k.bits) (w : World) :
    (execOp (ev Γ) o).run P w = .ok (.value (.int k (k.wrap (a * 2 ^ n)))) w := by
  unfold execOp; simp only [ho]; rw [hx, hy]
  have hm : min n k.bits = n := by omega
  have hz : ¬ ((n : Int) < 0) := by omega
  simp [binOp, eqGuard, Op.shift, Result.andThen, hm, hz]
theorem opShr {t u : TypeId} {x y : Operand} {k ky : IntKind} {a : Int} {n : Nat} (ho : o.op = .binOp .shr t x y u) (hx : ev Γ x = .int k a) (hy : ev Γ y = .int ky (n : Int)) (hn : n ≤ k.bits) (w : World) :
    (execOp (ev Γ) o).run P w = .ok (.value (.int k (a / 2 ^ n))) w := by
  unfold execOp; simp only [ho]; rw [hx, hy]
  have hm : min n k.bits = n := by omega
  have hz : ¬ ((n : Int) < 0) := by omega
  have hp : (0 : Int) ≤ 2 ^ n := Int.pow_nonneg (by decide)
  simp [binOp, eqGuard, Op.shift, Result.andThen, hm, hz, Int.fdiv_eq_ediv_of_nonneg _ hp]
theorem opOr {t u : TypeId} {x y : Operand} {a b : Nat} (ho : o.op = .binOp .or t x y u) (hx : ev Γ x = .int .u64 (a : Int)) (hy : ev Γ y = .int .u64 (b : Int)) (ha : a < 18446744073709551616) (hb : b < 18446744073709551616) (w : World) :
    (execOp (ev Γ) o).run P w = .ok (.value (.int .u64 ((a ||| b : Nat) : Int))) w := by
  unfold execOp; simp only [ho]; rw [hx, hy]
  have e : bits .or .u64 (a : Int) (b : Int) = ((a ||| b : Nat) : Int) := by
    unfold bits
    have h1 : (BitVec.ofInt 64 (a : Int) ||| BitVec.ofInt 64 (b : Int)).toNat = a ||| b := by
      rw [BitVec.toNat_or]
      congr 1 <;> (simp [BitVec.toNat_ofInt]; omega)
    show IntKind.wrap .u64 (((BitVec.ofInt 64 (a : Int) ||| BitVec.ofInt 64 (b : Int)).toNat : Nat) : Int) = _
    rw [h1]
    have := Nat.or_lt_two_pow (n := 64) ha hb
    exact fitU64 (by omega) (by omega)
  simp [binOp, eqGuard, Result.andThen, intBits_or, e]
theorem opOr32 {t u : TypeId} {x y : Operand} {a b : Nat} (ho : o.op = .binOp .or t x y u) (hx : ev Γ x = .int .u32 (a : Int)) (hy : ev Γ y = .int .u32 (b : Int)) (ha : a < 4294967296) (hb : b < 4294967296) (w : World) :
    (execOp (ev Γ) o).run P w = .ok (.value (.int .u32 ((a ||| b : Nat) : Int))) w := by
  unfold execOp; simp only [ho]; rw [hx, hy]
  have e : bits .or .u32 (a : Int) (b : Int) = ((a ||| b : Nat) : Int) := by
    unfold bits
    have h1 : (BitVec.ofInt 32 (a : Int) ||| BitVec.ofInt 32 (b : Int)).toNat = a ||| b := by
      rw [BitVec.toNat_or]
      congr 1 <;> (simp [BitVec.toNat_ofInt]; omega)
    show IntKind.wrap .u32 (((BitVec.ofInt 32 (a : Int) ||| BitVec.ofInt 32 (b : Int)).toNat : Nat) : Int) = _
    rw [h1]
    have := Nat.or_lt_two_pow (n := 32) ha hb
    exact fitU32 (by omega) (by omega)
  simp [binOp, eqGuard, Result.andThen, intBits_or, e]
theorem opOrAdd {t u : TypeId} {x y : Operand} {r b : Nat} (ho : o.op = .binOp .or t x y u) (hx : ev Γ x = .int .u64 ((r * 4294967296 : Nat) : Int)) (hy : ev Γ y = .int .u64 (b : Int)) (hr : r < 4294967296) (hb : b < 4294967296) (w : World) :
    (execOp (ev Γ) o).run P w = .ok (.value (.int .u64 ((r * 4294967296 + b : Nat) : Int))) w := by
  have := opOr (P := P) ho hx hy (by omega) (by omega) w
  have e : r * 4294967296 ||| b = r * 4294967296 + b := by
    have := Nat.two_pow_add_eq_or_of_lt (i := 32) (b := b) (by omega) r
    rw [Nat.mul_comm]; exact this.symm
  rw [e] at this
  exact this
end div

/-- The lowest word of a number, and its higher words as the program keeps them. -/
def lo (n : Nat) : Int := ((n % 18446744073709551616 : Nat) : Int)
def wb : Nat → Nat → List UInt8
  | 0, _ => []
  | f + 1, m => if m = 0 then [] else (List.range 8).map (fun k => UInt8.ofNat (m / 256 ^ k)) ++ wb f (m / 18446744073709551616)
def hi (n : Nat) : ByteArray := ⟨(wb n (n / 18446744073709551616)).toArray⟩
def nc (n : Nat) : List Value := [.int .u64 (lo n), .string (hi n)]
def nv (n : Nat) : Value := .agg #[.int .u64 (lo n), .string (hi n)]
def ic (z : Int) : List Value := [.bool (ineg z), .int .u64 (lo (iabs z)), .string (hi (iabs z))]
def iv (z : Int) : Value := .agg #[.bool (ineg z), .int .u64 (lo (iabs z)), .string (hi (iabs z))]
def qc (q : Rat) : List Value := [.bool (ineg q.num), .int .u64 (lo (iabs q.num)), .string (hi (iabs q.num)), .int .u64 (lo (qd q)), .string (hi (qd q))]
def qv (q : Rat) : Value := .agg #[.bool (ineg q.num), .int .u64 (lo (iabs q.num)), .string (hi (iabs q.num)), .int .u64 (lo (qd q)), .string (hi (qd q))]
theorem lo_small {n : Nat} (h : n < 18446744073709551616) : lo n = (n : Int) := by unfold lo; rw [Nat.mod_eq_of_lt h]
theorem hi_small {n : Nat} (h : n < 18446744073709551616) : hi n = ⟨#[]⟩ := by
  unfold hi; rw [Nat.div_eq_of_lt h]; cases n <;> rfl
theorem nv_small {n : Nat} (h : n < 18446744073709551616) : nv n = .agg #[.int .u64 ((n : Nat) : Int), .string ⟨#[]⟩] := by unfold nv; rw [lo_small h, hi_small h]
theorem iv_small {z : Int} (h : iabs z < 18446744073709551616) : iv z = .agg #[.bool (ineg z), .int .u64 ((iabs z : Nat) : Int), .string ⟨#[]⟩] := by unfold iv; rw [lo_small h, hi_small h]
theorem qv_small {q : Rat} (h : iabs q.num < 18446744073709551616) (h2 : q.den < 18446744073709551616) : qv q = .agg #[.bool (ineg (q).num), .int .u64 ((iabs (q).num : Nat) : Int), .string ⟨#[]⟩, .int .u64 ((qd (q) : Nat) : Int), .string ⟨#[]⟩] := by
  have := qd_le q
  unfold qv; rw [lo_small h, hi_small h, lo_small (by omega), hi_small (by omega)]
theorem Sm.v {q : Rat} (h : Sm q) : qv q = .agg #[.bool (ineg (q).num), .int .u64 ((iabs (q).num : Nat) : Int), .string ⟨#[]⟩, .int .u64 ((qd (q) : Nat) : Int), .string ⟨#[]⟩] := qv_small (by have := h.1; omega) (by have := h.2; omega)
end Go.Proofs.YtmkonbkdjmfjhaaGreatDoor
