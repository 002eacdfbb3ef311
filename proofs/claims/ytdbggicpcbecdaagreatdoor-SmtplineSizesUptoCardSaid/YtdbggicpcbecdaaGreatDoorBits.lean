/-
  Bits of int64s that are not below 0. No program here.
-/
import Derived.Laws.Bits128
namespace Go.Proofs.YtdbggicpcbecdaaGreatDoor.Bit
set_option linter.unusedVariables false
theorem ofInt_nat (a : Nat) (ha : a < 9223372036854775808) : (BitVec.ofInt 64 (a : Int)).toNat = a := by
  rw [BitVec.ofInt_natCast, BitVec.toNat_ofNat]; exact Nat.mod_eq_of_lt (by omega)
theorem or_nat (a b : Nat) (ha : a < 9223372036854775808) (hb : b < 9223372036854775808) : bits .or .i64 (a : Int) (b : Int) = ((a ||| b : Nat) : Int) := by
  have hx : a ||| b < 2 ^ 63 := Nat.or_lt_two_pow (by omega) (by omega)
  show IntKind.i64.wrap ((BitVec.ofInt 64 (a : Int) ||| BitVec.ofInt 64 (b : Int)).toNat : Int) = _
  rw [BitVec.toNat_or, ofInt_nat a ha, ofInt_nat b hb, IntKind.wrap_i64]
  omega
theorem and_nat (a b : Nat) (ha : a < 9223372036854775808) (hb : b < 9223372036854775808) : bits .and .i64 (a : Int) (b : Int) = ((a &&& b : Nat) : Int) := by
  have hx : a &&& b < 2 ^ 63 := Nat.and_lt_two_pow _ (by omega)
  show IntKind.i64.wrap ((BitVec.ofInt 64 (a : Int) &&& BitVec.ofInt 64 (b : Int)).toNat : Int) = _
  rw [BitVec.toNat_and, ofInt_nat a ha, ofInt_nat b hb, IntKind.wrap_i64]
  omega
/-- The low bits. -/
theorem low (k : Nat) (hk : k < 63) (a : Nat) (ha : a < 9223372036854775808) (m : Nat) (hm : m = 2 ^ k - 1) : bits .and .i64 (a : Int) (m : Int) = ((a % 2 ^ k : Nat) : Int) := by
  subst hm
  have h2 : 2 ^ k ≤ 2 ^ 62 := Nat.pow_le_pow_right (by omega) (by omega)
  rw [and_nat a _ ha (by omega), Nat.and_two_pow_sub_one_eq_mod]
/-- Bits side by side. -/
theorem join (k : Nat) (a b : Nat) (hb : b < 2 ^ k) (ha : a * 2 ^ k + b < 9223372036854775808) : bits .or .i64 ((a * 2 ^ k : Nat) : Int) (b : Int) = ((a * 2 ^ k + b : Nat) : Int) := by
  rw [or_nat _ _ (by omega) (by omega)]
  congr 1
  rw [Nat.mul_comm a, ← Nat.two_pow_add_eq_or_of_lt hb]
theorem low63 (a : Nat) (ha : a < 9223372036854775808) : bits .and .i64 (a : Int) 63 = ((a % 64 : Nat) : Int) := low 6 (by decide) a ha 63 rfl
theorem join3 (a b c : Nat) (ha : a < 256) (hb : b < 256) (hc : c < 256) : bits .or .i64 (bits .or .i64 ((a : Int) * 65536) ((b : Int) * 256)) (c : Int) = ((a * 65536 + b * 256 + c : Nat) : Int) := by
  have h1 := join 16 a (b * 256) (by omega) (by omega)
  have h2 := join 8 (a * 256 + b) c (by omega) (by omega)
  rw [show ((a : Int) * 65536) = ((a * 2 ^ 16 : Nat) : Int) by omega, show ((b : Int) * 256) = ((b * 256 : Nat) : Int) by omega, h1, show a * 2 ^ 16 + b * 256 = (a * 256 + b) * 2 ^ 8 by omega, h2]
end Go.Proofs.YtdbggicpcbecdaaGreatDoor.Bit
