/-
  Bytes by letters of six bits: plain laws. No program here.
-/
import Derived.Test.YtdbggicpcbecdaaGreatDoorText
namespace Go.Proofs.YtdbggicpcbecdaaGreatDoor.Enc
set_option linter.unusedVariables false
set_option linter.unusedSimpArgs false

/-- The letters. -/
def L64 : List UInt8 := [65, 66, 67, 68, 69, 70, 71, 72, 73, 74, 75, 76, 77, 78, 79, 80, 81, 82, 83, 84, 85, 86, 87, 88, 89, 90, 97, 98, 99, 100, 101, 102, 103, 104, 105, 106, 107, 108, 109, 110, 111, 112, 113, 114, 115, 116, 117, 118, 119, 120, 121, 122, 48, 49, 50, 51, 52, 53, 54, 55, 56, 57, 43, 47]
def Lc (n : Nat) : UInt8 := L64.getD n 0
/-- The letters that 2m bits n give; the bits that are left. -/
def fl (n m : Nat) : List UInt8 × Nat × Nat :=
  if h : 3 ≤ m then (Lc (n / 4 ^ (m - 3)) :: (fl (n % 4 ^ (m - 3)) (m - 3)).1, (fl (n % 4 ^ (m - 3)) (m - 3)).2) else ([], n, m)
termination_by m
theorem fl_step {n m : Nat} (h : 3 ≤ m) : fl n m = (Lc (n / 4 ^ (m - 3)) :: (fl (n % 4 ^ (m - 3)) (m - 3)).1, (fl (n % 4 ^ (m - 3)) (m - 3)).2) := by
  rw [fl, dif_pos h]
theorem fl_stop {n m : Nat} (h : m < 3) : fl n m = ([], n, m) := by rw [fl, dif_neg (by omega)]
theorem fl_rng : ∀ (k n m : Nat), m ≤ k → n < 4 ^ m → (fl n m).2.2 < 3 ∧ (fl n m).2.1 < 4 ^ (fl n m).2.2 ∧ 3 * (fl n m).1.length + (fl n m).2.2 = m
  | k, n, m, hk, hn => by
    by_cases h : 3 ≤ m
    · cases k with
      | zero => omega
      | succ k =>
        have hlt : n % 4 ^ (m - 3) < 4 ^ (m - 3) := Nat.mod_lt _ (Nat.pow_pos (by omega))
        have := fl_rng k (n % 4 ^ (m - 3)) (m - 3) (by omega) hlt
        rw [fl_step h]
        refine ⟨this.1, this.2.1, ?_⟩
        simp only [List.length_cons]
        omega
    · rw [fl_stop (by omega)]
      exact ⟨by show m < 3; omega, hn, by simp⟩
/-- What is written when the bytes are at an end. -/
def fin (n m : Nat) : List UInt8 := if m = 0 then [] else Lc (n * 4 ^ (3 - m)) :: List.replicate (3 - m) 61
/-- The letters of bytes, behind 2m bits n. -/
def encR : Nat → Nat → List UInt8 → List UInt8
  | n, m, [] => fin n m
  | n, m, c :: l => (fl (256 * n + c.toNat) (m + 4)).1 ++ encR (fl (256 * n + c.toNat) (m + 4)).2.1 (fl (256 * n + c.toNat) (m + 4)).2.2 l
theorem encR_cons (n m : Nat) (c : UInt8) (l : List UInt8) : encR n m (c :: l) = (fl (256 * n + c.toNat) (m + 4)).1 ++ encR (fl (256 * n + c.toNat) (m + 4)).2.1 (fl (256 * n + c.toNat) (m + 4)).2.2 l := rfl
def enc (l : List UInt8) : List UInt8 := encR 0 0 l

theorem fl4 (n : Nat) : fl n 4 = ([Lc (n / 4)], n % 4, 1) := by
  rw [fl_step (by omega), fl_stop (by omega)]
theorem fl5 (n : Nat) : fl n 5 = ([Lc (n / 16)], n % 16, 2) := by
  rw [fl_step (by omega), fl_stop (by omega)]
theorem fl6 (n : Nat) : fl n 6 = ([Lc (n / 64), Lc (n % 64)], 0, 0) := by
  rw [fl_step (by omega), fl_step (by omega), fl_stop (by omega)]
  simp [Nat.mod_one]
theorem enc_nil : enc [] = [] := by simp [enc, encR, fin]
theorem enc_one (a : UInt8) : enc [a] = [Lc (a.toNat * 65536 / 262144), Lc (a.toNat * 65536 / 4096 % 64), 61, 61] := by
  have := a.toNat_lt
  unfold enc
  rw [encR_cons, fl4]
  show [Lc ((256 * 0 + a.toNat) / 4)] ++ fin ((256 * 0 + a.toNat) % 4) 1 = _
  simp only [fin, Nat.one_ne_zero, if_false, List.singleton_append, Nat.mul_zero, Nat.zero_add]
  rw [show a.toNat * 65536 / 262144 = a.toNat / 4 by omega, show a.toNat * 65536 / 4096 % 64 = a.toNat % 4 * 4 ^ (3 - 1) by omega]
  rfl
theorem enc_two (a b : UInt8) : enc [a, b] = [Lc ((a.toNat * 65536 + b.toNat * 256) / 262144), Lc ((a.toNat * 65536 + b.toNat * 256) / 4096 % 64), Lc ((a.toNat * 65536 + b.toNat * 256) / 64 % 64), 61] := by
  have := a.toNat_lt
  have := b.toNat_lt
  unfold enc
  rw [encR_cons, fl4]
  show [Lc ((256 * 0 + a.toNat) / 4)] ++ encR ((256 * 0 + a.toNat) % 4) 1 [b] = _
  rw [encR_cons, fl5]
  show [Lc ((256 * 0 + a.toNat) / 4)] ++ ([Lc ((256 * ((256 * 0 + a.toNat) % 4) + b.toNat) / 16)] ++ fin ((256 * ((256 * 0 + a.toNat) % 4) + b.toNat) % 16) 2) = _
  simp only [fin, if_false, List.singleton_append, Nat.mul_zero, Nat.zero_add, show ¬ (2 = 0) by omega]
  rw [show (a.toNat * 65536 + b.toNat * 256) / 262144 = a.toNat / 4 by omega, show (a.toNat * 65536 + b.toNat * 256) / 4096 % 64 = (256 * (a.toNat % 4) + b.toNat) / 16 by omega, show (a.toNat * 65536 + b.toNat * 256) / 64 % 64 = (256 * (a.toNat % 4) + b.toNat) % 16 * 4 ^ (3 - 2) by omega]
  rfl
theorem enc_three (a b c : UInt8) (r : List UInt8) : enc (a :: b :: c :: r) = [Lc ((a.toNat * 65536 + b.toNat * 256 + c.toNat) / 262144), Lc ((a.toNat * 65536 + b.toNat * 256 + c.toNat) / 4096 % 64), Lc ((a.toNat * 65536 + b.toNat * 256 + c.toNat) / 64 % 64), Lc ((a.toNat * 65536 + b.toNat * 256 + c.toNat) % 64)] ++ enc r := by
  have := a.toNat_lt
  have := b.toNat_lt
  have := c.toNat_lt
  unfold enc
  rw [encR_cons, fl4]
  show [Lc ((256 * 0 + a.toNat) / 4)] ++ encR ((256 * 0 + a.toNat) % 4) 1 (b :: c :: r) = _
  rw [encR_cons, fl5]
  show [Lc ((256 * 0 + a.toNat) / 4)] ++ ([Lc ((256 * ((256 * 0 + a.toNat) % 4) + b.toNat) / 16)] ++ encR ((256 * ((256 * 0 + a.toNat) % 4) + b.toNat) % 16) 2 (c :: r)) = _
  rw [encR_cons, fl6]
  simp only [List.singleton_append, Nat.mul_zero, Nat.zero_add, List.cons_append, List.nil_append]
  rw [show (a.toNat * 65536 + b.toNat * 256 + c.toNat) / 262144 = a.toNat / 4 by omega, show (a.toNat * 65536 + b.toNat * 256 + c.toNat) / 4096 % 64 = (256 * (a.toNat % 4) + b.toNat) / 16 by omega, show (a.toNat * 65536 + b.toNat * 256 + c.toNat) / 64 % 64 = (256 * ((256 * (a.toNat % 4) + b.toNat) % 16) + c.toNat) / 64 by omega, show (a.toNat * 65536 + b.toNat * 256 + c.toNat) % 64 = (256 * ((256 * (a.toNat % 4) + b.toNat) % 16) + c.toNat) % 64 by omega]

end Go.Proofs.YtdbggicpcbecdaaGreatDoor.Enc
