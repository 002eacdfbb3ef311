/-
  Digits of a number: plain lists of bytes. No program here.
-/
namespace Go.Proofs.YtdbggicpcbecdaaGreatDoor.Text
set_option linter.unusedVariables false
set_option linter.unusedSimpArgs false

/-- A digit's byte. -/
def dg (n : Nat) : UInt8 := UInt8.ofNat (48 + n % 10)
/-- The last k digits of n. -/
def lastL : Nat → Nat → List UInt8
  | 0, _ => []
  | k + 1, n => dg (n / 10 ^ k) :: lastL k n
/-- The digits of n. -/
def digs (n : Nat) : List UInt8 := if h : n < 10 then [dg n] else digs (n / 10) ++ [dg n]
termination_by n

theorem lastL_len : ∀ k n, (lastL k n).length = k
  | 0, _ => rfl
  | k + 1, n => by simp [lastL, lastL_len k n]
theorem lastL_snoc : ∀ k n, lastL (k + 1) n = lastL k (n / 10) ++ [dg n]
  | 0, n => by simp [lastL]
  | k + 1, n => by
    have h := lastL_snoc k n
    show dg (n / 10 ^ (k + 1)) :: lastL (k + 1) n = dg (n / 10 / 10 ^ k) :: lastL k (n / 10) ++ [dg n]
    rw [h, Nat.div_div_eq_div_mul, Nat.pow_succ, Nat.mul_comm]
    rfl
theorem digs_small {n : Nat} (h : n < 10) : digs n = [dg n] := by rw [digs, dif_pos h]
theorem digs_big {n : Nat} (h : ¬ n < 10) : digs n = digs (n / 10) ++ [dg n] := by rw [digs, dif_neg h]
theorem digs_last (n : Nat) : ∀ k, 10 ^ k ≤ n ∨ k = 0 → digs n = digs (n / 10 ^ k) ++ lastL k n
  | 0, _ => by simp [lastL]
  | k + 1, h => by
    have hk : 10 ^ (k + 1) ≤ n := by omega
    have h1 : 10 ^ k ≤ n := Nat.le_trans (Nat.pow_le_pow_right (by omega) (by omega)) hk
    rw [digs_last n k (.inl h1)]
    have h2 : ¬ n / 10 ^ k < 10 := by
      intro h3
      have := (Nat.div_lt_iff_lt_mul (Nat.pow_pos (by omega : 0 < 10))).1 h3
      rw [Nat.pow_succ] at hk
      omega
    rw [digs_big h2, Nat.div_div_eq_div_mul, ← Nat.pow_succ]
    simp [lastL]
theorem digs_len_pos (n : Nat) : 0 < (digs n).length := by
  rw [digs]
  split <;> simp
theorem digs_len : ∀ (k n : Nat), n < 10 ^ (k + 1) → (digs n).length ≤ k + 1
  | 0, n, h => by rw [digs_small (by simpa using h)]; simp
  | k + 1, n, h => by
    by_cases h1 : n < 10
    · rw [digs_small h1]; simp
    · rw [digs_big h1]
      have := digs_len k (n / 10) ((Nat.div_lt_iff_lt_mul (by omega)).2 (by rw [Nat.pow_succ] at h; exact h))
      simp
      omega
theorem pad_last : ∀ (k n : Nat), n < 10 ^ (k + 1) → List.replicate (k + 1 - (digs n).length) 48 ++ digs n = lastL (k + 1) n
  | 0, n, h => by rw [digs_small (by simpa using h)]; simp [lastL]
  | k + 1, n, h => by
    have h2 : n / 10 < 10 ^ (k + 1) := (Nat.div_lt_iff_lt_mul (by omega)).2 (by rw [Nat.pow_succ] at h; exact h)
    rw [lastL_snoc, ← pad_last k (n / 10) h2]
    by_cases h1 : n < 10
    · have h0 : n / 10 = 0 := by omega
      rw [digs_small h1, h0, digs_small (by omega)]
      simp only [List.length_cons, List.length_nil]
      have e : k + 1 + 1 - (0 + 1) = (k + 1 - (0 + 1)) + 1 := by omega
      rw [e, List.replicate_succ', List.append_assoc, List.append_assoc]
      rfl
    · rw [digs_big h1]
      simp only [List.length_append, List.length_cons, List.length_nil]
      have e : k + 1 + 1 - ((digs (n / 10)).length + (0 + 1)) = k + 1 - (digs (n / 10)).length := by omega
      rw [e, List.append_assoc]
theorem dg_nat (n : Nat) : (dg n).toNat = 48 + n % 10 := by
  unfold dg
  rw [UInt8.toNat_ofNat']
  omega

end Go.Proofs.YtdbggicpcbecdaaGreatDoor.Text
