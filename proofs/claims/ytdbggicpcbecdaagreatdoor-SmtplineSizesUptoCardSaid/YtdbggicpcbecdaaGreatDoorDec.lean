/-
  Numbers as texts, and back: plain laws. No program here.
-/
import Derived.Test.YtdbggicpcbecdaaGreatDoorText
import Derived.Lib.Atoi
import Derived.Lib.ItoaNum
namespace Go.Proofs.YtdbggicpcbecdaaGreatDoor.Dec
open Go.Proofs.YtdbggicpcbecdaaGreatDoor
set_option linter.unusedVariables false
set_option linter.unusedSimpArgs false

/-- A digit. -/
def isDig (c : UInt8) : Prop := 48 ≤ c.toNat ∧ c.toNat ≤ 57
instance (c : UInt8) : Decidable (isDig c) := by unfold isDig; infer_instance
/-- The number of digits behind another. -/
def numF (n : Nat) (l : List UInt8) : Nat := l.foldl (fun n c => 10 * n + (c.toNat - 48)) n
theorem numF_cons (n : Nat) (c : UInt8) (l : List UInt8) : numF n (c :: l) = numF (10 * n + (c.toNat - 48)) l := by simp only [numF, List.foldl_cons]
theorem numF_snoc (n : Nat) (l : List UInt8) (c : UInt8) : numF n (l ++ [c]) = 10 * numF n l + (c.toNat - 48) := by simp [numF]
theorem numF_lt (l : List UInt8) : ∀ n k : Nat, n < 10 ^ k → (∀ c ∈ l, isDig c) → numF n l < 10 ^ (k + l.length) := by
  induction l with
  | nil => intro n k h _; simpa only [numF, List.foldl_nil, List.length_nil, Nat.add_zero] using h
  | cons c l ih =>
    intro n k h hd
    have hc := hd c (by simp)
    unfold isDig at hc
    have h1 : 10 * n + (c.toNat - 48) < 10 ^ (k + 1) := by rw [Nat.pow_succ]; omega
    have := ih _ _ h1 (fun x hx => hd x (by simp [hx]))
    rw [numF_cons, List.length_cons, show k + (l.length + 1) = k + 1 + l.length by omega]
    exact this

theorem decFrom_all (l : List UInt8) : ∀ n : Nat, (∀ c ∈ l, isDig c) → Lib.decFrom n l = some (numF n l) := by
  induction l with
  | nil => intro n _; rfl
  | cons c l ih =>
    intro n hd
    have hc := hd c (by simp)
    unfold isDig at hc
    unfold Lib.decFrom Lib.digitVal
    rw [if_pos hc]
    show Lib.decFrom (n * 10 + (c.toNat - 48)) l = _
    rw [ih _ (fun x hx => hd x (by simp [hx])), numF_cons, Nat.mul_comm]
theorem decFrom_some (l : List UInt8) : ∀ n m : Nat, Lib.decFrom n l = some m → (∀ c ∈ l, isDig c) ∧ m = numF n l := by
  induction l with
  | nil => intro n m h; exact ⟨by simp, by simpa [Lib.decFrom, numF] using h.symm⟩
  | cons c l ih =>
    intro n m h
    unfold Lib.decFrom Lib.digitVal at h
    by_cases hc : 48 ≤ c.toNat ∧ c.toNat ≤ 57
    · rw [if_pos hc] at h
      have h2 : Lib.decFrom (n * 10 + (c.toNat - 48)) l = some m := h
      obtain ⟨h3, h4⟩ := ih _ _ h2
      refine ⟨fun x hx => ?_, by rw [h4, numF_cons, Nat.mul_comm]⟩
      rcases List.mem_cons.mp hx with e | e
      · rw [e]; exact hc
      · exact h3 x e
    · rw [if_neg hc] at h
      cases h

theorem dg_dig (n : Nat) : isDig (Text.dg n) := by unfold isDig; rw [Text.dg_nat]; omega
theorem digs_dig (n : Nat) : ∀ c ∈ Text.digs n, isDig c := by
  induction n using Text.digs.induct with
  | case1 n h => rw [Text.digs_small h]; intro c hc; rw [List.mem_singleton.mp hc]; exact dg_dig n
  | case2 n h ih =>
    rw [Text.digs_big h]
    intro c hc
    rcases List.mem_append.mp hc with e | e
    · exact ih c e
    · rw [List.mem_singleton.mp e]; exact dg_dig n
theorem digs_num (n : Nat) : numF 0 (Text.digs n) = n := by
  induction n using Text.digs.induct with
  | case1 n h => rw [Text.digs_small h]; simp [numF, Text.dg_nat]; omega
  | case2 n h ih =>
    rw [Text.digs_big h, numF_snoc, ih, Text.dg_nat]
    omega
theorem digs_ne (n : Nat) : Text.digs n ≠ [] := by
  intro h
  have := Text.digs_len_pos n
  rw [h] at this
  simp at this
theorem decDigits_digs (n : Nat) : Lib.decDigits n = Text.digs n := by
  induction n using Text.digs.induct with
  | case1 n h =>
    rw [Text.digs_small h, Lib.decDigits, dif_pos h]
    unfold Text.dg
    rw [Nat.mod_eq_of_lt h]
  | case2 n h ih =>
    rw [Text.digs_big h, Lib.decDigits, dif_neg h, ih]
    rfl
theorem itoa_digs (n : Nat) : Lib.itoa n = Text.digs n := by
  unfold Lib.itoa
  rw [if_neg (by omega), Int.toNat_natCast, decDigits_digs]

/-- What the program's Number says. -/
def numP (l : List UInt8) (most : Int) : Int × Bool :=
  if 10 < l.length then (0, false) else match Lib.atoi l with
    | none => (0, false)
    | some n => if Lib.itoa n ≠ l ∨ n < 0 ∨ most < n then (0, false) else (n, true)
/-- What the reference's says. -/
def numR (l : List UInt8) (most : Int) : Int × Bool :=
  if l.length < 1 ∨ 10 < l.length then (0, false)
  else if ¬ ∀ c ∈ l, isDig c then (0, false)
  else if Text.digs (numF 0 l) ≠ l ∨ most < (numF 0 l : Int) then (0, false) else ((numF 0 l : Int), true)

theorem atoi_digits (l : List UInt8) (hne : l ≠ []) (hd : ∀ c ∈ l, isDig c) : Lib.atoi l = some (numF 0 l : Int) := by
  cases l with
  | nil => exact absurd rfl hne
  | cons b r =>
    have hb := hd b (by simp)
    unfold isDig at hb
    have h45 : (b == 45) = false := by rw [beq_eq_false_iff_ne]; rintro rfl; exact absurd hb.1 (by decide)
    have h43 : (b == 43) = false := by rw [beq_eq_false_iff_ne]; rintro rfl; exact absurd hb.1 (by decide)
    show (if (b == 45) = true then _ else if (b == 43) = true then _ else (Lib.decNat (b :: r)).map fun (m : Nat) => (m : Int)) = _
    rw [h45, h43, if_neg (by decide), if_neg (by decide)]
    unfold Lib.decNat
    rw [if_neg (by simp), decFrom_all _ _ hd]
    rfl
theorem num_canon (n : Int) (l : List UInt8) (h0 : 0 ≤ n) (h : Lib.itoa n = l) : l ≠ [] ∧ (∀ c ∈ l, isDig c) ∧ (numF 0 l : Int) = n := by
  obtain ⟨k, rfl⟩ : ∃ k : Nat, n = k := ⟨n.toNat, by omega⟩
  rw [itoa_digs] at h
  subst h
  exact ⟨digs_ne k, digs_dig k, by rw [digs_num]⟩

theorem num_eq (l : List UInt8) (most : Int) : numP l most = numR l most := by
  unfold numP numR
  by_cases h10 : 10 < l.length
  · rw [if_pos h10, if_pos (.inr h10)]
  rw [if_neg h10]
  by_cases h1 : l.length < 1
  · rw [if_pos (.inl h1)]
    have : l = [] := List.eq_nil_of_length_eq_zero (by omega)
    subst this
    rfl
  rw [if_neg (show ¬ (l.length < 1 ∨ 10 < l.length) by omega)]
  have hne : l ≠ [] := by rintro rfl; simp at h1
  by_cases hd : ∀ c ∈ l, isDig c
  · rw [if_neg (by simpa using hd), atoi_digits l hne hd]
    show (if Lib.itoa (numF 0 l : Int) ≠ l ∨ (numF 0 l : Int) < 0 ∨ most < (numF 0 l : Int) then ((0 : Int), false) else ((numF 0 l : Int), true)) = _
    rw [itoa_digs]
    by_cases hc : Text.digs (numF 0 l) ≠ l ∨ most < (numF 0 l : Int)
    · rw [if_pos hc, if_pos (by rcases hc with e | e; exact .inl e; exact .inr (.inr e))]
    · rw [if_neg hc, if_neg (by rintro (e | e | e); exact hc (.inl e); omega; exact hc (.inr e))]
  · rw [if_pos hd]
    cases ha : Lib.atoi l with
    | none => rfl
    | some n =>
      show (if Lib.itoa n ≠ l ∨ n < 0 ∨ most < n then ((0 : Int), false) else (n, true)) = _
      rw [if_pos]
      by_cases h0 : n < 0
      · exact .inr (.inl h0)
      · exact .inl (fun e => hd (num_canon n l (by omega) e).2.1)

end Go.Proofs.YtdbggicpcbecdaaGreatDoor.Dec
