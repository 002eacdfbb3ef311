/-
  What a slice of slices of bytes says of its cells.
-/
import Derived.Test.YtboijleajaiiiaaRow
import Derived.Test.YtboijleajaiiiaaLines
import Derived.Deep.Matrix
namespace Go.Proofs.Ytboijleajaiiiaa
open Go.RowKit Own Go.Deep
open Go.ChangeShapes Go.WideShapes
set_option linter.unusedVariables false
set_option linter.unusedSimpArgs false

theorem rows_of {W : World} {a0 : Option Addr} {len0 cap0 : Nat} {X : Addr → Nat → Nat → (Nat → Option Addr) → (Nat → Nat) → (Nat → List Int) → Prop} {Y : Prop}
    (h : ((Value.slice a0 len0 cap0).cells.toList = [.slice none 0 0] ∧ Y) ∨ ∃ (a : Addr) (len cap : Nat) (A : Nat → Option Addr) (L C : Nat → Nat) (Z : Nat → List Int), (Value.slice a0 len0 cap0).cells.toList = [.slice (some a) len cap] ∧ 0 ≤ a.block ∧ len ≤ cap ∧ cap ≤ maxLen ∧ X a len cap A L Z ∧
      ∀ r, r < cap → W.cell? (a.add r) = some (.slice (A r) (L r) (C r)) ∧ L r ≤ C r ∧ C r ≤ maxLen ∧ (Z r).length = C r ∧ (∀ n ∈ Z r, (Lit.int .u8 n).wf = true) ∧ (A r = none → C r = 0) ∧
        ∀ a', A r = some a' → 0 ≤ a'.block ∧ ∀ c, c < C r → W.cell? (a'.add c) = some (.int .u8 ((Z r).getD c 0))) :
    ∃ (A : Nat → Option Addr) (C : Nat → Nat) (R : Nat → List UInt8), len0 ≤ 9223372036854775807 ∧ ∀ r, r < len0 → ∃ a, a0 = some a ∧ W.cell? (a.add r) = some (.slice (A r) (R r).length (C r)) ∧ Src W (A r) (bv (R r)) ∧ (R r).length ≤ 9223372036854775807 := by
  rcases h with ⟨hcs, _⟩ | ⟨a, len, cap, A, L, C, Z, hcs, _, hl, hm, _, hr⟩
  · simp [Value.cells] at hcs
    obtain ⟨rfl, rfl, rfl⟩ := hcs
    exact ⟨fun _ => none, fun _ => 0, fun _ => [], by omega, fun r hr => by omega⟩
  · simp [Value.cells] at hcs
    obtain ⟨rfl, rfl, rfl⟩ := hcs
    have hex : ∀ r, ∃ bs : List UInt8, r < cap0 → Src W (A r) (bv bs) ∧ L r = bs.length := by
      intro r
      by_cases h : r < cap0
      · obtain ⟨_, h1, h2, h3, h4, h5, h6⟩ := hr r h
        have hw : IsRow .u8 W (A r) (L r) (C r) (Z r) := by
          cases hA : A r with
          | none =>
            have h0 := h5 hA
            exact .inl ⟨rfl, by omega, h0, List.eq_nil_of_length_eq_zero (by omega)⟩
          | some x => exact .inr ⟨x, rfl, h1, h2, h3, fun i hi => (h6 x hA).2 i (by omega), h4⟩
        obtain ⟨bs, hb⟩ := isRow_bytes hw
        exact ⟨bs, fun _ => hb⟩
      · exact ⟨[], fun h' => absurd h' h⟩
    obtain ⟨R, hR⟩ := Classical.axiomOfChoice hex
    refine ⟨A, C, R, by unfold maxLen at hm; omega, fun r hlt => ⟨a, rfl, ?_, (hR r (by omega)).1, ?_⟩⟩
    · have := (hr r (by omega)).1
      rw [(hR r (by omega)).2] at this
      exact this
    · have h1 := (hr r (by omega)).2.1
      have h2 := (hr r (by omega)).2.2.1
      have h3 := (hR r (by omega)).2
      unfold maxLen at h2
      omega

end Go.Proofs.Ytboijleajaiiiaa
