/-
  Lines of a stream of bytes: plain lists. No program here.
-/
import Derived.Lib.IndexMore
namespace Go.Proofs.Ytboijleajaiiiaa.Pure
open Go
set_option linter.unusedVariables false
set_option linter.unusedSimpArgs false

/-- What stands ahead of the first CR LF, and behind it. -/
def split : List UInt8 → Option (List UInt8 × List UInt8)
  | [] => none
  | c :: r => if c = 13 ∧ r.head? = some 10 then some ([], r.tail) else (split r).map fun p => (c :: p.1, p.2)

theorem split_eq : ∀ {l a b : List UInt8}, split l = some (a, b) → l = a ++ 13 :: 10 :: b
  | [], a, b, h => by simp [split] at h
  | c :: r, a, b, h => by
    unfold split at h
    split at h
    · rename_i hc
      obtain ⟨rfl, h10⟩ := hc
      cases r with
      | nil => simp at h10
      | cons d r' => simp at h10 h; obtain ⟨rfl, rfl⟩ := h; subst h10; simp
    · simp at h
      obtain ⟨a', hs, rfl⟩ := h
      rw [split_eq hs]
      simp

theorem split_append : ∀ {l a b : List UInt8} (m : List UInt8), split l = some (a, b) → split (l ++ m) = some (a, b ++ m)
  | [], a, b, m, h => by simp [split] at h
  | c :: r, a, b, m, h => by
    unfold split at h
    rw [List.cons_append]
    unfold split
    split at h
    · rename_i hc
      obtain ⟨rfl, h10⟩ := hc
      cases r with
      | nil => simp at h10
      | cons d r' => simp at h10 h; obtain ⟨rfl, rfl⟩ := h; simp [h10]
    · rename_i hc
      simp at h
      obtain ⟨a', hs, rfl⟩ := h
      have hr : r ≠ [] := by rintro rfl; simp [split] at hs
      have hh : (r ++ m).head? = r.head? := by cases r with
        | nil => exact absurd rfl hr
        | cons d r' => rfl
      rw [if_neg (by rw [hh]; exact hc), split_append m hs]
      rfl

theorem split_index : ∀ l : List UInt8, (split l = none ∧ Lib.index l [13, 10] = -1) ∨ ∃ n : Nat, n + 2 ≤ l.length ∧ Lib.index l [13, 10] = n ∧ split l = some (l.take n, l.drop (n + 2))
  | [] => .inl ⟨rfl, rfl⟩
  | c :: r => by
    unfold split Lib.index
    by_cases hc : c = 13 ∧ r.head? = some 10
    · rw [if_pos hc]
      obtain ⟨rfl, h10⟩ := hc
      cases r with
      | nil => simp at h10
      | cons d r' =>
        simp at h10
        subst h10
        exact .inr ⟨0, by simp, by simp, by simp⟩
    · rw [if_neg hc]
      have hp : ¬ (([13, 10] : List UInt8).isPrefixOf (c :: r) = true) := by
        intro h
        simp [List.isPrefixOf] at h
        apply hc
        refine ⟨h.1.symm, ?_⟩
        cases r with
        | nil => simp at h
        | cons d r' => simp at h; simp [h.2]
      rw [if_neg hp]
      rcases split_index r with ⟨h1, h2⟩ | ⟨n, h1, h2, h3⟩
      · exact .inl ⟨by rw [h1]; rfl, by rw [h2]; rfl⟩
      · refine .inr ⟨n + 1, by simp only [List.length_cons]; omega, ?_, ?_⟩
        · rw [h2]
          have : ((n : Int) == -1) = false := by simp
          rw [this]
          rfl
        · rw [h3]
          simp

/-- What the next thing is: its kind, its bytes, what is left. -/
def kindOf (most : Int) (a : List UInt8) : Int := if most < (a.length : Int) + 2 then 2 else 1
def textOf (most : Int) (a : List UInt8) : List UInt8 := if most < (a.length : Int) + 2 then [] else a

/-- Lines were taken off: what was given, what is left. -/
inductive Part (most : Int) (b : List UInt8) : List (Int × List UInt8) → List UInt8 → Prop
  | none : Part most b [] b
  | snoc {o : List (Int × List UInt8)} {m a r : List UInt8} : Part most b o m → split m = some (a, r) → Part most b (o ++ [(kindOf most a, textOf most a)]) r

theorem Part.append {most : Int} {b : List UInt8} {o : List (Int × List UInt8)} {m : List UInt8} (h : Part most b o m) (c : List UInt8) : Part most (b ++ c) o (m ++ c) := by
  induction h with
  | none => exact .none
  | snoc _ hs ih => exact .snoc ih (split_append c hs)

/-- At each place but the last a line was taken. -/
theorem Part.at_ {most : Int} {b : List UInt8} {o : List (Int × List UInt8)} {m : List UInt8} (h : Part most b o m) : ∀ i, i < o.length → ∃ mi a r, Part most b (o.take i) mi ∧ split mi = some (a, r) ∧ o[i]? = some (kindOf most a, textOf most a) := by
  induction h with
  | none => intro i hi; simp at hi
  | @snoc o m a r hp hs ih =>
    intro i hi
    by_cases he : i < o.length
    · obtain ⟨mi, a', r', h1, h2, h3⟩ := ih i he
      refine ⟨mi, a', r', ?_, h2, ?_⟩
      · rw [List.take_append_of_le_length (by omega)]; exact h1
      · rw [List.getElem?_append_left he]; exact h3
    · have : i = o.length := by simp at hi; omega
      subst this
      exact ⟨m, a, r, by simpa using hp, hs, by simp⟩

theorem Part.det {most : Int} {b : List UInt8} {o : List (Int × List UInt8)} {m m' : List UInt8} (h : Part most b o m) (h' : Part most b o m') : m = m' := by
  induction h generalizing m' with
  | none =>
    generalize ho : ([] : List (Int × List UInt8)) = o' at h'
    cases h' with
    | none => rfl
    | snoc _ _ => simp at ho
  | @snoc o m a r hp hs ih =>
    generalize ho : o ++ [(kindOf most a, textOf most a)] = o' at h'
    cases h' with
    | none => simp at ho
    | @snoc o2 m2 a2 r2 hp2 hs2 =>
      have h2 := List.append_inj' ho rfl
      obtain ⟨rfl, _⟩ := h2
      have := ih hp2
      subst this
      rw [hs] at hs2
      simp at hs2
      exact hs2.2

theorem Part.len {most : Int} {b : List UInt8} {o : List (Int × List UInt8)} {m : List UInt8} (h : Part most b o m) : 2 * o.length + m.length ≤ b.length := by
  induction h with
  | none => simp
  | snoc _ hs ih =>
    have := congrArg List.length (split_eq hs)
    simp at this ⊢
    omega

end Go.Proofs.Ytboijleajaiiiaa.Pure
