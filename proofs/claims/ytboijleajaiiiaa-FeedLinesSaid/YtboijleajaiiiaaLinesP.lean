/-
  Lines that are good: plain lists. No program here.
-/
import Derived.Test.YtboijleajaiiiaaPure
namespace Go.Proofs.Ytboijleajaiiiaa.Pure
open Go
set_option linter.unusedVariables false
set_option linter.unusedSimpArgs false

/-- No CR LF begins ahead of place k. -/
def Clean (l : List UInt8) (k : Nat) : Prop := ∀ j, j + 1 < k → l[j]? = some 13 → l[j + 1]? ≠ some 10
/-- A line that is short enough, holds no CR LF, and doesn't end in CR. -/
def Good (l : List UInt8) : Prop := l.length ≤ 500 ∧ l.getLast? ≠ some 13 ∧ Clean l l.length

theorem clean_succ {l : List UInt8} {k : Nat} (h : Clean l k) (h2 : ∀ j, k = j + 1 → l[j]? = some 13 → l[k]? ≠ some 10) : Clean l (k + 1) := by
  intro j hj
  by_cases e : j + 1 < k
  · exact h j e
  · have : k = j + 1 := by omega
    subst this
    exact h2 j rfl

theorem split_good : ∀ {l : List UInt8} (r : List UInt8), l.getLast? ≠ some 13 → Clean l l.length → split (l ++ 13 :: 10 :: r) = some (l, r)
  | [], r, _, _ => by simp [split]
  | c :: t, r, hl, hc => by
    have ht : t.getLast? ≠ some 13 := by
      cases t with
      | nil => simp
      | cons d t' => rw [List.getLast?_cons_cons] at hl; exact hl
    have hct : Clean t t.length := fun j hj h1 => hc (j + 1) (by simp; omega) (by simpa using h1)
    rw [List.cons_append]
    unfold split
    rw [if_neg, split_good r ht hct]
    · rfl
    · rintro ⟨rfl, h10⟩
      cases t with
      | nil => simp at hl
      | cons d t' =>
        simp at h10
        subst h10
        exact hc 0 (by simp) (by simp) (by simp)

/-- The lines one behind the other, each with its end. -/
def flat : List (List UInt8) → List UInt8
  | [] => []
  | t :: ts => t ++ 13 :: 10 :: flat ts
theorem flat_append : ∀ (ts : List (List UInt8)) (t : List UInt8), flat (ts ++ [t]) = flat ts ++ (t ++ [13, 10])
  | [], t => by simp [flat]
  | u :: ts, t => by simp [flat, flat_append ts t]
theorem flat_len : ∀ (ts : List (List UInt8)), (∀ t ∈ ts, Good t) → (flat ts).length ≤ 502 * ts.length
  | [], _ => by simp [flat]
  | t :: ts, h => by
    have h1 := (h t (by simp)).1
    have h2 := flat_len ts (fun u hu => h u (by simp [hu]))
    simp [flat]
    omega
theorem flat_split {ts : List (List UInt8)} (h : ∀ t ∈ ts, Good t) {i : Nat} {t : List UInt8} (hi : ts[i]? = some t) : split (flat (ts.drop i)) = some (t, flat (ts.drop (i + 1))) := by
  have hlt : i < ts.length := by
    rcases Nat.lt_or_ge i ts.length with h' | h'
    · exact h'
    · rw [List.getElem?_eq_none h'] at hi; simp at hi
  have hg := h t (List.mem_of_getElem? hi)
  rw [List.drop_eq_getElem_cons hlt]
  rw [List.getElem?_eq_getElem hlt] at hi
  simp at hi
  rw [hi]
  exact split_good _ hg.2.1 hg.2.2
theorem good_kind {t : List UInt8} (h : Good t) : kindOf 512 t = 1 ∧ textOf 512 t = t := by
  unfold kindOf textOf
  have := h.1
  rw [if_neg (by omega), if_neg (by omega)]
  exact ⟨rfl, rfl⟩

end Go.Proofs.Ytboijleajaiiiaa.Pure
