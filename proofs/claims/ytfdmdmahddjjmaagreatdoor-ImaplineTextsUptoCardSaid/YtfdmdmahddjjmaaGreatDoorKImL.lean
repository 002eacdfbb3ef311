/-
  What is left is no longer than what there was: plain laws.
-/
import Derived.Test.YtfdmdmahddjjmaaGreatDoorKIm
namespace Go.Proofs.YtfdmdmahddjjmaaGreatDoor.Im
open Go.Proofs.YtfdmdmahddjjmaaGreatDoor
set_option linter.unusedVariables false
set_option linter.unusedSimpArgs false

theorem sign_le {t s q : Bt} (h : sign t s = some q) : q.length + t.length = s.length := by
  unfold sign at h
  split at h
  · rename_i hp
    cases h
    have h2 : t.length ≤ s.length := by
      unfold Lib.hasPrefix at hp
      exact (List.isPrefixOf_iff_prefix.1 hp).length_le
    rw [List.length_drop]
    omega
  · cases h
theorem takes_lt {t s q : Bt} (h : takes t s = (true, q)) : q.length + t.length = s.length := by
  have h1 : sign t s = some q := by
    unfold takes at h
    unfold sign
    split at h
    · rename_i hp
      cases h
      rw [if_pos hp]
    · cases h
  exact sign_le h1
theorem takes_no {t s q : Bt} (h : takes t s = (false, q)) : q = s := by
  unfold takes at h
  split at h
  · cases h
  · cases h; rfl
theorem takes_le (t s : Bt) : (takes t s).2.length ≤ s.length := by
  unfold takes
  split <;> simp
theorem drop_le (p : UInt8 → Bool) (s : Bt) : (s.dropWhile p).length ≤ s.length := (List.dropWhile_suffix p).length_le
theorem word_le (s : Bt) : (word s).2.length ≤ s.length := drop_le _ s
theorem number_le {lo hi : Int} {s t : Bt} {n : Int} (h : number lo hi s = some (n, t)) : t.length ≤ s.length := by
  unfold number at h
  split at h
  · cases h; exact drop_le _ s
  · cases h
theorem set_le {s t : Bt} {l : List Rg} (h : set s = some (l, t)) : t.length ≤ s.length := by
  unfold set at h
  split at h
  · cases h; exact drop_le _ s
  · cases h
theorem literal_le {s t x : Bt} (h : literal s = some (x, t)) : t.length ≤ s.length := by
  unfold literal at h
  obtain ⟨s1, h1, h⟩ := Option.bind_eq_some_iff.1 h
  obtain ⟨⟨n, s2⟩, h2, h⟩ := Option.bind_eq_some_iff.1 h
  obtain ⟨s3, h3, h⟩ := Option.bind_eq_some_iff.1 h
  have := sign_le h1
  have := number_le h2
  have := sign_le h3
  split at h
  · cases h
    simp at *
    omega
  · cases h
theorem quoteL_le (n : Nat) : ∀ (s t x : Bt), s.length ≤ n → quoteL s = some (x, t) → t.length ≤ s.length := by
  induction n with
  | zero =>
    intro s t x hn h
    have : s = [] := List.eq_nil_of_length_eq_zero (by omega)
    subst this
    rw [quoteL.eq_def] at h
    cases h
  | succ n ih =>
    intro s t x hn h
    cases s with
    | nil => rw [quoteL.eq_def] at h; cases h
    | cons c s =>
      rw [quoteL.eq_def] at h
      dsimp only at h
      simp only [List.length_cons] at hn
      split at h
      · cases h; simp
      split at h
      · cases s with
        | nil => cases h
        | cons d s =>
          dsimp only at h
          simp only [List.length_cons] at hn
          split at h
          · obtain ⟨⟨a, b⟩, h1, h2⟩ := Option.map_eq_some_iff.1 h
            cases h2
            have := ih s _ a (by omega) h1
            simp
            omega
          · cases h
      split at h
      · cases h
      · obtain ⟨⟨a, b⟩, h1, h2⟩ := Option.map_eq_some_iff.1 h
        cases h2
        have := ih s _ a (by omega) h1
        simp
        omega
theorem quoted_le {s t x : Bt} (h : Im.quoted s = some (x, t)) : t.length ≤ s.length := by
  unfold Im.quoted at h
  obtain ⟨s1, h1, h⟩ := Option.bind_eq_some_iff.1 h
  have := sign_le h1
  have := quoteL_le s1.length s1 _ _ (Nat.le_refl _) h
  omega
theorem text_le {p : UInt8 → Bool} {s t x : Bt} (h : Im.text p s = some (x, t)) : t.length ≤ s.length := by
  unfold Im.text at h
  split at h
  · exact quoted_le h
  split at h
  · exact literal_le h
  split at h
  · cases h
  · cases h; exact drop_le _ s
theorem then_le {s t x : Bt} (h : then_ s = some (x, t)) : t.length ≤ s.length := by
  unfold then_ at h
  obtain ⟨s1, h1, h⟩ := Option.bind_eq_some_iff.1 h
  have := sign_le h1
  have := text_le h
  omega
theorem flag_lt {s t : Bt} {i : Nat} (h : flag s = some (i, t)) : t.length < s.length := by
  unfold flag at h
  obtain ⟨s1, h1, h⟩ := Option.bind_eq_some_iff.1 h
  obtain ⟨k, h2, h3⟩ := Option.map_eq_some_iff.1 h
  cases h3
  have := sign_le h1
  have := word_le s1
  simp at *
  omega
theorem numsL_le (f : Nat) : ∀ (l : List Int) (s t : Bt) (r : List Int × Bool), numsL f l s = some (r, t) → t.length ≤ s.length := by
  induction f with
  | zero => intro l s t r h; cases h
  | succ f ih =>
    intro l s t r h
    rw [numsL.eq_def] at h
    dsimp only at h
    split at h
    · obtain ⟨⟨n, s1⟩, h1, h⟩ := Option.bind_eq_some_iff.1 h
      have k1 := number_le h1
      dsimp only at h
      split at h
      · split at h
        · have := ih _ _ _ _ h
          have := takes_le [46] s1
          omega
        · cases h; exact k1
      · cases h
    · cases h; exact Nat.le_refl _
theorem section_le {s t : Bt} {r : List Int × Int} (h : section_ s = some (r, t)) : t.length ≤ s.length := by
  unfold section_ at h
  split at h
  · cases h; exact Nat.le_refl _
  obtain ⟨⟨⟨l, k⟩, s1⟩, h1, h⟩ := Option.bind_eq_some_iff.1 h
  have k1 := numsL_le _ _ _ _ _ h1
  dsimp only at h
  split at h
  · cases h; exact k1
  · obtain ⟨k, h2, h3⟩ := Option.map_eq_some_iff.1 h
    cases h3
    exact Nat.le_trans (word_le s1) k1
theorem item_le {s t : Bt} {r : It} (h : item s = some (r, t)) : t.length ≤ s.length := by
  have k0 := word_le s
  unfold item at h
  split at h
  · cases h
  split at h
  · cases h; exact k0
  obtain ⟨s1, h1, h⟩ := Option.bind_eq_some_iff.1 h
  obtain ⟨⟨q, s2⟩, h2, h⟩ := Option.bind_eq_some_iff.1 h
  obtain ⟨s3, h3, h⟩ := Option.bind_eq_some_iff.1 h
  have k1 := sign_le h1
  have k2 := section_le h2
  have k3 := sign_le h3
  have k4 := takes_le [60] s3
  dsimp only at *
  split at h
  · obtain ⟨⟨a, s4⟩, h4, h⟩ := Option.bind_eq_some_iff.1 h
    obtain ⟨s5, h5, h⟩ := Option.bind_eq_some_iff.1 h
    obtain ⟨⟨c, s6⟩, h6, h⟩ := Option.bind_eq_some_iff.1 h
    obtain ⟨s7, h7, h⟩ := Option.map_eq_some_iff.1 h
    cases h
    have := number_le h4
    have := sign_le h5
    have := number_le h6
    have := sign_le h7
    dsimp only at *
    omega
  · cases h
    omega
theorem key_le (d : Nat) : ∀ {s t : Bt} {r : Ky}, key d s = some (r, t) → t.length ≤ s.length := by
  induction d with
  | zero =>
    intro s t r h
    have k0 := word_le s
    rw [key.eq_def] at h
    dsimp only at h
    split at h
    · obtain ⟨⟨q, s1⟩, h1, h2⟩ := Option.map_eq_some_iff.1 h
      cases h2
      exact set_le h1
    split at h
    · cases h; exact k0
    split at h
    · cases h; exact k0
    split at h
    · cases h
    split at h
    · obtain ⟨s1, h1, h⟩ := Option.bind_eq_some_iff.1 h
      obtain ⟨⟨q, s2⟩, h2, h3⟩ := Option.map_eq_some_iff.1 h
      cases h3
      have := sign_le h1
      have := set_le h2
      dsimp only at *
      omega
    split at h
    · obtain ⟨⟨q, s2⟩, h2, h3⟩ := Option.map_eq_some_iff.1 h
      cases h3
      have := then_le h2
      dsimp only at *
      omega
    split at h
    · obtain ⟨s1, h1, h⟩ := Option.bind_eq_some_iff.1 h
      obtain ⟨⟨q, s2⟩, h2, h3⟩ := Option.map_eq_some_iff.1 h
      cases h3
      have := sign_le h1
      have := number_le h2
      dsimp only at *
      omega
    · cases h
  | succ d ih =>
    intro s t r h
    have k0 := word_le s
    rw [key.eq_def] at h
    dsimp only at h
    split at h
    · obtain ⟨⟨q, s1⟩, h1, h2⟩ := Option.map_eq_some_iff.1 h
      cases h2
      exact set_le h1
    split at h
    · cases h; exact k0
    split at h
    · cases h; exact k0
    split at h
    · obtain ⟨s1, h1, h⟩ := Option.bind_eq_some_iff.1 h
      obtain ⟨⟨q, s2⟩, h2, h3⟩ := Option.map_eq_some_iff.1 h
      cases h3
      have := sign_le h1
      have := ih h2
      dsimp only at *
      omega
    split at h
    · obtain ⟨s1, h1, h⟩ := Option.bind_eq_some_iff.1 h
      obtain ⟨⟨q, s2⟩, h2, h3⟩ := Option.map_eq_some_iff.1 h
      cases h3
      have := sign_le h1
      have := set_le h2
      dsimp only at *
      omega
    split at h
    · obtain ⟨⟨q, s2⟩, h2, h3⟩ := Option.map_eq_some_iff.1 h
      cases h3
      have := then_le h2
      dsimp only at *
      omega
    split at h
    · obtain ⟨s1, h1, h⟩ := Option.bind_eq_some_iff.1 h
      obtain ⟨⟨q, s2⟩, h2, h3⟩ := Option.map_eq_some_iff.1 h
      cases h3
      have := sign_le h1
      have := number_le h2
      dsimp only at *
      omega
    · cases h
end Go.Proofs.YtfdmdmahddjjmaaGreatDoor.Im
