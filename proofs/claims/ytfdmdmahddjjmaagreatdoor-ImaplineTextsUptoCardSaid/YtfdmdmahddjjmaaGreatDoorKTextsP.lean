/-
  ImaplineTexts: the plain law.
-/
import Derived.Test.YtfdmdmahddjjmaaGreatDoorKIm
import Derived.Test.YtfdmdmahddjjmaaGreatDoorPkOwn
namespace Go.Proofs.YtfdmdmahddjjmaaGreatDoor.Im
open Go.Proofs.YtfdmdmahddjjmaaGreatDoor
set_option linter.unusedVariables false
set_option linter.unusedSimpArgs false

abbrev createP : Bt := [116, 32, 67, 82, 69, 65, 84, 69, 32]
theorem hasPre (c : UInt8) (X : Bt) : Lib.hasPrefix (c :: X) [c] = true := by simp [Lib.hasPrefix, List.isPrefixOf]
theorem hasPre_ne {c d : UInt8} (X : Bt) (h : d ≠ c) : Lib.hasPrefix (d :: X) [c] = false := by
  unfold Lib.hasPrefix
  simp [List.isPrefixOf]
  exact fun k => h k.symm
theorem tag_create (X : Bt) : tagS (createP ++ X) = [116] := by
  have hc : Lib.cut (createP ++ X) [32] = ([116], [67, 82, 69, 65, 84, 69, 32] ++ X, true) := by
    rw [show createP ++ X = [116] ++ 32 :: ([67, 82, 69, 65, 84, 69, 32] ++ X) from rfl]
    exact Spl.cut_at (c := 32) (a := [116]) ([67, 82, 69, 65, 84, 69, 32] ++ X) (by decide)
  unfold tagS
  rw [hc]
  rfl
theorem word_create (X : Bt) : word ([67, 82, 69, 65, 84, 69, 32] ++ X) = ([67, 82, 69, 65, 84, 69], 32 :: X) := by
  unfold word
  have h1 : ([67, 82, 69, 65, 84, 69, 32] ++ X).takeWhile letB = [67, 82, 69, 65, 84, 69] := by
    show List.takeWhile letB (67 :: 82 :: 69 :: 65 :: 84 :: 69 :: 32 :: X) = _
    simp [List.takeWhile, show letB 67 = true by decide, show letB 82 = true by decide, show letB 69 = true by decide, show letB 65 = true by decide, show letB 84 = true by decide, show letB 32 = false by decide]
  have h2 : ([67, 82, 69, 65, 84, 69, 32] ++ X).dropWhile letB = 32 :: X := by
    show List.dropWhile letB (67 :: 82 :: 69 :: 65 :: 84 :: 69 :: 32 :: X) = _
    simp [List.dropWhile, show letB 67 = true by decide, show letB 82 = true by decide, show letB 69 = true by decide, show letB 65 = true by decide, show letB 84 = true by decide, show letB 32 = false by decide]
  rw [h1, h2]
  rfl
theorem head_create (X : Bt) : headS ([67, 82, 69, 65, 84, 69, 32] ++ X) = ([67, 82, 69, 65, 84, 69], false, 32 :: X) := by
  unfold headS
  rw [word_create]
  rw [if_neg (by rintro ⟨h, _⟩; exact absurd (show ([67, 82, 69, 65, 84, 69] : Bt) = [85, 73, 68] from h) (by decide))]
theorem parse_create (X : Bt) : parseS (createP ++ X) = match text atomB X with
    | some (x, []) => ({ tag := [116], word := [67, 82, 69, 65, 84, 69], box := x }, 0)
    | _ => ({ tag := [116] }, 160) := by
  have hs : sign [32] (32 :: X) = some X := by unfold sign; rw [if_pos (hasPre 32 X)]; rfl
  have hr : readF 1 { tag := [116], word := [67, 82, 69, 65, 84, 69] } (32 :: X) = (text atomB X).map fun q => ({ tag := [116], word := [67, 82, 69, 65, 84, 69], box := q.1 }, q.2) := by
    show oneF _ _ = _
    unfold oneF then_
    rw [hs, Option.bind_some]
  unfold parseS
  rw [tag_create, if_neg (by decide)]
  have hd : (createP ++ X).drop (([116] : Bt).length + 1) = [67, 82, 69, 65, 84, 69, 32] ++ X := rfl
  rw [hd, head_create]
  have hf : formK [67, 82, 69, 65, 84, 69] = some 1 := by decide
  dsimp only
  rw [hf]
  dsimp only
  rw [if_neg (by simp), hr]
  cases text atomB X with
  | none => rfl
  | some q =>
    obtain ⟨x, t⟩ := q
    cases t <;> rfl
/-- A text between two quotes, each quote and backslash behind a backslash. -/
def esc (s : Bt) : Bt := s.flatMap fun c => if c = 34 ∨ c = 92 then [92, c] else [c]
theorem esc_cons (c : UInt8) (s : Bt) : esc (c :: s) = (if c = 34 ∨ c = 92 then [92, c] else [c]) ++ esc s := by simp [esc]
theorem quote_esc_ok (s t : Bt) (h : ∀ c ∈ s, c ≠ 13 ∧ c ≠ 10) : quoteL (esc s ++ 34 :: t) = some (s, t) := by
  induction s with
  | nil => rw [show esc [] ++ 34 :: t = 34 :: t by rfl, quoteL.eq_def]; simp
  | cons c s ih =>
    have ih := ih (fun d hd => h d (by simp [hd]))
    obtain ⟨h13, h10⟩ := h c (by simp)
    rw [esc_cons]
    by_cases hc : c = 34 ∨ c = 92
    · rw [if_pos hc]
      show quoteL (92 :: c :: (esc s ++ 34 :: t)) = _
      rw [quoteL.eq_def]
      simp [hc, ih]
    · rw [if_neg hc]
      show quoteL (c :: (esc s ++ 34 :: t)) = _
      rw [quoteL.eq_def]
      simp only [not_or] at hc
      simp [hc.1, hc.2, h13, h10, ih]
theorem quote_esc_bad (s t : Bt) (h : ∃ c ∈ s, c = 13 ∨ c = 10) : quoteL (esc s ++ t) = none := by
  induction s with
  | nil => obtain ⟨c, hc, _⟩ := h; cases hc
  | cons c s ih =>
    rw [esc_cons]
    by_cases hb : c = 13 ∨ c = 10
    · have hc : ¬ (c = 34 ∨ c = 92) := by rcases hb with rfl | rfl <;> decide
      rw [if_neg hc]
      show quoteL (c :: (esc s ++ t)) = _
      rw [quoteL.eq_def]
      simp only [not_or] at hc
      simp [hc.1, hc.2, hb]
    · have ih := ih (by
        obtain ⟨d, hd, hx⟩ := h
        rcases List.mem_cons.1 hd with rfl | hd
        · exact absurd hx hb
        · exact ⟨d, hd, hx⟩)
      by_cases hc : c = 34 ∨ c = 92
      · rw [if_pos hc]
        show quoteL (92 :: c :: (esc s ++ t)) = _
        rw [quoteL.eq_def]
        simp [hc, ih]
      · rw [if_neg hc]
        show quoteL (c :: (esc s ++ t)) = _
        rw [quoteL.eq_def]
        simp only [not_or] at hc hb
        simp [hc.1, hc.2, hb.1, hb.2, ih]
def lineB (s : Bt) : Bool := s.all fun c => !decide (c = 13) && !decide (c = 10)
theorem parse_quo (s : Bt) : parseS (createP ++ 34 :: esc s ++ [34]) = if lineB s = true then ({ tag := [116], word := [67, 82, 69, 65, 84, 69], box := s }, 0) else ({ tag := [116] }, 160) := by
  rw [List.append_assoc, parse_create]
  have ht : text atomB (34 :: esc s ++ [34]) = quoteL (esc s ++ [34]) := by
    unfold text
    rw [List.cons_append, if_pos (hasPre 34 _)]
    unfold Im.quoted sign
    rw [if_pos (hasPre 34 _)]
    rfl
  rw [ht]
  by_cases h : lineB s = true
  · rw [if_pos h, quote_esc_ok s [] (by
      intro c hc
      unfold lineB at h
      have := List.all_eq_true.1 h c hc
      simpa using this)]
  · rw [if_neg h, quote_esc_bad s [34] (by
      unfold lineB at h
      simp only [Bool.not_eq_true, List.all_eq_false] at h
      obtain ⟨c, hc, hx⟩ := h
      refine ⟨c, hc, ?_⟩
      by_cases e : c = 13
      · exact .inl e
      · right
        simpa [e] using hx)]
def plainB (c : UInt8) : Bool := decide (97 ≤ c.toNat) && decide (c.toNat ≤ 122) || decide (48 ≤ c.toNat) && decide (c.toNat ≤ 57)
theorem take_all {p : UInt8 → Bool} : ∀ {l : Bt}, (∀ c ∈ l, p c = true) → l.takeWhile p = l ∧ l.dropWhile p = []
  | [], _ => ⟨rfl, rfl⟩
  | c :: l, h => by
    obtain ⟨h1, h2⟩ := take_all (l := l) (fun d hd => h d (by simp [hd]))
    rw [List.takeWhile_cons, List.dropWhile_cons, h c (by simp)]
    exact ⟨by simp [h1], by simpa using h2⟩
theorem plain_atom : ∀ c : UInt8, plainB c = true → atomB c = true ∧ c ≠ 34 ∧ c ≠ 123 := by
  intro c h
  unfold plainB at h
  simp only [Bool.or_eq_true, Bool.and_eq_true, decide_eq_true_eq] at h
  have hn : ∀ k : UInt8, k.toNat < 48 ∨ 57 < k.toNat ∧ k.toNat < 97 ∨ 122 < k.toNat → c ≠ k := by
    rintro k hk rfl
    omega
  refine ⟨?_, hn 34 (by decide), hn 123 (by decide)⟩
  unfold atomB
  rw [decide_eq_true (by omega), decide_eq_true (by omega)]
  have h40 := hn 40 (by decide)
  have h41 := hn 41 (by decide)
  have h123 := hn 123 (by decide)
  have h37 := hn 37 (by decide)
  have h42 := hn 42 (by decide)
  have h34 := hn 34 (by decide)
  have h92 := hn 92 (by decide)
  simp [h40, h41, h123, h37, h42, h34, h92]
theorem parse_atom (s : Bt) (hs : s ≠ []) (h : s.all plainB = true) : parseS (createP ++ s) = ({ tag := [116], word := [67, 82, 69, 65, 84, 69], box := s }, 0) := by
  rw [parse_create]
  have hall : ∀ c ∈ s, plainB c = true := List.all_eq_true.1 h
  have ht : text atomB s = some (s, []) := by
    cases s with
    | nil => exact absurd rfl hs
    | cons c r =>
      obtain ⟨h1, h2, h3⟩ := plain_atom c (hall c (by simp))
      unfold text
      rw [if_neg (by rw [hasPre_ne r h2]; simp), if_neg (by rw [hasPre_ne r h3]; simp)]
      have e1 : (c :: r).takeWhile atomB = c :: r := (take_all (fun d hd => (plain_atom d (hall d hd)).1)).1
      have e2 : (c :: r).dropWhile atomB = [] := (take_all (fun d hd => (plain_atom d (hall d hd)).1)).2
      rw [e1, e2, if_neg (by simp)]
  rw [ht]
end Go.Proofs.YtfdmdmahddjjmaaGreatDoor.Im
