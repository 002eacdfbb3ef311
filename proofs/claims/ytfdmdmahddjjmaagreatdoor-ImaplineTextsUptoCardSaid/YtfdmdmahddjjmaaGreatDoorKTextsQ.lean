/-
  ImaplineTexts: a byte's class; a literal's plain law.
-/
import Derived.Test.YtfdmdmahddjjmaaGreatDoorKTextsP
import Derived.Test.YtfdmdmahddjjmaaGreatDoorKImB
import Derived.Test.YtfdmdmahddjjmaaGreatDoorKNeedsW
namespace Go.Proofs.YtfdmdmahddjjmaaGreatDoor
open Go.RowKit Own Im
set_option linter.unusedVariables false
set_option linter.unusedSimpArgs false
set_option maxRecDepth 100000

/-- What the law asks of a byte. -/
structure Cls (c : UInt8) (x13 x10 x34 x92 : Bool) : Prop where
  n13 : ((c.toNat : Int) != 13) = x13
  n10 : ((c.toNat : Int) != 10) = x10
  e34 : ((c.toNat : Int) == 34) = x34
  e92 : ((c.toNat : Int) == 92) = x92
  line : (!decide (c = 13) && !decide (c = 10)) = (x13 && x10)
  bs : decide (c = 34 ∨ c = 92) = (x34 || x92)
theorem cls (c : UInt8) : Cls c false true false false ∧ (c.toNat : Int) < 48 ∧ plainB c = false ∨ Cls c true false false false ∧ (c.toNat : Int) < 48 ∧ plainB c = false ∨ Cls c true true true false ∧ (c.toNat : Int) < 48 ∧ plainB c = false ∨ Cls c true true false true ∧ (57 < (c.toNat : Int) ∧ (c.toNat : Int) < 97) ∧ plainB c = false ∨
    Cls c true true false false ∧ ((c.toNat : Int) < 48 ∧ plainB c = false ∨ (48 ≤ (c.toNat : Int) ∧ (c.toNat : Int) ≤ 57) ∧ plainB c = true ∨ (57 < (c.toNat : Int) ∧ (c.toNat : Int) < 97) ∧ plainB c = false ∨ (97 ≤ (c.toNat : Int) ∧ (c.toNat : Int) ≤ 122) ∧ plainB c = true ∨ 122 < (c.toNat : Int) ∧ plainB c = false) := by
  by_cases h13 : c = 13
  · subst h13; exact .inl ⟨⟨rfl, rfl, rfl, rfl, rfl, rfl⟩, by decide, by decide⟩
  by_cases h10 : c = 10
  · subst h10; exact .inr (.inl ⟨⟨rfl, rfl, rfl, rfl, rfl, rfl⟩, by decide, by decide⟩)
  by_cases h34 : c = 34
  · subst h34; exact .inr (.inr (.inl ⟨⟨rfl, rfl, rfl, rfl, rfl, rfl⟩, by decide, by decide⟩))
  by_cases h92 : c = 92
  · subst h92; exact .inr (.inr (.inr (.inl ⟨⟨rfl, rfl, rfl, rfl, rfl, rfl⟩, by decide, by decide⟩)))
  refine .inr (.inr (.inr (.inr ⟨⟨?_, ?_, ?_, ?_, ?_, ?_⟩, ?_⟩)))
  · exact (congrArg Bool.not (byte_eq c 13 (by decide))).trans (by rw [decide_eq_false (show ¬ c = (13 : Nat).toUInt8 from h13)]; rfl)
  · exact (congrArg Bool.not (byte_eq c 10 (by decide))).trans (by rw [decide_eq_false (show ¬ c = (10 : Nat).toUInt8 from h10)]; rfl)
  · exact (byte_eq c 34 (by decide)).trans (decide_eq_false h34)
  · exact (byte_eq c 92 (by decide)).trans (decide_eq_false h92)
  · simp [h13, h10]
  · simp [h34, h92]
  unfold plainB
  rcases Nat.lt_or_ge c.toNat 48 with h | h
  · exact .inl ⟨by omega, by rw [decide_eq_false (p := 97 ≤ c.toNat) (by omega), decide_eq_false (p := 48 ≤ c.toNat) (by omega)]; rfl⟩
  rcases Nat.lt_or_ge 57 c.toNat with h2 | h2
  · rcases Nat.lt_or_ge c.toNat 97 with h3 | h3
    · exact .inr (.inr (.inl ⟨⟨by omega, by omega⟩, by rw [decide_eq_false (p := 97 ≤ c.toNat) (by omega), decide_eq_false (p := c.toNat ≤ 57) (by omega)]; simp⟩))
    rcases Nat.lt_or_ge 122 c.toNat with h4 | h4
    · exact .inr (.inr (.inr (.inr ⟨by omega, by rw [decide_eq_false (p := c.toNat ≤ 122) (by omega), decide_eq_false (p := c.toNat ≤ 57) (by omega)]; simp⟩)))
    · exact .inr (.inr (.inr (.inl ⟨⟨by omega, by omega⟩, by rw [decide_eq_true (p := 97 ≤ c.toNat) h3, decide_eq_true (p := c.toNat ≤ 122) h4]; rfl⟩)))
  · exact .inr (.inl ⟨⟨by omega, by omega⟩, by rw [decide_eq_true (p := 48 ≤ c.toNat) h, decide_eq_true (p := c.toNat ≤ 57) h2]; simp⟩)
theorem lit_text (s : Bt) (h : s.length ≤ 4096) : Im.text atomB (123 :: Text.digs s.length ++ [125, 13, 10] ++ s) = some (s, []) := by
  have hd : ∀ c ∈ Text.digs s.length, isDg c = true := by
    intro c hc
    have := Dec.digs_dig s.length c hc
    unfold Dec.isDig at this
    unfold isDg
    simp only [Bool.and_eq_true, decide_eq_true_eq]
    exact this
  have e1 : (Text.digs s.length ++ ([125, 13, 10] ++ s)).takeWhile isDg = Text.digs s.length := by
    rw [List.takeWhile_append_of_pos hd]
    simp [List.takeWhile, show isDg 125 = false by decide]
  have e2 : (Text.digs s.length ++ ([125, 13, 10] ++ s)).dropWhile isDg = [125, 13, 10] ++ s := by
    rw [List.dropWhile_append_of_pos hd]
    simp [List.dropWhile, show isDg 125 = false by decide]
  have hn : number 0 4096 (Text.digs s.length ++ ([125, 13, 10] ++ s)) = some ((s.length : Int), [125, 13, 10] ++ s) := by
    unfold number
    have hnum : Dec.numR (Text.digs s.length) 4096 = ((s.length : Int), true) := by rw [Dec.numR_self (by omega), if_neg (by omega)]
    rw [e1, e2, hnum]
    exact if_pos ⟨rfl, by show (0 : Int) ≤ (s.length : Int); omega⟩
  have hs : sign [125, 13, 10] ([125, 13, 10] ++ s) = some s := by
    unfold sign
    rw [if_pos (by simp [Lib.hasPrefix, List.isPrefixOf])]
    rfl
  have h0 : 123 :: Text.digs s.length ++ [125, 13, 10] ++ s = 123 :: (Text.digs s.length ++ ([125, 13, 10] ++ s)) := by simp
  rw [h0]
  unfold Im.text
  rw [if_neg (by rw [hasPre_ne _ (by decide)]; simp), if_pos (hasPre 123 _)]
  unfold literal
  have hs0 : sign [123] (123 :: (Text.digs s.length ++ ([125, 13, 10] ++ s))) = some (Text.digs s.length ++ ([125, 13, 10] ++ s)) := by unfold sign; rw [if_pos (hasPre 123 _)]; rfl
  rw [hs0, Option.bind_some, hn, Option.bind_some]
  dsimp only
  rw [hs, Option.bind_some, if_pos (Int.le_refl _)]
  simp
theorem parse_lit (s : Bt) (h : s.length ≤ 4096) : parseS (createP ++ (123 :: Text.digs s.length ++ [125, 13, 10] ++ s)) = ({ tag := [116], word := [67, 82, 69, 65, 84, 69], box := s }, 0) := by
  rw [parse_create, lit_text s h]
theorem create_form (X : Bt) : formK (headS ((createP ++ X).drop ((tagS (createP ++ X)).length + 1))).1 = some 1 := by
  rw [tag_create, show (createP ++ X).drop (([116] : Bt).length + 1) = [67, 82, 69, 65, 84, 69, 32] ++ X from rfl, head_create]
  show formK [67, 82, 69, 65, 84, 69] = some 1
  decide
theorem take_next {s : Bt} {i : Nat} {c : UInt8} (h : s[i]? = some c) : s.take (i + 1) = s.take i ++ [c] := by rw [List.take_add_one, h]; rfl
end Go.Proofs.YtfdmdmahddjjmaaGreatDoor
