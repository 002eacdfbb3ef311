/-
  A stuffed message, line by line: plain laws. No walk here.
-/
import Derived.Test.YtnphpinnkmndfaaDoorRStuff
import Derived.Test.YtnphpinnkmndfaaDoorRUnst
namespace Go.Proofs.YtnphpinnkmndfaaDoor.Stf
open Go.Proofs.YtnphpinnkmndfaaDoor
set_option linter.unusedVariables false
set_option linter.unusedSimpArgs false

theorem cut_app : ∀ (L r : List UInt8), cut L = none → cut (L ++ 13 :: 10 :: r) = some (L, r)
  | [], r, _ => by simp [cut]
  | [c], r, _ => by
    show cut (c :: 13 :: 10 :: r) = _
    rw [cut_cons, if_neg (by rintro ⟨_, h⟩; exact absurd h (by decide)), cut_cons, if_pos ⟨rfl, rfl⟩]
    rfl
  | c :: d :: l, r, h => by
    rw [cut_cons] at h
    show cut (c :: d :: (l ++ 13 :: 10 :: r)) = _
    rw [cut_cons]
    split at h
    · cases h
    · rename_i e
      rw [if_neg e]
      have h2 : cut (d :: l) = none := by
        cases hc : cut (d :: l) with
        | none => rfl
        | some p => rw [hc] at h; cases h
      have := cut_app (d :: l) r h2
      rw [show d :: (l ++ 13 :: 10 :: r) = (d :: l) ++ 13 :: 10 :: r from rfl, this]
      rfl
theorem cut_pre : ∀ {l a b : List UInt8}, cut l = some (a, b) → cut a = none
  | [], a, b, h => by simp [cut] at h
  | [c], a, b, h => by simp [cut] at h
  | c :: d :: l, a, b, h => by
    rw [cut_cons] at h
    split at h
    · obtain ⟨rfl, rfl⟩ : a = [] ∧ b = l := by simpa using h.symm
      rfl
    · rename_i e
      cases hc : cut (d :: l) with
      | none => rw [hc] at h; cases h
      | some p =>
        rw [hc] at h
        obtain ⟨rfl, rfl⟩ : a = c :: p.1 ∧ b = p.2 := by simpa using h.symm
        have h1 := cut_pre (a := p.1) (b := p.2) hc
        have h2 := cut_eq (a := p.1) (b := p.2) hc
        cases hp : p.1 with
        | nil => rfl
        | cons f g =>
          rw [hp] at h1 h2
          obtain ⟨rfl, _⟩ : d = f ∧ l = g ++ 13 :: 10 :: p.2 := by simpa using h2
          rw [cut_cons, if_neg e, h1]
          rfl
/-- No end of a line ahead of the first. -/
theorem cut_no : ∀ {l a b : List UInt8}, cut l = some (a, b) → ∀ j, j < a.length → ¬ (l[j]? = some 13 ∧ l[j + 1]? = some 10)
  | [], a, b, h => by simp [cut] at h
  | [c], a, b, h => by simp [cut] at h
  | c :: d :: l, a, b, h => by
    rw [cut_cons] at h
    split at h
    · obtain ⟨rfl, rfl⟩ : a = [] ∧ b = l := by simpa using h.symm
      intro j hj
      simp at hj
    · rename_i e
      cases hc : cut (d :: l) with
      | none => rw [hc] at h; cases h
      | some p =>
        rw [hc] at h
        obtain ⟨rfl, rfl⟩ : a = c :: p.1 ∧ b = p.2 := by simpa using h.symm
        intro j hj
        cases j with
        | zero => simpa using fun h1 => by intro h2; exact e ⟨h1, h2⟩
        | succ j =>
          have := cut_no (a := p.1) (b := p.2) hc j (by simpa using hj)
          simpa using this

theorem cut_dot {a : List UInt8} (h : cut a = none) : cut (dot true a ++ a) = none := by
  unfold dot
  split
  · cases a with
    | nil => rfl
    | cons d l =>
      show cut (46 :: d :: l) = none
      rw [cut_cons, if_neg (by rintro ⟨h, _⟩; exact absurd h (by decide)), h]
      rfl
  · exact h
theorem unL_dot (a : List UInt8) : unL (dot true a ++ a) = (a, false) := by
  by_cases h : a.head? = some 46
  · have hd : dot true a = [46] := by unfold dot; rw [if_pos ⟨rfl, h⟩]
    rw [hd]
    cases a with
    | nil => simp at h
    | cons c l =>
      unfold unL
      rw [if_neg (by simp), if_pos (by simp)]
      rfl
  · have hd : dot true a = [] := by unfold dot; rw [if_neg (fun e => h e.2)]
    rw [hd, List.nil_append]
    unfold unL
    rw [if_neg (by rintro rfl; simp at h), if_neg h]
theorem line_step {l : List UInt8} (hl : l ≠ []) : ∃ L a l2, cut (stuffP l) = some (L, stuffP l2) ∧ unL L = (a, false) ∧ allR l = a ++ [13, 10] ++ allR l2 ∧ a.length + 1 + 4 * l2.length ≤ 4 * l.length ∧ L.length ≤ l.length + 1 := by
  cases hc : cut l with
  | none =>
    refine ⟨dot true l ++ l, l, [], ?_, unL_dot l, ?_, ?_, ?_⟩
    · rw [stuffP_last hl hc, stuffP_nil]
      have := cut_app (dot true l ++ l) [46, 13, 10] (cut_dot hc)
      rw [← this]
      simp
    · have he : ¬ ends l := fun e => ends_cut e hc
      have e1 : allR l = l ++ [13, 10] := by unfold allR; rw [if_pos ⟨hl, he⟩]
      have e2 : allR [] = [] := by simp [allR]
      rw [e1, e2]; simp
    · have := List.length_pos_iff.2 hl
      simp; omega
    · unfold dot; split <;> simp <;> omega
  | some p =>
    obtain ⟨a, b⟩ := p
    have hlen : l.length = a.length + 2 + b.length := by rw [cut_eq hc]; simp; omega
    refine ⟨dot true a ++ a, a, b, ?_, unL_dot a, ?_, by omega, ?_⟩
    · rw [stuffP_line hc]
      have := cut_app (dot true a ++ a) (stuffP b) (cut_dot (cut_pre hc))
      rw [← this]
      simp
    · by_cases hb : b = []
      · subst hb
        have he : ends l := ⟨a, cut_eq hc⟩
        have e1 : allR l = l := by unfold allR; rw [if_neg (fun h => h.2 he)]
        have e2 : allR [] = [] := by simp [allR]
        rw [e1, e2, cut_eq hc]; simp
      · have e0 := ends_rest hc hb
        by_cases he : ends b
        · have e1 : allR l = l := by unfold allR; rw [if_neg (fun h => h.2 (e0.mpr he))]
          have e2 : allR b = b := by unfold allR; rw [if_neg (fun h => h.2 he)]
          rw [e1, e2, cut_eq hc]; simp
        · have e1 : allR l = l ++ [13, 10] := by unfold allR; rw [if_pos ⟨hl, fun h => he (e0.mp h)⟩]
          have e2 : allR b = b ++ [13, 10] := by unfold allR; rw [if_pos ⟨hb, he⟩]
          rw [e1, e2, cut_eq hc]; simp
    · unfold dot; split <;> simp <;> omega
theorem line_end : cut (stuffP []) = some ([46], []) ∧ unL [46] = ([], true) := by
  rw [stuffP_nil]
  exact ⟨by decide, rfl⟩
theorem all_nil : allR [] = [] := by simp [allR]

theorem body_len : ∀ (st cr : Bool) (l : List UInt8), (body st cr l).length ≤ 2 * l.length
  | _, _, [] => by simp [body]
  | st, cr, c :: l => by
    have := body_len (cr && c == 10) (c == 13) l
    show ((if st = true ∧ c = 46 then [46] else []) ++ c :: body (cr && c == 10) (c == 13) l).length ≤ _
    rw [List.length_append]
    split <;> simp <;> omega
theorem stuff_len (l : List UInt8) : (stuffP l).length ≤ 2 * l.length + 7 := by
  have h1 := body_len true false (allR l)
  have h2 := all_len l
  rw [stuff_eq l.length l (Nat.le_refl _), List.length_append]
  simp
  omega

/-- Whether the last line has an end. -/
theorem all_test (bs : List UInt8) : ∃ T : Bool, allR bs = (if T = true then bs ++ [13, 10] else bs) ∧ ((bs.length = 0 ∧ T = false) ∨ (bs.length = 1 ∧ T = true) ∨ ∃ a b, 2 ≤ bs.length ∧ bs[bs.length - 2]? = some a ∧ bs[bs.length - 1]? = some b ∧ T = !((a == 13) && (b == 10))) := by
  rcases Nat.lt_or_ge bs.length 2 with h | h
  · by_cases h0 : bs.length = 0
    · exact ⟨false, by unfold allR; rw [if_neg (fun h => h.1 (List.eq_nil_of_length_eq_zero h0))]; rfl, .inl ⟨h0, rfl⟩⟩
    · exact ⟨true, by unfold allR; rw [if_pos ⟨fun h => by rw [h] at h0; simp at h0, fun h => by have := (ends_iff bs).1 h; omega⟩]; rfl, .inr (.inl ⟨by omega, rfl⟩)⟩
  · have hne : bs ≠ [] := fun e => by rw [e] at h; simp at h
    refine ⟨!((bs[bs.length - 2] == 13) && (bs[bs.length - 1] == 10)), ?_, .inr (.inr ⟨bs[bs.length - 2], bs[bs.length - 1], h, List.getElem?_eq_getElem (by omega), List.getElem?_eq_getElem (by omega), rfl⟩)⟩
    unfold allR
    by_cases he : ends bs
    · obtain ⟨_, h1, h2⟩ := (ends_iff bs).1 he
      rw [List.getElem?_eq_getElem (by omega)] at h1 h2
      rw [if_neg (fun h => h.2 he), Option.some.inj h1, Option.some.inj h2]
      rfl
    · rw [if_pos ⟨hne, he⟩, if_pos]
      rw [Bool.not_eq_true', Bool.and_eq_false_iff, beq_eq_false_iff_ne, beq_eq_false_iff_ne]
      by_cases h1 : bs[bs.length - 2] = 13
      · right
        intro h2
        exact he ((ends_iff bs).2 ⟨h, by rw [List.getElem?_eq_getElem (by omega), h1], by rw [List.getElem?_eq_getElem (by omega), h2]⟩)
      · exact .inl h1

end Go.Proofs.YtnphpinnkmndfaaDoor.Stf
