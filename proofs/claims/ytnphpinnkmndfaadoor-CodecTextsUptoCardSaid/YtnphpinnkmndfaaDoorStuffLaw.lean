/-
  Messages as lines with their end: plain laws. No program here.
-/
import Derived.Test.YtnphpinnkmndfaaDoorText
namespace Go.Proofs.YtnphpinnkmndfaaDoor.Stf
set_option linter.unusedVariables false
set_option linter.unusedSimpArgs false

/-- The first line, and what is behind its end; none: no end. -/
def cut : List UInt8 → Option (List UInt8 × List UInt8)
  | [] => none
  | [c] => none
  | c :: d :: l => if c = 13 ∧ d = 10 then some ([], l) else (cut (d :: l)).map fun p => (c :: p.1, p.2)
theorem cut_cons (c d : UInt8) (l : List UInt8) : cut (c :: d :: l) = if c = 13 ∧ d = 10 then some ([], l) else (cut (d :: l)).map fun p => (c :: p.1, p.2) := rfl
theorem cut_eq : ∀ {l a b : List UInt8}, cut l = some (a, b) → l = a ++ 13 :: 10 :: b
  | [], a, b, h => by simp [cut] at h
  | [c], a, b, h => by simp [cut] at h
  | c :: d :: l, a, b, h => by
    rw [cut_cons] at h
    split at h
    · rename_i e
      obtain ⟨rfl, rfl⟩ : a = [] ∧ b = l := by simpa using h.symm
      rw [e.1, e.2]; rfl
    · cases hc : cut (d :: l) with
      | none => rw [hc] at h; cases h
      | some p =>
        rw [hc] at h
        obtain ⟨rfl, rfl⟩ : a = c :: p.1 ∧ b = p.2 := by simpa using h.symm
        have := cut_eq (a := p.1) (b := p.2) hc
        rw [this]; rfl
theorem cut_len {l a b : List UInt8} (h : cut l = some (a, b)) : b.length < l.length := by rw [cut_eq h]; simp; omega

def dot (st : Bool) (l : List UInt8) : List UInt8 := if st = true ∧ l.head? = some 46 then [46] else []
/-- The program's. -/
def stuffP (l : List UInt8) : List UInt8 :=
  if l = [] then [46, 13, 10] else
    match h : cut l with
    | none => dot true l ++ l ++ [13, 10] ++ [46, 13, 10]
    | some (a, b) => dot true a ++ a ++ [13, 10] ++ stuffP b
termination_by l.length
decreasing_by exact cut_len h
theorem stuffP_nil : stuffP [] = [46, 13, 10] := by rw [stuffP]; simp
theorem stuffP_last {l : List UInt8} (hl : l ≠ []) (h : cut l = none) : stuffP l = dot true l ++ l ++ [13, 10] ++ [46, 13, 10] := by
  rw [stuffP, if_neg hl]
  split
  · rfl
  · rename_i e; rw [h] at e; cases e
theorem stuffP_line {l a b : List UInt8} (h : cut l = some (a, b)) : stuffP l = dot true a ++ a ++ [13, 10] ++ stuffP b := by
  have hl : l ≠ [] := by rintro rfl; simp [cut] at h
  rw [stuffP, if_neg hl]
  split
  · rename_i e; rw [h] at e; cases e
  · rename_i e; rw [h] at e; obtain ⟨rfl, rfl⟩ : a = _ ∧ b = _ := by simpa using e
    rfl

/-- The reference's: st: a line begins here; cr: the byte ahead is 13. -/
def body : Bool → Bool → List UInt8 → List UInt8
  | _, _, [] => []
  | st, cr, c :: l => (if st = true ∧ c = 46 then [46] else []) ++ c :: body (cr && c == 10) (c == 13) l
def ends (l : List UInt8) : Prop := ∃ x, l = x ++ [13, 10]
theorem body_line : ∀ (st cr : Bool) (l a b : List UInt8), cut l = some (a, b) → ¬ (cr = true ∧ l.head? = some 10) → body st cr l = dot st a ++ a ++ [13, 10] ++ body true false b
  | st, cr, [], a, b, h, _ => by simp [cut] at h
  | st, cr, [c], a, b, h, _ => by simp [cut] at h
  | st, cr, c :: d :: l, a, b, h, hcr => by
    have hc10 : (cr && c == 10) = false := by
      cases cr with
      | false => rfl
      | true => simp at hcr ⊢; exact hcr
    rw [cut_cons] at h
    show (if st = true ∧ c = 46 then [46] else []) ++ c :: body (cr && c == 10) (c == 13) (d :: l) = _
    rw [hc10]
    split at h
    · rename_i e
      obtain ⟨rfl, rfl⟩ : a = [] ∧ b = l := by simpa using h.symm
      obtain ⟨rfl, rfl⟩ := e
      simp [body, dot]
    · rename_i e
      cases hc : cut (d :: l) with
      | none => rw [hc] at h; cases h
      | some p =>
        rw [hc] at h
        obtain ⟨rfl, rfl⟩ : a = c :: p.1 ∧ b = p.2 := by simpa using h.symm
        rw [body_line false (c == 13) (d :: l) p.1 p.2 hc (by simp; intro h1 h2; exact e ⟨h1, h2⟩)]
        simp [dot]
theorem body_last : ∀ (st cr : Bool) (l e : List UInt8), cut l = none → (e = [] ∨ e = [13, 10]) → ¬ (cr = true ∧ l.head? = some 10) → (l = [] → e = []) → body st cr (l ++ e) = dot st l ++ l ++ e
  | st, cr, [], e, _, _, _, h => by rw [h rfl]; simp [body, dot]
  | st, cr, [c], e, _, he, hcr, _ => by
    have hc10 : (cr && c == 10) = false := by
      cases cr with
      | false => rfl
      | true => simp at hcr ⊢; exact hcr
    show (if st = true ∧ c = 46 then [46] else []) ++ c :: body (cr && c == 10) (c == 13) ([] ++ e) = _
    rw [hc10]
    rcases he with rfl | rfl
    · simp [body, dot]
    · simp [body, dot]
  | st, cr, c :: d :: l, e, hn, he, hcr, _ => by
    have hc10 : (cr && c == 10) = false := by
      cases cr with
      | false => rfl
      | true => simp at hcr ⊢; exact hcr
    rw [cut_cons] at hn
    split at hn
    · cases hn
    · rename_i e2
      have hn2 : cut (d :: l) = none := by
        cases hc : cut (d :: l) with
        | none => rfl
        | some p => rw [hc] at hn; cases hn
      show (if st = true ∧ c = 46 then [46] else []) ++ c :: body (cr && c == 10) (c == 13) ((d :: l) ++ e) = _
      rw [hc10, body_last false (c == 13) (d :: l) e hn2 he (by simp; intro h1 h2; exact e2 ⟨h1, h2⟩) (by simp)]
      simp [dot]

theorem ends_cut {l : List UInt8} (h : ends l) : cut l ≠ none := by
  obtain ⟨x, rfl⟩ := h
  induction x with
  | nil => simp [cut]
  | cons c x ih =>
    cases hx : x ++ [13, 10] with
    | nil => simp at hx
    | cons d y =>
      show cut (c :: (x ++ [13, 10])) ≠ none
      rw [hx, cut_cons]
      split
      · simp
      · rw [hx] at ih
        cases hc : cut (d :: y) with
        | none => exact absurd hc ih
        | some p => simp
theorem ends_rest {l a b : List UInt8} (h : cut l = some (a, b)) (hb : b ≠ []) : ends l ↔ ends b := by
  rw [cut_eq h]
  constructor
  · rintro ⟨x, e⟩
    -- the last two bytes lie in b
    have hlen : 2 ≤ b.length := by
      rcases b with _ | ⟨b0, _ | ⟨b1, r⟩⟩
      · exact absurd rfl hb
      · exfalso
        have e2 : (a ++ [13]) ++ [10, b0] = x ++ [13, 10] := by simpa using e
        have := (List.append_inj' e2 rfl).2
        simp at this
      · simp
    refine ⟨b.take (b.length - 2), ?_⟩
    have e3 : (a ++ [13, 10] ++ b.take (b.length - 2)) ++ b.drop (b.length - 2) = x ++ [13, 10] := by
      rw [List.append_assoc, List.take_append_drop]; simpa using e
    have := (List.append_inj' e3 (by simp; omega)).2
    rw [← this, List.take_append_drop]
  · rintro ⟨x, rfl⟩
    exact ⟨a ++ 13 :: 10 :: x, by simp⟩

open Classical in
/-- A message with its last line's end. -/
noncomputable def allR (l : List UInt8) : List UInt8 := if l ≠ [] ∧ ¬ ends l then l ++ [13, 10] else l
theorem stuff_eq : ∀ (n : Nat) (l : List UInt8), l.length ≤ n → stuffP l = body true false (allR l) ++ [46, 13, 10]
  | n, [], _ => by rw [stuffP_nil]; simp [allR, body]
  | 0, c :: l, h => by simp at h
  | n + 1, c :: l, h => by
    cases hc : cut (c :: l) with
    | none =>
      have he : ¬ ends (c :: l) := fun e => ends_cut e hc
      rw [stuffP_last (by simp) hc]
      unfold allR
      rw [if_pos ⟨by simp, he⟩, body_last true false (c :: l) [13, 10] hc (.inr rfl) (by simp) (by simp)]
    | some p =>
      obtain ⟨a, b⟩ := p
      have hl := cut_len hc
      rw [stuffP_line hc, stuff_eq n b (by simp at hl h; omega)]
      by_cases hb : b = []
      · subst hb
        have he : ends (c :: l) := ⟨a, cut_eq hc⟩
        have e1 : allR (c :: l) = c :: l := by unfold allR; rw [if_neg (fun h => h.2 he)]
        have e2 : allR [] = [] := by simp [allR]
        rw [e1, e2, body_line true false (c :: l) a [] hc (by simp)]
        simp [body]
      · have e0 := ends_rest hc hb
        by_cases he : ends b
        · have e1 : allR (c :: l) = c :: l := by unfold allR; rw [if_neg (fun h => h.2 (e0.mpr he))]
          have e2 : allR b = b := by unfold allR; rw [if_neg (fun h => h.2 he)]
          rw [e1, e2, body_line true false (c :: l) a b hc (by simp)]
          simp
        · have e1 : allR (c :: l) = (c :: l) ++ [13, 10] := by unfold allR; rw [if_pos ⟨by simp, fun h => he (e0.mp h)⟩]
          have e2 : allR b = b ++ [13, 10] := by unfold allR; rw [if_pos ⟨hb, he⟩]
          have hc2 : cut ((c :: l) ++ [13, 10]) = some (a, b ++ [13, 10]) := cut_more hc [13, 10]
          rw [e1, e2, body_line true false _ a (b ++ [13, 10]) hc2 (by simp)]
          simp
where
  cut_more : ∀ {l a b : List UInt8} (h : cut l = some (a, b)) (r : List UInt8), cut (l ++ r) = some (a, b ++ r)
    | [], a, b, h, r => by simp [cut] at h
    | [c], a, b, h, r => by simp [cut] at h
    | c :: d :: l, a, b, h, r => by
      rw [cut_cons] at h
      show cut (c :: d :: (l ++ r)) = _
      rw [cut_cons]
      split at h
      · rename_i e
        obtain ⟨rfl, rfl⟩ : a = [] ∧ b = l := by simpa using h.symm
        rw [if_pos e]
      · rename_i e
        rw [if_neg e]
        cases hc : cut (d :: l) with
        | none => rw [hc] at h; cases h
        | some p =>
          rw [hc] at h
          obtain ⟨rfl, rfl⟩ : a = c :: p.1 ∧ b = p.2 := by simpa using h.symm
          have := cut_more (l := d :: l) (a := p.1) (b := p.2) hc r
          rw [show d :: (l ++ r) = (d :: l) ++ r from rfl, this]
          rfl

end Go.Proofs.YtnphpinnkmndfaaDoor.Stf
