/-
  The reference's dotted: the plain law of its scan.
-/
import Derived.Test.YtmgndnbcaeepcaaDoorRAtom
namespace Go.Proofs.YtmgndnbcaeepcaaDoor.Ad
open Go.Proofs.YtmgndnbcaeepcaaDoor
set_option linter.unusedVariables false
set_option linter.unusedSimpArgs false

/-- What a part must be; what its bytes must be. -/
def isP (lab : Bool) : List UInt8 → Bool := if lab then labelP else atomP
def okC (lab : Bool) (c : UInt8) : Bool := if lab then (isLet c || c == 45) else isAt c
/-- A part begun ahead of the parts of what follows. -/
def pre (cur : List UInt8) : List (List UInt8) → List (List UInt8)
  | [] => [cur]
  | h :: t => (cur ++ h) :: t
theorem isP_no {lab : Bool} {x : List UInt8} {c : UInt8} (hc : c ∈ x) (h : okC lab c = false) : isP lab x = false := by
  unfold isP
  unfold okC at h
  cases lab with
  | true =>
    rw [if_pos rfl] at h ⊢
    unfold labelP
    have : (x.all fun c => isLet c || c == 45) = false := by
      rw [Bool.eq_false_iff]; intro h2
      rw [List.all_eq_true.1 h2 c hc] at h; cases h
    rw [this]; rfl
  | false =>
    rw [if_neg (by simp)] at h ⊢
    unfold atomP
    have : x.all isAt = false := by
      rw [Bool.eq_false_iff]; intro h2
      rw [List.all_eq_true.1 h2 c hc] at h; cases h
    rw [this]; rfl
theorem pre_nil (cur : List UInt8) : pre cur (Spl.splitL 46 []) = [cur] := by simp [pre, Spl.splitL]
theorem pre_zero (r : List UInt8) : pre [] (Spl.splitL 46 r) = Spl.splitL 46 r := by
  cases h : Spl.splitL 46 r with
  | nil => exact absurd h (Spl.splitL_ne 46 r)
  | cons x t => rfl
theorem pre_dot (cur r : List UInt8) : pre cur (Spl.splitL 46 (46 :: r)) = cur :: Spl.splitL 46 r := by
  simp [pre, Spl.splitL]
theorem pre_other (cur r : List UInt8) {c : UInt8} (hc : c ≠ 46) : pre cur (Spl.splitL 46 (c :: r)) = pre (cur ++ [c]) (Spl.splitL 46 r) := by
  rw [show Spl.splitL 46 (c :: r) = if c = 46 then [] :: Spl.splitL 46 r else match Spl.splitL 46 r with
    | [] => [[c]]
    | h :: t => (c :: h) :: t from rfl, if_neg hc]
  cases h : Spl.splitL 46 r with
  | nil => exact absurd h (Spl.splitL_ne 46 r)
  | cons x t => simp [pre]
theorem pre_bad (lab : Bool) (cur r : List UInt8) {c : UInt8} (hc : c ≠ 46) (h : okC lab c = false) : (pre cur (Spl.splitL 46 (c :: r))).all (isP lab) = false := by
  rw [pre_other cur r hc]
  cases hs : Spl.splitL 46 r with
  | nil => exact absurd hs (Spl.splitL_ne 46 r)
  | cons x t =>
    show (isP lab ((cur ++ [c]) ++ x) && t.all (isP lab)) = false
    rw [isP_no (by simp) h]; rfl
/-- A part whose bytes are all right. -/
theorem isP_ok {lab : Bool} {x : List UInt8} (h : ∀ c ∈ x, okC lab c = true) : isP lab x = (!x.isEmpty && (!lab || (x.head? != some 45 && x.getLast? != some 45))) := by
  unfold isP
  cases lab with
  | true =>
    have h2 : (x.all fun c => isLet c || c == 45) = true := List.all_eq_true.2 fun c hc => by have := h c hc; unfold okC at this; rwa [if_pos rfl] at this
    rw [if_pos rfl]
    unfold labelP
    rw [h2]
    simp [Bool.and_assoc]
  | false =>
    have h2 : x.all isAt = true := List.all_eq_true.2 fun c hc => by have := h c hc; unfold okC at this; rwa [if_neg (by simp)] at this
    rw [if_neg (by simp)]
    unfold atomP
    rw [h2]
    simp
theorem dotted_pre (lab : Bool) (s : List UInt8) : dottedP (isP lab) s = ((pre [] (Spl.splitL 46 s)).all (isP lab) && decide (s.length ≤ 64)) := by
  rw [pre_zero]; rfl

end Go.Proofs.YtmgndnbcaeepcaaDoor.Ad
