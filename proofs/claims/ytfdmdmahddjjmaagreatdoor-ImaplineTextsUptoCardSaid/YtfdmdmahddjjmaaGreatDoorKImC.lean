/-
  Literals; texts between two quotes; texts.
-/
import Derived.Test.YtfdmdmahddjjmaaGreatDoorKImB
import Derived.Test.YtfdmdmahddjjmaaGreatDoorPkAd
namespace Go.Proofs.YtfdmdmahddjjmaaGreatDoor
open Go.RowKit Own Im
set_option linter.unusedVariables false
set_option linter.unusedSimpArgs false
set_option maxRecDepth 100000
attribute [local go_sem] str_toList str_size

theorem Reads.cases {α : Type} {b : Nat} {w w' : World} {val : α → Value → World → Prop} {r : Option (α × Bt)} {e : Ending} (h : Reads b w val r e w') :
    (r = none ∧ e = .panicked thrown ∧ Only b w w') ∨ ∃ x t v, r = some (x, t) ∧ e = .returned v ∧ val x v w' ∧ RdI w' b t ∧ Only b w w' := by
  obtain ⟨ho, h⟩ := h
  cases r with
  | none => exact .inl ⟨rfl, h, ho⟩
  | some q => obtain ⟨v, h1, h2, h3⟩ := h; exact .inr ⟨q.1, q.2, v, rfl, h1, h2, h3, ho⟩
theorem sign_cases {b : Nat} {w w' : World} {t s : Bt} {e : Ending} (h : Reads b w vUnit ((sign t s).map fun q => ((), q)) e w') :
    (sign t s = none ∧ e = .panicked thrown ∧ Only b w w') ∨ ∃ q, sign t s = some q ∧ e = .returned (.tuple #[]) ∧ RdI w' b q ∧ Only b w w' := by
  rcases h.cases with ⟨h1, h2, h3⟩ | ⟨x, t, v, h1, h2, h3, h4, h5⟩
  · exact .inl ⟨Option.map_eq_none_iff.1 h1, h2, h3⟩
  · obtain ⟨q, hq, he⟩ := Option.map_eq_some_iff.1 h1
    cases he
    exact .inr ⟨_, hq, by rw [h2, h3], h4, h5⟩
theorem Reads.panic {α : Type} {b : Nat} {w w' : World} {val : α → Value → World → Prop} {r : Option (α × Bt)} (hr : r = none) (ho : Only b w w') : Reads b w val r (.panicked thrown) w' := by
  subst hr
  exact ⟨ho, rfl⟩
theorem Reads.give {α : Type} {b : Nat} {w w' : World} {val : α → Value → World → Prop} {r : Option (α × Bt)} {x : α} {t : Bt} {v : Value} (hr : r = some (x, t)) (ho : Only b w w') (hv : val x v w') (ht : RdI w' b t) : Reads b w val r (.returned v) w' := by
  subst hr
  exact ⟨ho, v, rfl, hv, ht⟩
theorem numR_most (l : Bt) (hi : Int) (h : (Dec.numR l hi).2 = true) : (Dec.numR l hi).1 ≤ hi := by
  unfold Dec.numR at h ⊢
  by_cases c1 : l.length < 1 ∨ 10 < l.length
  · rw [if_pos c1] at h; cases h
  rw [if_neg c1] at h ⊢
  by_cases c2 : ¬ ∀ c ∈ l, Dec.isDig c
  · rw [if_pos c2] at h; cases h
  rw [if_neg c2] at h ⊢
  by_cases c3 : Text.digs (Dec.numF 0 l) ≠ l ∨ hi < (Dec.numF 0 l : Int)
  · rw [if_pos c3] at h; cases h
  rw [if_neg c3]
  show (Dec.numF 0 l : Int) ≤ hi
  omega
theorem number_ge {lo hi : Int} {s : Bt} {n : Int} {t : Bt} (h : number lo hi s = some (n, t)) : lo ≤ n ∧ n ≤ max lo hi := by
  unfold number at h
  split at h
  · rename_i hc
    cases h
    refine ⟨hc.2, ?_⟩
    have := numR_most (s.takeWhile isDg) hi hc.1
    omega
  · cases h

theorem must_split {c : Bool} {e : Ending} (h : e = (if c = true then .returned (.tuple #[]) else .panicked thrown)) : (c = false ∧ e = .panicked thrown) ∨ (c = true ∧ e = .returned (.tuple #[])) := by
  cases c
  · exact .inl ⟨rfl, h⟩
  · exact .inr ⟨rfl, h⟩

set_option maxHeartbeats 2000000 in
theorem literal_any (b : Nat) (s : Bt) (w : World) (h : RdI w b s) :
    Calls Tryz.prog 93 #[.pointer (some ⟨b, 0, none⟩)] w fun e w' => Reads b w vText (literal s) e w' := by
  have H := hid h
  clear h
  obtain ⟨R, hR⟩ : ∃ R, R = literal s := ⟨_, rfl⟩
  rw [← hR]
  have HR := hid hR
  clear hR
  go_enter Tryz.func93, Tryz.ntmps93
  go_wp2_with (first
    | (go_at_call 53; refine (sign_any b s [123] _ H.out).mono ?_; intro e w1 h1; rcases sign_cases h1 with ⟨q1, rfl, o1⟩ | ⟨s1, q1, rfl, r1, o1⟩ <;> (first | (have O1 := hid o1; have Q1 := hid q1; have R1 := hid r1; clear o1 q1 r1 h1) | (have O1 := hid o1; have Q1 := hid q1; clear o1 q1 h1)))
    | (go_at_call 103; refine (num_any b s1 0 4096 _ R1.out).mono ?_; intro e w2 h2; rcases h2.cases with ⟨q2, rfl, o2⟩ | ⟨n, s2, v, q2, rfl, rfl, r2, o2⟩ <;> (first | (obtain ⟨k, rfl⟩ : ∃ k : Nat, n = (k : Int) := ⟨n.toNat, by have := number_ge q2; omega⟩; have hk := (number_ge q2).2; have O2 := hid o2; have Q2 := hid q2; have R2 := hid r2; clear o2 q2 r2 h2) | (have O2 := hid o2; have Q2 := hid q2; clear o2 q2 h2)))
    | (go_at_call 53; refine (sign_any b s2 [125, 13, 10] _ R2.out).mono ?_; intro e w3 h3; rcases sign_cases h3 with ⟨q3, rfl, o3⟩ | ⟨s3, q3, rfl, r3, o3⟩ <;> (first | (have O3 := hid o3; have Q3 := hid q3; have c3 := r3.c; have f3 := r3.free; have z3 := str_size s3; have l3 := r3.len; have R3 := hid r3; clear o3 q3 r3 h3) | (have O3 := hid o3; have Q3 := hid q3; clear o3 q3 h3)))
    | (go_at_call 28; refine (must_any _ _).mono ?_; rintro e w4 ⟨h4, rfl⟩; rcases must_split h4 with ⟨m4, rfl⟩ | ⟨m4, rfl⟩ <;> (first | (have M4 := of_decide_eq_true m4; clear m4 h4) | (have M4 := of_decide_eq_false m4; clear m4 h4))))
  all_goals first
    | (refine ⟨rfl, Reads.panic ?_ (((O1.out.trans O2.out).trans O3.out))⟩; rw [HR.out]; simp [literal, Q1.out, Q2.out, Q3.out]; omega)
    | (refine ⟨rfl, Reads.panic ?_ (((O1.out.trans O2.out).trans O3.out))⟩; rw [HR.out]; simp [literal, Q1.out, Q2.out, Q3.out]; done)
    | (refine ⟨rfl, Reads.panic ?_ (O1.out.trans O2.out)⟩; rw [HR.out]; simp [literal, Q1.out, Q2.out]; done)
    | (refine ⟨rfl, Reads.panic ?_ O1.out⟩; rw [HR.out]; simp [literal, Q1.out]; done)
    | skip
  go_ret
  refine Reads.give (x := s3.take k) (t := s3.drop k) ?_ ((O1.out.trans O2.out).trans (O3.out.trans (Only.set _ _ _ _))) ?_ ?_
  · rw [HR.out]
    simp [literal, Q1.out, Q2.out, Q3.out]
    omega
  · show Value.string ((str s3).extract 0 k) = Value.string (str (s3.take k))
    rw [str_upto]
  · rw [str_from s3 k s3.length rfl]
    exact R3.out.set _ (by simp)
end Go.Proofs.YtfdmdmahddjjmaaGreatDoor
