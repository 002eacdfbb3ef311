/-
  Letters and atoms: the program's and the reference's.
-/
import Derived.Test.YtdbggicpcbecdaaGreatDoorShelf
import Derived.Test.YtdbggicpcbecdaaGreatDoorHeld
import Derived.Test.YtdbggicpcbecdaaGreatDoorAd
namespace Go.Proofs.YtdbggicpcbecdaaGreatDoor
open Go.RowKit Own Ad
set_option linter.unusedVariables false
set_option linter.unusedSimpArgs false
set_option maxRecDepth 100000

theorem isLet_t {c : UInt8} (h : 97 ≤ (c.toNat : Int) ∧ (c.toNat : Int) ≤ 122 ∨ 65 ≤ (c.toNat : Int) ∧ (c.toNat : Int) ≤ 90 ∨ 48 ≤ (c.toNat : Int) ∧ (c.toNat : Int) ≤ 57) : isLet c = true := by
  unfold isLet; rw [decide_eq_true_eq]; omega
theorem isLet_f {c : UInt8} (h : ¬ (97 ≤ (c.toNat : Int) ∧ (c.toNat : Int) ≤ 122 ∨ 65 ≤ (c.toNat : Int) ∧ (c.toNat : Int) ≤ 90 ∨ 48 ≤ (c.toNat : Int) ∧ (c.toNat : Int) ≤ 57)) : isLet c = false := by
  unfold isLet; rw [decide_eq_false_iff_not]; omega

theorem isLet_cases (c : UInt8) : ((c.toNat : Int) < 48 ∨ 57 < (c.toNat : Int) ∧ (c.toNat : Int) < 65 ∨ 90 < (c.toNat : Int) ∧ (c.toNat : Int) < 97 ∨ 122 < (c.toNat : Int)) ∧ isLet c = false ∨ (97 ≤ (c.toNat : Int) ∧ (c.toNat : Int) ≤ 122 ∨ 65 ≤ (c.toNat : Int) ∧ (c.toNat : Int) ≤ 90 ∨ 48 ≤ (c.toNat : Int) ∧ (c.toNat : Int) ≤ 57) ∧ isLet c = true := by
  by_cases h : 97 ≤ (c.toNat : Int) ∧ (c.toNat : Int) ≤ 122 ∨ 65 ≤ (c.toNat : Int) ∧ (c.toNat : Int) ≤ 90 ∨ 48 ≤ (c.toNat : Int) ∧ (c.toNat : Int) ≤ 57
  · exact .inr ⟨h, isLet_t h⟩
  · exact .inl ⟨by omega, isLet_f h⟩

theorem letter_any (c : UInt8) (w : World) :
    Calls Tryz.prog 91 #[.int .u8 c.toNat] w fun e w' => e = .returned (.bool (isLet c)) ∧ w = w' := by
  rcases isLet_cases c with ⟨h1 | ⟨h1, h2⟩ | ⟨h1, h2⟩ | h1, hr⟩ | ⟨⟨h1, h2⟩ | ⟨h1, h2⟩ | ⟨h1, h2⟩, hr⟩
  all_goals
    rw [hr]
    clear hr
    go_enter Tryz.func91, Tryz.ntmps91
    go_wp2
    go_ret
    exact ⟨by first | rfl | (simp; omega), rfl⟩
end Go.Proofs.YtdbggicpcbecdaaGreatDoor
