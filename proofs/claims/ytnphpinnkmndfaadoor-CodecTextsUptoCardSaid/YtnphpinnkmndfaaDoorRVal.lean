/-
  The reference's value of a letter.
-/
import Derived.Test.YtnphpinnkmndfaaDoorRQuote
import Derived.Test.YtnphpinnkmndfaaDoorRDecLaw
namespace Go.Proofs.YtnphpinnkmndfaaDoor
open Go.RowKit Own Dec
set_option linter.unusedVariables false
set_option linter.unusedSimpArgs false
set_option maxRecDepth 100000

theorem value_num (n : Nat) (w : World) (hn : n < 256) :
    Calls Tryd.prog 32 #[.int .u8 n] w fun e w' => e = .returned (.int .i64 (Enc.rvN n)) ∧ w = w' := by
  have hc : (65 ≤ n ∧ n ≤ 90) ∨ (97 ≤ n ∧ n ≤ 122) ∨ (48 ≤ n ∧ n ≤ 57) ∨ n = 43 ∨ n = 47 ∨ n < 43 ∨ (44 ≤ n ∧ n ≤ 46) ∨ (58 ≤ n ∧ n ≤ 64) ∨ (91 ≤ n ∧ n ≤ 96) ∨ 123 ≤ n := by omega
  rcases hc with h | h | h | h | h | h | h | h | h | h
  · obtain ⟨h1, h2⟩ := h
    have hr : Enc.rvN n = (n : Int) - 65 := by unfold Enc.rvN; rw [if_pos (by omega)]
    rw [hr]; clear hr
    go_enter Tryd.func32, Tryd.ntmps32
    go_wp2
    go_ret
    exact ⟨by first | rfl | (congr 2; omega), rfl⟩
  · obtain ⟨h1, h2⟩ := h
    have hr : Enc.rvN n = (n : Int) - 97 + 26 := by unfold Enc.rvN; rw [if_neg (by omega), if_pos (by omega)]
    rw [hr]; clear hr
    go_enter Tryd.func32, Tryd.ntmps32
    go_wp2
    go_ret
    exact ⟨by first | rfl | (congr 2; omega), rfl⟩
  · obtain ⟨h1, h2⟩ := h
    have hr : Enc.rvN n = (n : Int) - 48 + 52 := by unfold Enc.rvN; rw [if_neg (by omega), if_neg (by omega), if_pos (by omega)]
    rw [hr]; clear hr
    go_enter Tryd.func32, Tryd.ntmps32
    go_wp2
    go_ret
    exact ⟨by first | rfl | (congr 2; omega), rfl⟩
  · subst h
    go_enter Tryd.func32, Tryd.ntmps32
    go_wp2
    go_ret
    exact ⟨rfl, rfl⟩
  · subst h
    go_enter Tryd.func32, Tryd.ntmps32
    go_wp2
    go_ret
    exact ⟨rfl, rfl⟩
  all_goals
    have hr : Enc.rvN n = -1 := by unfold Enc.rvN; rw [if_neg (by omega), if_neg (by omega), if_neg (by omega), if_neg (by omega), if_neg (by omega)]
    rw [hr]; clear hr
    have e1 : ((n : Int) == 43) = false := by rw [beq_eq_false_iff_ne]; omega
    have e2 : ((n : Int) == 47) = false := by rw [beq_eq_false_iff_ne]; omega
    go_enter Tryd.func32, Tryd.ntmps32
    go_wp2
    go_ret
    exact ⟨rfl, rfl⟩
theorem value_any (c : UInt8) (w : World) :
    Calls Tryd.prog 32 #[.int .u8 c.toNat] w fun e w' => e = .returned (.int .i64 (Enc.lv c)) ∧ w = w' := by
  rw [Enc.rv_eq]
  exact value_num c.toNat w c.toNat_lt

end Go.Proofs.YtnphpinnkmndfaaDoor
