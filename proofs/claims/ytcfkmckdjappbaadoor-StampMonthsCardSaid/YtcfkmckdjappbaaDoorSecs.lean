/-
  The seconds of a date and time: the program's.
-/
import Derived.Test.YtcfkmckdjappbaaDoorClock
import Derived.LoopTactic
import Derived.Deep.LoopGhost
import Derived.Deep.DeepCutAuto
import Derived.Deep.CutBlock
import Derived.Deep.QuietTactic
import Derived.BigQuiet
import Derived.IntWalk
import Derived.WalkSmall
namespace Go.Proofs.YtcfkmckdjappbaaDoor
open Go.RowKit Own
set_option linter.unusedVariables false
set_option linter.unusedSimpArgs false

theorem in_any (n a b : Int) (w : World) :
    Calls Tryd.prog 41 #[.int .i64 n, .int .i64 a, .int .i64 b] w fun e w' => e = .returned (.bool (decide (a ≤ n) && decide (n ≤ b))) ∧ w = w' := by
  by_cases h : a ≤ n
  · have e1 : decide (a ≤ n) = true := decide_eq_true h
    go_enter Tryd.func41, Tryd.ntmps41
    go_wp2
    go_ret
    exact ⟨by simp [h], rfl⟩
  · have e1 : decide (a ≤ n) = false := decide_eq_false h
    go_enter Tryd.func41, Tryd.ntmps41
    go_wp2
    go_ret
    exact ⟨by simp [h], rfl⟩

def Valid (y m d h mi s : Int) : Prop := 1999 ≤ y ∧ y ≤ 2137 ∧ 1 ≤ m ∧ m ≤ 12 ∧ 1 ≤ d ∧ d ≤ Date.mlen y m ∧ 0 ≤ h ∧ h ≤ 23 ∧ 0 ≤ mi ∧ mi ≤ 59 ∧ 0 ≤ s ∧ s ≤ 59
instance (y m d h mi s : Int) : Decidable (Valid y m d h mi s) := by unfold Valid; infer_instance
def secsOf (y m d h mi s : Int) : Int := (Date.dby y + d - 1 + Date.cum y m) * 86400 + h * 3600 + mi * 60 + s

set_option maxHeartbeats 4000000 in
theorem seconds_bad (y m d h mi s wd : Int) (w : World) (hL : Lens w) (hg : 0 < w.heap.size) (hv : ¬ Valid y m d h mi s) :
    Calls Tryd.prog 33 #[.agg (time7 y m d h mi s wd)] w fun e w' => e = .returned (.tuple #[.int .i64 0, .bool false]) ∧ Below w.heap.size w w' := by
  unfold time7
  have fin : ∀ (o : Obj) n, Below w.heap.size w ((w.alloc o).drewN n) := fun o n => below_drewN ((Below.refl _ _).alloc (Nat.le_refl _) o) n
  have hLA : ∀ (o : Obj) n, Lens ((w.alloc o).drewN n) := fun o n => hL.below (fin o n) hg
  unfold Valid at hv
  by_cases c0 : 1999 ≤ y ∧ y ≤ 2137
  · have e0 : (decide (1999 ≤ y) && decide (y ≤ 2137)) = true := by simp; omega
    by_cases c1 : 1 ≤ m ∧ m ≤ 12
    · have e1 : (decide (1 ≤ m) && decide (m ≤ 12)) = true := by simp; omega
      by_cases c2 : 1 ≤ d ∧ d ≤ Date.mlen y m
      · have e2 : (decide (1 ≤ d) && decide (d ≤ Date.mlen y m)) = true := by simp; omega
        by_cases c3 : 0 ≤ h ∧ h ≤ 23
        · have e3 : (decide (0 ≤ h) && decide (h ≤ 23)) = true := by simp; omega
          by_cases c4 : 0 ≤ mi ∧ mi ≤ 59
          · have e4 : (decide (0 ≤ mi) && decide (mi ≤ 59)) = true := by simp; omega
            by_cases c5 : 0 ≤ s ∧ s ≤ 59
            · have e5 : (decide (0 ≤ s) && decide (s ≤ 59)) = true := by simp; omega
              exact absurd (by omega) hv
            · have e5 : (decide (0 ≤ s) && decide (s ≤ 59)) = false := by simp; omega
              clear hv
              have yr : 0 ≤ y ∧ y ≤ 100000 := by omega
              go_enter Tryd.func33, Tryd.ntmps33
              go_wp2_with fail
              go_quiet (first
                | (go_at_call 41; exact Calls.quiet_of_same ((in_any _ _ _ _).mono fun _ _ ⟨he, hw⟩ => ⟨he, hw.symm⟩))
                | (go_at_call 21; exact Calls.quiet_of_same ((length_any _ _ _ (hLA _ _) yr.1 yr.2 c1.1 c1.2).mono fun _ _ ⟨he, hw⟩ => ⟨he, hw.symm⟩)))
              go_wp2
              exact bodyPost_ret (v := .tuple #[.int .i64 0, .bool false]) (by simp [results, Tryd.results33, go_sem]) rfl ⟨rfl, fin _ _⟩
          · have e4 : (decide (0 ≤ mi) && decide (mi ≤ 59)) = false := by simp; omega
            clear hv
            have yr : 0 ≤ y ∧ y ≤ 100000 := by omega
            go_enter Tryd.func33, Tryd.ntmps33
            go_wp2_with fail
            go_quiet (first
              | (go_at_call 41; exact Calls.quiet_of_same ((in_any _ _ _ _).mono fun _ _ ⟨he, hw⟩ => ⟨he, hw.symm⟩))
              | (go_at_call 21; exact Calls.quiet_of_same ((length_any _ _ _ (hLA _ _) yr.1 yr.2 c1.1 c1.2).mono fun _ _ ⟨he, hw⟩ => ⟨he, hw.symm⟩)))
            go_wp2
            exact bodyPost_ret (v := .tuple #[.int .i64 0, .bool false]) (by simp [results, Tryd.results33, go_sem]) rfl ⟨rfl, fin _ _⟩
        · have e3 : (decide (0 ≤ h) && decide (h ≤ 23)) = false := by simp; omega
          clear hv
          have yr : 0 ≤ y ∧ y ≤ 100000 := by omega
          go_enter Tryd.func33, Tryd.ntmps33
          go_wp2_with fail
          go_quiet (first
            | (go_at_call 41; exact Calls.quiet_of_same ((in_any _ _ _ _).mono fun _ _ ⟨he, hw⟩ => ⟨he, hw.symm⟩))
            | (go_at_call 21; exact Calls.quiet_of_same ((length_any _ _ _ (hLA _ _) yr.1 yr.2 c1.1 c1.2).mono fun _ _ ⟨he, hw⟩ => ⟨he, hw.symm⟩)))
          go_wp2
          exact bodyPost_ret (v := .tuple #[.int .i64 0, .bool false]) (by simp [results, Tryd.results33, go_sem]) rfl ⟨rfl, fin _ _⟩
      · have e2 : (decide (1 ≤ d) && decide (d ≤ Date.mlen y m)) = false := by simp; omega
        clear hv
        have yr : 0 ≤ y ∧ y ≤ 100000 := by omega
        go_enter Tryd.func33, Tryd.ntmps33
        go_wp2_with fail
        go_quiet (first
          | (go_at_call 41; exact Calls.quiet_of_same ((in_any _ _ _ _).mono fun _ _ ⟨he, hw⟩ => ⟨he, hw.symm⟩))
          | (go_at_call 21; exact Calls.quiet_of_same ((length_any _ _ _ (hLA _ _) yr.1 yr.2 c1.1 c1.2).mono fun _ _ ⟨he, hw⟩ => ⟨he, hw.symm⟩)))
        go_wp2
        exact bodyPost_ret (v := .tuple #[.int .i64 0, .bool false]) (by simp [results, Tryd.results33, go_sem]) rfl ⟨rfl, fin _ _⟩
    · have e1 : (decide (1 ≤ m) && decide (m ≤ 12)) = false := by simp; omega
      clear hv
      go_enter Tryd.func33, Tryd.ntmps33
      go_wp2_with fail
      go_quiet ((go_at_call 41; exact Calls.quiet_of_same ((in_any _ _ _ _).mono fun _ _ ⟨he, hw⟩ => ⟨he, hw.symm⟩)))
      go_wp2
      exact bodyPost_ret (v := .tuple #[.int .i64 0, .bool false]) (by simp [results, Tryd.results33, go_sem]) rfl ⟨rfl, fin _ _⟩
  · have e0 : (decide (1999 ≤ y) && decide (y ≤ 2137)) = false := by simp; omega
    clear hv
    go_enter Tryd.func33, Tryd.ntmps33
    go_wp2_with fail
    go_quiet ((go_at_call 41; exact Calls.quiet_of_same ((in_any _ _ _ _).mono fun _ _ ⟨he, hw⟩ => ⟨he, hw.symm⟩)))
    go_wp2
    exact bodyPost_ret (v := .tuple #[.int .i64 0, .bool false]) (by simp [results, Tryd.results33, go_sem]) rfl ⟨rfl, fin _ _⟩

end Go.Proofs.YtcfkmckdjappbaaDoor
