/-
  Leap years, a month's length, the days ahead of a year: what the program's functions, and the reference's, give.
-/
import Derived.Test.YtcfkmckdjappbaaDoorProg
import Derived.Test.YtcfkmckdjappbaaDoorDate
import Derived.Test.YtcfkmckdjappbaaDoorOwn
import Derived.WalkKit
import Derived.WalkSpells
import Derived.WalkLawsBesides
import Derived.Deep.QuietTactic
import Derived.BigQuiet
namespace Go.Proofs.YtcfkmckdjappbaaDoor
open Go.RowKit Own
set_option linter.unusedVariables false
set_option linter.unusedSimpArgs false

theorem leap_any (y : Int) (w : World) (h0 : 0 ≤ y) (h1 : y ≤ 100000) :
    Calls Tryd.prog 38 #[.int .i64 y] w fun e w' => e = .returned (.bool (Date.leap y)) ∧ w = w' := by
  unfold Date.leap
  by_cases h4 : y % 4 = 0
  · have e4 : (y % 4 == 0) = true := by simpa using h4
    by_cases h100 : y % 100 = 0
    · have e100 : (y % 100 != 0) = false := by simpa using h100
      go_enter Tryd.func38, Tryd.ntmps38
      go_wp2
      go_ret
      exact ⟨by by_cases h400 : y % 400 = 0 <;> simp [h4, h100, h400], rfl⟩
    · have e100 : (y % 100 != 0) = true := by simpa using h100
      go_enter Tryd.func38, Tryd.ntmps38
      go_wp2
      go_ret
      exact ⟨by by_cases h400 : y % 400 = 0 <;> simp [h4, h100, h400], rfl⟩
  · have e4 : (y % 4 == 0) = false := by simpa using h4
    go_enter Tryd.func38, Tryd.ntmps38
    go_wp2
    go_ret
    exact ⟨by simp [h4], rfl⟩

theorem rleap_any (y : Int) (w : World) (h0 : 0 ≤ y) (h1 : y ≤ 100000) :
    Calls Tryd.prog 39 #[.int .i64 y] w fun e w' => e = .returned (.bool (Date.leap y)) ∧ w = w' := by
  unfold Date.leap
  by_cases h4 : y % 4 = 0
  · have e4 : (y % 4 == 0) = true := by simpa using h4
    by_cases h100 : y % 100 = 0
    · have e100 : (y % 100 != 0) = false := by simpa using h100
      go_enter Tryd.func39, Tryd.ntmps39
      go_wp2
      go_ret
      exact ⟨by by_cases h400 : y % 400 = 0 <;> simp [h4, h100, h400], rfl⟩
    · have e100 : (y % 100 != 0) = true := by simpa using h100
      go_enter Tryd.func39, Tryd.ntmps39
      go_wp2
      go_ret
      exact ⟨by by_cases h400 : y % 400 = 0 <;> simp [h4, h100, h400], rfl⟩
  · have e4 : (y % 4 == 0) = false := by simpa using h4
    go_enter Tryd.func39, Tryd.ntmps39
    go_wp2
    by_cases h400 : y % 400 = 0
    · omega
    · all_goals go_ret
      all_goals exact ⟨by simp [h4, h400], rfl⟩

theorem all_any (y : Int) (w : World) (h0 : 0 ≤ y) (h1 : y ≤ 100000) :
    Calls Tryd.prog 37 #[.int .i64 y] w fun e w' => e = .returned (.int .i64 (365 * y + y / 4 - y / 100 + y / 400)) ∧ w = w' := by
  go_enter Tryd.func37, Tryd.ntmps37
  go_wp2
  go_ret
  exact ⟨rfl, rfl⟩

theorem before_any (y : Int) (w : World) (h0 : 1 ≤ y) (h1 : y ≤ 100000) :
    Calls Tryd.prog 20 #[.int .i64 y] w fun e w' => e = .returned (.int .i64 (Date.dby y)) ∧ w = w' := by
  go_enter Tryd.func20, Tryd.ntmps20
  go_wp2_with (first | (go_at_call 37; refine (all_any _ _ (by omega) (by omega)).mono ?_; rintro e w1 ⟨rfl, rfl⟩))
  go_ret
  exact ⟨by unfold Date.dby; congr 2, rfl⟩

/-- What the months' table holds. -/
def lensA : Array Value := #[.int .i64 31, .int .i64 28, .int .i64 31, .int .i64 30, .int .i64 31, .int .i64 30, .int .i64 31, .int .i64 31, .int .i64 30, .int .i64 31, .int .i64 30, .int .i64 31]
/-- The months' table, as it lies. -/
def Lens (w : World) : Prop := ∀ j, j < 12 → w.cell? ⟨0, j, none⟩ = lensA[j]?
theorem Lens.below {B : Nat} {w w' : World} (h : Lens w) (hb : Below B w w') (hB : 0 < B) : Lens w' := fun j hj => (hb.cell hB).trans (h j hj)

theorem length_any (y m : Int) (w : World) (hL : Lens w) (h0 : 0 ≤ y) (h1 : y ≤ 100000) (hm1 : 1 ≤ m) (hm2 : m ≤ 12) :
    Calls Tryd.prog 21 #[.int .i64 y, .int .i64 m] w fun e w' => e = .returned (.int .i64 (Date.mlen y m)) ∧ w = w' := by
  have hL2 := hid hL
  by_cases h2 : m = 2
  · subst h2
    cases hl : Date.leap y with
    | true =>
      go_enter Tryd.func21, Tryd.ntmps21
      go_wp2_with (first | (go_at_call 38; refine (leap_any _ _ h0 h1).mono ?_; rintro e w1 ⟨rfl, rfl⟩))
      go_ret
      exact ⟨by simp [Date.mlen, Date.lp, hl], rfl⟩
    | false =>
      have hc := hL2.out 1 (by omega)
      simp [lensA] at hc
      go_enter Tryd.func21, Tryd.ntmps21
      go_wp2_with (first | (go_at_call 38; refine (leap_any _ _ h0 h1).mono ?_; rintro e w1 ⟨rfl, rfl⟩))
      go_ret
      exact ⟨by simp [Date.mlen, Date.lp, hl], rfl⟩
  · have e2 : (m == 2) = false := by simpa using h2
    have hm : m = 1 ∨ m = 3 ∨ m = 4 ∨ m = 5 ∨ m = 6 ∨ m = 7 ∨ m = 8 ∨ m = 9 ∨ m = 10 ∨ m = 11 ∨ m = 12 := by omega
    have hc : w.cell? ⟨0, m.toNat - 1, none⟩ = some (.int .i64 (Date.mlen y m)) := by
      rw [hL2.out (m.toNat - 1) (by omega)]
      rcases hm with rfl | rfl | rfl | rfl | rfl | rfl | rfl | rfl | rfl | rfl | rfl <;> simp [lensA, Date.mlen]
    have hb : 0 ≤ m - 1 ∧ m - 1 < 12 := by omega
    clear hm
    go_enter Tryd.func21, Tryd.ntmps21
    go_wp2
    go_ret
    exact ⟨rfl, rfl⟩

theorem rdays_any (y m : Int) (w : World) (h0 : 0 ≤ y) (h1 : y ≤ 100000) :
    Calls Tryd.prog 22 #[.int .i64 y, .int .i64 m] w fun e w' => e = .returned (.int .i64 (Date.mlen y m)) ∧ w = w' := by
  have t4 : ∀ k : Int, (m == k) = decide (m = k) := fun k => by by_cases h : m = k <;> simp [h]
  by_cases h2 : m = 2
  · subst h2
    clear t4
    cases hl : Date.leap y with
    | true =>
      go_enter Tryd.func22, Tryd.ntmps22
      go_wp2_with (first | (go_at_call 39; refine (rleap_any _ _ h0 h1).mono ?_; rintro e w1 ⟨rfl, rfl⟩))
      go_ret
      exact ⟨by simp [Date.mlen, Date.lp, hl], rfl⟩
    | false =>
      go_enter Tryd.func22, Tryd.ntmps22
      go_wp2_with (first | (go_at_call 39; refine (rleap_any _ _ h0 h1).mono ?_; rintro e w1 ⟨rfl, rfl⟩))
      go_ret
      exact ⟨by simp [Date.mlen, Date.lp, hl], rfl⟩
  · by_cases hs : m = 4 ∨ m = 6 ∨ m = 9 ∨ m = 11
    · rcases hs with rfl | rfl | rfl | rfl
      all_goals
        clear t4
        go_enter Tryd.func22, Tryd.ntmps22
        go_wp2
        go_ret
        exact ⟨by simp [Date.mlen], rfl⟩
    · have e2 : (m == 2) = false := by simpa using h2
      have e4 : (m == 4) = false := by simp; omega
      have e6 : (m == 6) = false := by simp; omega
      have e9 : (m == 9) = false := by simp; omega
      have e11 : (m == 11) = false := by simp; omega
      have he : Date.mlen y m = 31 := by unfold Date.mlen; rw [if_neg h2, if_neg hs]
      clear t4 h2 hs
      go_enter Tryd.func22, Tryd.ntmps22
      go_wp2
      go_ret
      exact ⟨by rw [he]; rfl, rfl⟩

end Go.Proofs.YtcfkmckdjappbaaDoor
