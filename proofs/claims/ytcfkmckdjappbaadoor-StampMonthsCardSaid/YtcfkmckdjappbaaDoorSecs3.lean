/-
  Second: the program's.
-/
import Derived.Test.YtcfkmckdjappbaaDoorSecs2
namespace Go.Proofs.YtcfkmckdjappbaaDoor
open Go.RowKit Own
set_option linter.unusedVariables false
set_option linter.unusedSimpArgs false

/-- The moment, or none. -/
def momP (n : Int) (ok : Bool) : Int × Int := if ok = true ∧ 0 ≤ n ∧ n < 4294967296 then (n, 0) else (0, 80)
def momOf (n : Int) (ok : Bool) : Value := .tuple #[.int .i64 (momP n ok).1, .int .i64 (momP n ok).2]

theorem moment_any (n : Int) (ok : Bool) (w : World) :
    Calls Tryd.prog 34 #[.int .i64 n, .bool ok] w fun e w' => e = .returned (momOf n ok) ∧ w = w' := by
  cases ok with
  | false =>
    go_enter Tryd.func34, Tryd.ntmps34
    go_wp2
    exact bodyPost_ret (v := .tuple #[.int .i64 0, .int .i64 80]) (by simp [results, Tryd.results34, go_sem]) rfl ⟨by simp [momOf, momP], rfl⟩
  | true =>
    by_cases h0 : n < 0
    · have e0 : decide (n < 0) = true := decide_eq_true h0
      have hm : momP n true = (0, 80) := by unfold momP; rw [if_neg (by omega)]
      go_enter Tryd.func34, Tryd.ntmps34
      go_wp2
      exact bodyPost_ret (v := .tuple #[.int .i64 0, .int .i64 80]) (by simp [results, Tryd.results34, go_sem]) rfl ⟨by simp [momOf, hm], rfl⟩
    · have e0 : decide (n < 0) = false := decide_eq_false h0
      by_cases h1 : 4294967296 ≤ n
      · have e1 : decide (4294967296 ≤ n) = true := decide_eq_true h1
        have hm : momP n true = (0, 80) := by unfold momP; rw [if_neg (by omega)]
        go_enter Tryd.func34, Tryd.ntmps34
        go_wp2
        exact bodyPost_ret (v := .tuple #[.int .i64 0, .int .i64 80]) (by simp [results, Tryd.results34, go_sem]) rfl ⟨by simp [momOf, hm], rfl⟩
      · have e1 : decide (4294967296 ≤ n) = false := decide_eq_false h1
        have hm : momP n true = (n, 0) := by unfold momP; rw [if_pos (by simp; omega)]
        go_enter Tryd.func34, Tryd.ntmps34
        go_wp2
        exact bodyPost_ret (v := .tuple #[.int .i64 n, .int .i64 0]) (by simp [results, Tryd.results34, go_sem]) rfl ⟨by simp [momOf, hm], rfl⟩

def secPair (y m d h mi s : Int) : Int × Bool := if Valid y m d h mi s then (secsOf y m d h mi s, true) else (0, false)
theorem seconds_any (y m d h mi s wd : Int) (w : World) (hL : Lens w) (hg : 0 < w.heap.size) :
    Calls Tryd.prog 33 #[.agg (time7 y m d h mi s wd)] w fun e w' => e = .returned (.tuple #[.int .i64 (secPair y m d h mi s).1, .bool (secPair y m d h mi s).2]) ∧ Below w.heap.size w w' := by
  unfold secPair
  by_cases hv : Valid y m d h mi s
  · rw [if_pos hv]; exact seconds_ok y m d h mi s wd w hL hg hv
  · rw [if_neg hv]; exact seconds_bad y m d h mi s wd w hL hg hv

theorem second_any (y m d h mi s wd : Int) (w : World) (hL : Lens w) (hg : 0 < w.heap.size) :
    Calls Tryd.prog 17 #[.agg (time7 y m d h mi s wd)] w fun e w' => e = .returned (momOf (secPair y m d h mi s).1 (secPair y m d h mi s).2) ∧ Below w.heap.size w w' := by
  have hLA : ∀ o : Obj, Lens (w.alloc o) := fun o => hL.below ((Below.refl _ _).alloc (Nat.le_refl _) o) hg
  have hga : ∀ o : Obj, 0 < (w.alloc o).heap.size := fun o => by simp
  rcases hp : secPair y m d h mi s with ⟨n, ok⟩
  have hsec := fun o => seconds_any y m d h mi s wd (w.alloc o) (hLA o) (hga o)
  rw [hp] at hsec
  clear hp
  unfold time7 at *
  go_enter Tryd.func17, Tryd.ntmps17
  go_wp2_with (first
    | (go_at_call 33; refine (hsec _).mono ?_; rintro e w1 ⟨rfl, hb⟩)
    | (go_at_call 34; refine (moment_any _ _ _).mono ?_; rintro e w2 ⟨rfl, rfl⟩; simp only [momOf]))
  refine bodyPost_ret (v := .tuple #[.int .i64 (momP n ok).1, .int .i64 (momP n ok).2]) (by simp [results, Tryd.results17, go_sem]) rfl ⟨rfl, below_then ((Below.refl _ _).alloc (Nat.le_refl _) _) hb⟩

end Go.Proofs.YtcfkmckdjappbaaDoor
