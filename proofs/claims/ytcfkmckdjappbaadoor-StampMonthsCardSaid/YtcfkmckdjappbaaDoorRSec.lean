/-
  Second: the reference's.
-/
import Derived.Test.YtcfkmckdjappbaaDoorRAt1
import Derived.Test.YtcfkmckdjappbaaDoorRAt2
import Derived.Test.YtcfkmckdjappbaaDoorRAt3
namespace Go.Proofs.YtcfkmckdjappbaaDoor
open Go.RowKit Own
set_option linter.unusedVariables false
set_option linter.unusedSimpArgs false

theorem at_any (y m d h mi s wd : Int) (w : World) :
    Calls Tryd.prog 35 #[.agg (time7 y m d h mi s wd)] w fun e w' => e = .returned (.tuple #[.int .i64 (secPair y m d h mi s).1, .bool (secPair y m d h mi s).2]) ∧ Below w.heap.size w w' := by
  unfold secPair
  by_cases hv : Valid y m d h mi s
  · rw [if_pos hv]; exact at_ok y m d h mi s wd w hv
  · rw [if_neg hv]
    unfold Valid at hv
    by_cases c0 : y < 1999
    · exact at_bad0 y m d h mi s wd w c0
    by_cases c1 : 2137 < y
    · exact at_bad1 y m d h mi s wd w c0 c1
    by_cases c2 : m < 1
    · exact at_bad2 y m d h mi s wd w c0 c1 c2
    by_cases c3 : 12 < m
    · exact at_bad3 y m d h mi s wd w c0 c1 c2 c3
    by_cases c4 : d < 1
    · exact at_bad4 y m d h mi s wd w c0 c1 c2 c3 c4
    by_cases c5 : Date.mlen y m < d
    · exact at_bad5 y m d h mi s wd w c0 c1 c2 c3 c4 c5
    by_cases c6 : h < 0
    · exact at_bad6 y m d h mi s wd w c0 c1 c2 c3 c4 c5 c6
    by_cases c7 : 23 < h
    · exact at_bad7 y m d h mi s wd w c0 c1 c2 c3 c4 c5 c6 c7
    by_cases c8 : mi < 0
    · exact at_bad8 y m d h mi s wd w c0 c1 c2 c3 c4 c5 c6 c7 c8
    by_cases c9 : 59 < mi
    · exact at_bad9 y m d h mi s wd w c0 c1 c2 c3 c4 c5 c6 c7 c8 c9
    by_cases c10 : s < 0
    · exact at_bad10 y m d h mi s wd w c0 c1 c2 c3 c4 c5 c6 c7 c8 c9 c10
    by_cases c11 : 59 < s
    · exact at_bad11 y m d h mi s wd w c0 c1 c2 c3 c4 c5 c6 c7 c8 c9 c10 c11
    exact absurd (by omega) hv

theorem rsecond_any (y m d h mi s wd : Int) (w : World) :
    Calls Tryd.prog 18 #[.agg (time7 y m d h mi s wd)] w fun e w' => e = .returned (momOf (secPair y m d h mi s).1 (secPair y m d h mi s).2) ∧ Below w.heap.size w w' := by
  rcases hp : secPair y m d h mi s with ⟨n, ok⟩
  have hsec := fun o => at_any y m d h mi s wd (w.alloc o)
  rw [hp] at hsec
  clear hp
  unfold time7 at *
  cases ok with
  | false =>
    have hm : momP n false = (0, 80) := by simp [momP]
    go_enter Tryd.func18, Tryd.ntmps18
    go_wp2_with (first
      | (go_at_call 35; refine (hsec _).mono ?_; rintro e w1 ⟨rfl, hb⟩))
    refine bodyPost_ret (v := .tuple #[.int .i64 0, .int .i64 80]) (by simp [results, Tryd.results18, go_sem]) rfl ⟨by simp [momOf, hm], below_then ((Below.refl _ _).alloc (Nat.le_refl _) _) hb⟩
  | true =>
    by_cases h0 : n < 0
    · have e0 : decide (n < 0) = true := decide_eq_true h0
      have hm : momP n true = (0, 80) := by unfold momP; rw [if_neg (by omega)]
      go_enter Tryd.func18, Tryd.ntmps18
      go_wp2_with (first
        | (go_at_call 35; refine (hsec _).mono ?_; rintro e w1 ⟨rfl, hb⟩))
      refine bodyPost_ret (v := .tuple #[.int .i64 0, .int .i64 80]) (by simp [results, Tryd.results18, go_sem]) rfl ⟨by simp [momOf, hm], below_then ((Below.refl _ _).alloc (Nat.le_refl _) _) hb⟩
    · have e0 : decide (n < 0) = false := decide_eq_false h0
      by_cases h1 : 4294967296 ≤ n
      · have e1 : decide (4294967296 ≤ n) = true := decide_eq_true h1
        have hm : momP n true = (0, 80) := by unfold momP; rw [if_neg (by omega)]
        go_enter Tryd.func18, Tryd.ntmps18
        go_wp2_with (first
          | (go_at_call 35; refine (hsec _).mono ?_; rintro e w1 ⟨rfl, hb⟩))
        refine bodyPost_ret (v := .tuple #[.int .i64 0, .int .i64 80]) (by simp [results, Tryd.results18, go_sem]) rfl ⟨by simp [momOf, hm], below_then ((Below.refl _ _).alloc (Nat.le_refl _) _) hb⟩
      · have e1 : decide (4294967296 ≤ n) = false := decide_eq_false h1
        have hm : momP n true = (n, 0) := by unfold momP; rw [if_pos (by simp; omega)]
        go_enter Tryd.func18, Tryd.ntmps18
        go_wp2_with (first
          | (go_at_call 35; refine (hsec _).mono ?_; rintro e w1 ⟨rfl, hb⟩))
        refine bodyPost_ret (v := .tuple #[.int .i64 n, .int .i64 0]) (by simp [results, Tryd.results18, go_sem]) rfl ⟨by simp [momOf, hm], below_then ((Below.refl _ _).alloc (Nat.le_refl _) _) hb⟩

end Go.Proofs.YtcfkmckdjappbaaDoor
