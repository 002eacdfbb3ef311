/-
  What the walks ask of the world; the codec's Number.
-/
import Derived.Test.YtdbggicpcbecdaaGreatDoorShelf
import Derived.Test.YtdbggicpcbecdaaGreatDoorStr
import Derived.Lib.AtoiErrMem
import Derived.Lib.AtoiBound
import Derived.Shelf.Strconv.ErrVar
import Derived.Shelf.GgClosure.Gives
namespace Go.Proofs.YtdbggicpcbecdaaGreatDoor
open Go.RowKit Own Dec
set_option linter.unusedVariables false
set_option linter.unusedSimpArgs false
set_option maxRecDepth 100000

theorem var_below {w w' : World} {n : String} {cs : Array Value} (h : w.var? Tryz.prog n = some cs) (hb : Below w.heap.size w w') : w'.var? Tryz.prog n = some cs := by
  unfold World.var? at h ⊢
  cases hg : Tryz.prog.globalNamed n with
  | none => simp [hg] at h
  | some g =>
    simp only [hg, Option.bind_some] at h ⊢
    have hlt : g < w.heap.size := by
      rcases Nat.lt_or_ge g w.heap.size with h' | h'
      · exact h'
      · simp [Array.getElem?_eq_none h'] at h
    rw [hb.block g hlt]
    exact h

/-- What the walks ask of the world. -/
structure GoodC (w : World) : Prop where
  tab : Lib.TabIs Tryz.prog w "internal/strconv.uint64pow10" .u64 Lib.pow10Tab
  err : ∃ tp p, w.var? Tryz.prog "strconv.ErrSyntax" = some #[.iface tp p]
  max : ∃ m, w.cell? ⟨0, 0, none⟩ = some (.int .i64 m)
theorem GoodC.below {w w' : World} (h : GoodC w) (hb : Below w.heap.size w w') : GoodC w' := by
  obtain ⟨h1, ⟨tp, p, h2⟩, m, h3⟩ := h
  exact ⟨var_below h1 hb, ⟨tp, p, var_below h2 hb⟩, m, keep_below hb rfl h3⟩

theorem itoa_any (n : Int) (h0 : -9223372036854775808 ≤ n) (h1 : n ≤ 9223372036854775807) (w : World) (hG : GoodC w) :
    Calls Tryz.prog 62 #[.int .i64 n] w fun e w' => e = .returned (.string (str (Lib.itoa n))) ∧ Below w.heap.size w w' := by
  refine (Tryz.strconv_Itoa n h0 h1 w hG.tab).mono ?_
  rintro e w' ⟨rfl, k, os, rfl⟩
  exact ⟨rfl, Go.Proofs.below_grown w k os⟩

attribute [local go_sem] str_toList str_size

theorem number_any (l : List UInt8) (most : Int) (w : World) (hG : GoodC w) :
    Calls Tryz.prog 43 #[.string (str l), .int .i64 most] w fun e w' => e = .returned (.tuple #[.int .i64 (numR l most).1, .bool (numR l most).2]) ∧ Below w.heap.size w w' := by
  rw [← num_eq]
  have hsz := str_size l
  by_cases h10 : 10 < l.length
  · have e1 : decide (10 < (l.length : Int)) = true := decide_eq_true (by omega)
    have hR : numP l most = (0, false) := by unfold numP; rw [if_pos h10]
    go_enter Tryz.func43, Tryz.ntmps43
    go_wp2
    exact bodyPost_ret (v := .tuple #[.int .i64 0, .bool false]) (by simp [results, Tryz.results43, go_sem]) rfl ⟨by first | rfl | simp [hR], Below.refl _ _⟩
  have e1 : decide (10 < (l.length : Int)) = false := decide_eq_false (by omega)
  cases ha : Lib.atoi l with
  | none =>
    have hR : numP l most = (0, false) := by unfold numP; rw [if_neg h10, ha]
    obtain ⟨tp, p, hvar⟩ := hG.err
    have hat := Tryz.strconv_Atoi_err_var (str l) (by omega) ha tp p w hvar
    clear ha
    go_enter Tryz.func43, Tryz.ntmps43
    go_wp2_with ((go_at_call 61; refine hat.mono ?_; rintro e w1 ⟨N, rfl, hN, hcell, hb1⟩))
    exact bodyPost_ret (v := .tuple #[.int .i64 0, .bool false]) (by simp [results, Tryz.results43, go_sem]) rfl ⟨by first | rfl | simp [hR], hb1⟩
  | some n =>
    have hat := Tryz.strconv_Atoi (str l) n (by omega) ha w
    have hbd := Lib.atoi_bound ha (by omega)
    have hR : numP l most = if Lib.itoa n ≠ l ∨ n < 0 ∨ most < n then (0, false) else (n, true) := by unfold numP; rw [if_neg h10, ha]
    have hit := fun w' (g : GoodC w') => itoa_any n (by omega) (by omega) w' g
    clear ha
    by_cases c1 : Lib.itoa n = l
    · by_cases c2 : n < 0
      · have hR2 : numP l most = (0, false) := by rw [hR, if_pos (.inr (.inl c2))]
        have e3 : decide (n < 0) = true := decide_eq_true c2
        rw [c1] at hit
        clear hR c1 c2 hbd
        go_enter Tryz.func43, Tryz.ntmps43
        go_wp2_with (first
          | (go_at_call 61; refine hat.mono ?_; rintro e w1 ⟨rfl, t, rfl⟩; have b1 := Lib.bytesWorld_below w 5 t)
          | (go_at_call 62; refine (hit _ (hG.below b1)).mono ?_; rintro e w2 ⟨rfl, b2⟩; have b3 := below_then b1 b2))
        exact bodyPost_ret (v := .tuple #[.int .i64 0, .bool false]) (by simp [results, Tryz.results43, go_sem]) rfl ⟨by first | rfl | simp [hR2], b3⟩
      · by_cases c3 : most < n
        · have hR2 : numP l most = (0, false) := by rw [hR, if_pos (.inr (.inr c3))]
          have e3 : decide (n < 0) = false := decide_eq_false c2
          have e4 : decide (most < n) = true := decide_eq_true c3
          rw [c1] at hit
          clear hR c1 c2 c3 hbd
          go_enter Tryz.func43, Tryz.ntmps43
          go_wp2_with (first
            | (go_at_call 61; refine hat.mono ?_; rintro e w1 ⟨rfl, t, rfl⟩; have b1 := Lib.bytesWorld_below w 5 t)
            | (go_at_call 62; refine (hit _ (hG.below b1)).mono ?_; rintro e w2 ⟨rfl, b2⟩; have b3 := below_then b1 b2))
          exact bodyPost_ret (v := .tuple #[.int .i64 0, .bool false]) (by simp [results, Tryz.results43, go_sem]) rfl ⟨by first | rfl | simp [hR2], b3⟩
        · have hR2 : numP l most = (n, true) := by rw [hR, if_neg (by rintro (h | h | h); exact h c1; exact c2 h; exact c3 h)]
          have e3 : decide (n < 0) = false := decide_eq_false c2
          have e4 : decide (most < n) = false := decide_eq_false c3
          rw [c1] at hit
          clear hR c1 c2 c3 hbd
          go_enter Tryz.func43, Tryz.ntmps43
          go_wp2_with (first
            | (go_at_call 61; refine hat.mono ?_; rintro e w1 ⟨rfl, t, rfl⟩; have b1 := Lib.bytesWorld_below w 5 t)
            | (go_at_call 62; refine (hit _ (hG.below b1)).mono ?_; rintro e w2 ⟨rfl, b2⟩; have b3 := below_then b1 b2))
          exact bodyPost_ret (v := .tuple #[.int .i64 n, .bool true]) (by simp [results, Tryz.results43, go_sem]) rfl ⟨by first | rfl | simp [hR2], b3⟩
    · have hR2 : numP l most = (0, false) := by rw [hR, if_pos (.inl c1)]
      have e3 : (Lib.itoa n == l) = false := by simpa using c1
      clear hR c1 hbd
      generalize Lib.itoa n = I at *
      go_enter Tryz.func43, Tryz.ntmps43
      go_wp2_with (first
        | (go_at_call 61; refine hat.mono ?_; rintro e w1 ⟨rfl, t, rfl⟩; have b1 := Lib.bytesWorld_below w 5 t)
        | (go_at_call 62; refine (hit _ (hG.below b1)).mono ?_; rintro e w2 ⟨rfl, b2⟩; have b3 := below_then b1 b2))
      exact bodyPost_ret (v := .tuple #[.int .i64 0, .bool false]) (by simp [results, Tryz.results43, go_sem]) rfl ⟨by first | rfl | simp [hR2], b3⟩

end Go.Proofs.YtdbggicpcbecdaaGreatDoor
