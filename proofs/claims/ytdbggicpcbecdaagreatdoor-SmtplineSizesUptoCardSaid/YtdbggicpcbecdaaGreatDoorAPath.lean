/-
  Path of the program.
-/
import Derived.Test.YtdbggicpcbecdaaGreatDoorAGood
namespace Go.Proofs.YtdbggicpcbecdaaGreatDoor
open Go.RowKit Own Ad
set_option linter.unusedVariables false
set_option linter.unusedSimpArgs false
set_option maxRecDepth 100000
attribute [local go_sem] str_toList

theorem cutp_any (s p : List UInt8) (w : World) : Calls Tryz.prog 38 #[.string (str s), .string (str p)] w fun e w' => e = .returned (.tuple #[.string (str (Lib.trimPrefix s p)), .bool (Lib.hasPrefix s p)]) ∧ w = w' := by
  refine (Tryz.strings_CutPrefix (str s) (str p) w).mono ?_
  rintro e w' ⟨rfl, rfl⟩
  exact ⟨rfl, rfl⟩
theorem cuts_any (s p : List UInt8) (w : World) (hs : s.length ≤ 9223372036854775807) : Calls Tryz.prog 59 #[.string (str s), .string (str p)] w fun e w' => e = .returned (.tuple #[.string (str (Lib.trimSuffix s p)), .bool (Lib.hasSuffix s p)]) ∧ w = w' := by
  refine (Tryz.strings_CutSuffix (str s) (str p) w (by rw [str_size]; omega)).mono ?_
  rintro e w' ⟨rfl, rfl⟩
  exact ⟨rfl, rfl⟩
theorem suf_yes (m : List UInt8) (c : UInt8) : Lib.hasSuffix (m ++ [c]) [c] = true ∧ Lib.trimSuffix (m ++ [c]) [c] = m := by
  have h : Lib.hasSuffix (m ++ [c]) [c] = true := by
    unfold Lib.hasSuffix
    rw [List.isSuffixOf_iff_suffix]
    exact List.suffix_append m [c]
  refine ⟨h, ?_⟩
  unfold Lib.trimSuffix
  rw [if_pos h]
  simp
theorem suf_no {t : List UInt8} {c : UInt8} (h : t.getLast? ≠ some c) : Lib.hasSuffix t [c] = false := by
  rw [Bool.eq_false_iff]
  intro h2
  unfold Lib.hasSuffix at h2
  rw [List.isSuffixOf_iff_suffix] at h2
  obtain ⟨m, rfl⟩ := h2
  exact h (by simp)
theorem adV0 : adV ([], [], []) = .agg #[.string (str []), .string (str []), .string (str [])] := rfl

set_option maxHeartbeats 1000000 in
theorem path_any (s : List UInt8) (w : World) (hG : GoodA w) (hs : s.length ≤ 2147483648) :
    Calls Tryz.prog 42 #[.string (str s)] w fun e w' => e = .returned (.tuple #[adV (pathP s).1, .int .i64 (pathP s).2]) ∧ Below w.heap.size w w' := by
  have i0 := AdAt.new w ([], [], [])
  have b0 := (Below.refl w.heap.size w).alloc (Nat.le_refl _) (.cells #[.string (str []), .string (str []), .string (str [])] 74)
  have I0 := hid i0
  have B0 := hid b0
  clear i0 b0
  by_cases h1 : s = [60, 62]
  · have hP : pathP s = (([], [], []), 0) := by rw [h1]; rfl
    rw [hP]
    have e1 : (s == [60, 62]) = true := by simpa using h1
    clear hP h1
    have y0 := I0.out.c0
    have y1 := I0.out.c1
    have y2 := I0.out.c2
    go_enter Tryz.func42, Tryz.ntmps42
    go_wp2_with fail
    exact bodyPost_ret (v := .tuple #[adV ([], [], []), .int .i64 0]) (by first | (simp [results, Tryz.results42, go_sem, adV]; done) | (simp [results, Tryz.results42, go_sem, adV]; rfl)) rfl ⟨rfl, B0.out⟩
  · have e1 : (s == [60, 62]) = false := by simpa using h1
    have hcp := fun W => cutp_any s [60] W
    by_cases h2 : ∃ m, s = 60 :: (m ++ [62])
    · obtain ⟨m, rfl⟩ := h2
      have hm : m ++ [62] ≠ [62] := fun h => h1 (by rw [h])
      have hP : pathP (60 :: (m ++ [62])) = parseP m := by
        show (if m ++ [62] = [62] then _ else if (m ++ [62]).getLast? = some 62 then _ else _) = _
        rw [if_neg hm, if_pos (by simp), List.dropLast_concat]
      rw [hP]
      have hpre : Lib.hasPrefix (60 :: (m ++ [62])) [60] = true := by simp [Lib.hasPrefix, List.isPrefixOf]
      have htrim : Lib.trimPrefix (60 :: (m ++ [62])) [60] = m ++ [62] := by unfold Lib.trimPrefix; rw [if_pos hpre]; rfl
      rw [hpre, htrim] at hcp
      have hcs := fun W => cuts_any (m ++ [62]) [62] W (by simp at hs ⊢; omega)
      rw [(suf_yes m 62).1, (suf_yes m 62).2] at hcs
      have hpa := fun W g => parse_any m W g (by simp at hs ⊢; omega)
      obtain ⟨⟨n, l, d⟩, E, hE⟩ : ∃ a E, parseP m = (a, E) := ⟨_, _, rfl⟩
      rw [hE] at hpa ⊢
      dsimp only [adV] at hpa ⊢
      clear hE hP hpre htrim h1 hm hs
      go_enter Tryz.func42, Tryz.ntmps42
      go_wp2_with (first
        | (go_at_call 38; refine (hcp _).mono ?_; rintro e w1 ⟨rfl, rfl⟩)
        | (go_at_call 59; refine (hcs _).mono ?_; rintro e w1 ⟨rfl, rfl⟩)
        | (go_at_call 60; refine (hpa _ (hG.below B0.out)).mono ?_; rintro e w3 ⟨rfl, c3⟩; have i1 := I0.out.below c3; have B3 := hid (below_then B0.out c3); have y0 := i1.c0; have y1 := i1.c1; have y2 := i1.c2; have z0 := i1.free 0; have z1 := i1.free 1; have z2 := i1.free 2; clear c3 i1))
      exact bodyPost_ret (v := .tuple #[.agg #[.string (str n), .string (str l), .string (str d)], .int .i64 E]) (by first | (simp [results, Tryz.results42, go_sem, y0, y1, y2]; done) | (simp [results, Tryz.results42, go_sem, y0, y1, y2]; rfl)) rfl ⟨rfl, ((B3.out.setCell (by simp) _).setCell (by simp) _).setCell (by simp) _⟩
    · have hP : pathP s = (([], [], []), 90) := by
        unfold pathP
        split
        · rename_i t
          rw [if_neg (fun h => h1 (by rw [h])), if_neg]
          intro h
          obtain ⟨m, rfl⟩ := List.getLast?_eq_some_iff.1 h
          exact h2 ⟨m, rfl⟩
        · rfl
      rw [hP]
      have hcs := fun W => cuts_any (Lib.trimPrefix s [60]) [62] W (by unfold Lib.trimPrefix; split <;> first | omega | (rw [List.length_drop]; omega))
      have hor : Lib.hasPrefix s [60] = false ∨ Lib.hasPrefix s [60] = true ∧ Lib.hasSuffix (Lib.trimPrefix s [60]) [62] = false := by
        cases hq : Lib.hasPrefix s [60] with
        | false => exact .inl rfl
        | true =>
          right
          refine ⟨rfl, ?_⟩
          have hs2 : ∃ t, s = 60 :: t := by
            unfold Lib.hasPrefix at hq
            rw [List.isPrefixOf_iff_prefix] at hq
            obtain ⟨t, rfl⟩ := hq
            exact ⟨t, rfl⟩
          obtain ⟨t, rfl⟩ := hs2
          have htrim : Lib.trimPrefix (60 :: t) [60] = t := by unfold Lib.trimPrefix; rw [if_pos hq]; rfl
          rw [htrim]
          apply suf_no
          intro h
          obtain ⟨m, rfl⟩ := List.getLast?_eq_some_iff.1 h
          exact h2 ⟨m, rfl⟩
      obtain ⟨T, hT⟩ : ∃ T, T = Lib.trimPrefix s [60] := ⟨_, rfl⟩
      obtain ⟨b1, hb1⟩ : ∃ b1, b1 = Lib.hasPrefix s [60] := ⟨_, rfl⟩
      rw [← hT] at hcp hcs hor
      rw [← hb1] at hcp hor
      obtain ⟨T2, hT2⟩ : ∃ T2, T2 = Lib.trimSuffix T [62] := ⟨_, rfl⟩
      obtain ⟨b2, hb2⟩ : ∃ b2, b2 = Lib.hasSuffix T [62] := ⟨_, rfl⟩
      rw [← hT2, ← hb2] at hcs
      rw [← hb2] at hor
      clear hT hb1 hT2 hb2 hP h1 h2
      have y0 := I0.out.c0
      have y1 := I0.out.c1
      have y2 := I0.out.c2
      rcases hor with rfl | ⟨rfl, rfl⟩
      all_goals
        go_enter Tryz.func42, Tryz.ntmps42
        go_wp2_with (first
          | (go_at_call 38; refine (hcp _).mono ?_; rintro e w1 ⟨rfl, rfl⟩)
          | (go_at_call 59; refine (hcs _).mono ?_; rintro e w1 ⟨rfl, rfl⟩))
        exact bodyPost_ret (v := .tuple #[adV ([], [], []), .int .i64 90]) (by first | (simp [results, Tryz.results42, go_sem, adV]; done) | (simp [results, Tryz.results42, go_sem, adV]; rfl)) rfl ⟨rfl, B0.out⟩

end Go.Proofs.YtdbggicpcbecdaaGreatDoor
