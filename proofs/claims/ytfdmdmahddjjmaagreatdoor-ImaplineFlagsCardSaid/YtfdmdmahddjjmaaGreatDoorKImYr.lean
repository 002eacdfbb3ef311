/-
  The reference's list of flags; what STORE reads of a list that was written.
-/
import Derived.Test.YtfdmdmahddjjmaaGreatDoorKImY
namespace Go.Proofs.YtfdmdmahddjjmaaGreatDoor
open Go.RowKit Own Im
set_option linter.unusedVariables false
set_option linter.unusedSimpArgs false
set_option maxRecDepth 100000

theorem flagT_bs (n : Int) (i : Nat) : ∀ x ∈ flagT n i, ∃ y, x = 92 :: y := by
  intro x hx
  unfold flagT at hx
  obtain ⟨p, _, rfl⟩ := List.mem_map.1 hx
  exact ⟨_, rfl⟩
theorem join_snoc (l : List Bt) (x : Bt) (h : l ≠ []) : Lib.join (l ++ [x]) [32] = Lib.join l [32] ++ [32] ++ x := by
  cases l with
  | nil => exact absurd rfl h
  | cons a r =>
    rw [List.cons_append, Lib.join_cons, Lib.join_cons]
    have ht : ∀ r : List Bt, Lib.joinTail [32] (r ++ [x]) = Lib.joinTail [32] r ++ ([32] ++ x) := by
      intro r
      simp [Lib.joinTail]
    rw [ht]
    simp
theorem join_ne (n : Int) (i : Nat) (h : flagT n i ≠ []) : Lib.join (flagT n i) [32] ≠ [] := by
  cases hl : flagT n i with
  | nil => exact absurd hl h
  | cons a r =>
    obtain ⟨y, rfl⟩ := flagT_bs n i a (by rw [hl]; simp)
    rw [Lib.join_cons]
    simp

attribute [local go_sem] str_toList str_size ByteArray.size_append

set_option maxHeartbeats 4000000 in
theorem rflags_any (n : Int) (w : World) : Calls Tryz.prog 21 #[.int .i64 n] w fun e w' => e = .returned (.string (str (flagsS n))) ∧ Below w.heap.size w w' := by
  have hand := fun m => i64_and1 m
  have hcells : ∀ (j : Nat) (x : Bt), flagNames[j]? = some x → (w.alloc (.cells #[.string { data := #[83, 101, 101, 110] }, .string { data := #[65, 110, 115, 119, 101, 114, 101, 100] }, .string { data := #[70, 108, 97, 103, 103, 101, 100] }, .string { data := #[68, 101, 108, 101, 116, 101, 100] }, .string { data := #[68, 114, 97, 102, 116] }] 9)).cell? ⟨w.heap.size, j, none⟩ = some (.string (str x)) := by
    intro j x hx
    have hj : j < 5 := by
      rcases Nat.lt_or_ge j 5 with h | h
      · exact h
      · rw [List.getElem?_eq_none (by simpa [flagNames] using h)] at hx; cases hx
    rw [cells_at (heap_alloc_new w _)]
    have : j = 0 ∨ j = 1 ∨ j = 2 ∨ j = 3 ∨ j = 4 := by omega
    rcases this with rfl | rfl | rfl | rfl | rfl <;> (cases hx; rfl)
  have HC := hid hcells
  clear hcells
  go_enter Tryz.func21, Tryz.ntmps21
  go_wp2_with fail
  go_loopw [4, 5] (fun v4 v5 wr => ∃ i : Nat, i ≤ 5 ∧ v5 = .int .i64 i ∧ v4 = .string (str (Lib.join (flagT n i) [32])) ∧ wr = w.alloc (.cells #[.string { data := #[83, 101, 101, 110] }, .string { data := #[65, 110, 115, 119, 101, 114, 101, 100] }, .string { data := #[70, 108, 97, 103, 103, 101, 100] }, .string { data := #[68, 101, 108, 101, 116, 101, 100] }, .string { data := #[68, 114, 97, 102, 116] }] 9)) (fun _ v5 _ => 5 - (intOf v5).toNat)
  case atStart => exact ⟨0, by omega, rfl, rfl, rfl⟩
  case round =>
    obtain ⟨i, hi, rfl, rfl, rfl⟩ := hrel
    by_cases hil : i < 5
    · obtain ⟨y, hy⟩ : ∃ y, flagNames[i]? = some y := ⟨_, List.getElem?_eq_getElem (by simpa [flagNames] using hil)⟩
      have hcell := HC.out i y hy
      have hyl : y.length ≤ 20 := by
        have : ∀ z ∈ flagNames, z.length ≤ 20 := by decide
        exact this y (List.mem_of_getElem? hy)
      have hnx := flagT_next n i y hy
      have HN := hid hnx
      obtain ⟨hl1, hl2⟩ := flagT_len n i hi
      have hjl := Ad.join_len [32] 20 (flagT n i) hl2
      have hne := join_ne n i
      have HNE := hid hne
      have HS := hid (join_snoc (flagT n i) (92 :: y))
      obtain ⟨J, hJ⟩ : ∃ J, J = Lib.join (flagT n i) [32] := ⟨_, rfl⟩
      have hJl : J.length ≤ 105 := by
        have : (flagT n i).length * (20 + [(32 : UInt8)].length) ≤ 5 * 21 := Nat.mul_le_mul hl1 (by decide)
        rw [hJ]
        omega
      rw [← hJ] at HNE HS ⊢
      have hsh : n.fdiv (2 ^ i) = n / 2 ^ i := Int.fdiv_eq_ediv_of_nonneg n (Int.pow_nonneg (by decide))
      have hmin : min i 64 = i := by omega
      have hi0 : ¬ (i : Int) < 0 := by omega
      have HJ := hid hJ
      clear hnx hy hne hjl hl1 hl2 hJ
      by_cases hb : n / 2 ^ i % 2 = 1
      · have hb2 : (n / 2 ^ i % 2 == 1) = true := by simpa using hb
        by_cases hE : flagT n i = []
        · have hJ0 : J = [] := by rw [HJ.out, hE]; rfl
          subst hJ0
          go_wp2_with fail
          go_roundw
          case rel =>
            refine ⟨i + 1, by omega, by go_num, ?_, by first | trivial | rfl⟩
            rw [HN.out, if_pos hb, hE]
            show Value.string (str [] ++ str [92] ++ str y) = _
            rw [str_append, str_append]
            simp [Lib.join_cons, Lib.joinTail]
          case measure => simp [intOf]; omega
        · have hn := HNE.out hE
          have e1 : (J == []) = false := by rw [beq_eq_false_iff_ne]; exact hn
          have e2 : J.isEmpty = false := by rw [Bool.eq_false_iff, Ne, List.isEmpty_iff]; exact hn
          go_wp2_with fail
          go_roundw
          case rel =>
            refine ⟨i + 1, by omega, by go_num, ?_, by first | trivial | rfl⟩
            rw [HN.out, if_pos hb, HS.out hE]
            show Value.string (str J ++ str [32] ++ str [92] ++ str y) = _
            rw [str_append, str_append, str_append]
            simp
          case measure => simp [intOf]; omega
      · have hb2 : (n / 2 ^ i % 2 == 1) = false := by simpa using hb
        go_wp2_with fail
        go_roundw
        case rel => exact ⟨i + 1, by omega, by go_num, by rw [HN.out, if_neg hb, HJ.out], by first | trivial | rfl⟩
        case measure => simp [intOf]; omega
    · obtain rfl : i = 5 := by omega
      obtain ⟨hl1, hl2⟩ := flagT_len n 5 (by decide)
      have hjl := Ad.join_len [32] 20 (flagT n 5) hl2
      obtain ⟨J, hJ⟩ : ∃ J, J = Lib.join (flagT n 5) [32] := ⟨_, rfl⟩
      have hJl : J.length ≤ 105 := by
        have : (flagT n 5).length * (20 + [(32 : UInt8)].length) ≤ 5 * 21 := Nat.mul_le_mul hl1 (by decide)
        rw [hJ]
        omega
      rw [← hJ]
      have HJ := hid hJ
      clear hjl hJ
      go_wp2_with fail
      go_ret
      refine ⟨?_, (Below.refl _ _).alloc (Nat.le_refl _) _⟩
      rw [flagT_all, ← HJ.out, ← str_append, ← str_append]
      rfl
theorem store_reads : ∀ n : Fin 32, parseS ([116, 32, 83, 84, 79, 82, 69, 32, 49, 32, 70, 76, 65, 71, 83, 32] ++ flagsS (n.val : Int)) = ({ tag := [116], word := [83, 84, 79, 82, 69], set := [(1, 1)], flags := n.val }, 0) := by decide +kernel
end Go.Proofs.YtfdmdmahddjjmaaGreatDoor
