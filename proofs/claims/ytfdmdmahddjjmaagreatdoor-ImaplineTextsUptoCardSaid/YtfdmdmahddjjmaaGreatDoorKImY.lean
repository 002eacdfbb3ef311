/-
  A list of flags, written.
-/
import Derived.Test.YtfdmdmahddjjmaaGreatDoorKImG
import Derived.Test.YtfdmdmahddjjmaaGreatDoorPkAd
import Derived.Test.YtfdmdmahddjjmaaGreatDoorKImV
namespace Go.Proofs.YtfdmdmahddjjmaaGreatDoor
open Go.RowKit Own Im
set_option linter.unusedVariables false
set_option linter.unusedSimpArgs false
set_option maxRecDepth 100000
attribute [local go_sem] str_toList str_size

theorem i64_and1 (n : Int) : bits .and .i64 n 1 = n % 2 := by
  have h1 : (BitVec.ofInt 64 1).toNat = 2 ^ 1 - 1 := by decide
  have key : (BitVec.ofInt 64 n &&& BitVec.ofInt 64 1).toNat = (n % ((2 ^ 64 : Nat) : Int)).toNat % 2 ^ 1 := by
    rw [BitVec.toNat_and, BitVec.toNat_ofInt, h1, Nat.and_two_pow_sub_one_eq_mod]
  show IntKind.i64.wrap ((BitVec.ofInt 64 n &&& BitVec.ofInt 64 1).toNat : Nat) = n % 2
  rw [key, IntKind.wrap_i64]
  omega
/-- The texts of the first flags that n has. -/
def flagT (n : Int) (i : Nat) : List Bt := ((flagNames.zipIdx.take i).filter fun p => decide (n / 2 ^ p.2 % 2 = 1)).map fun p => 92 :: p.1
theorem flagT_zero (n : Int) : flagT n 0 = [] := rfl
theorem flagT_next (n : Int) (i : Nat) (y : Bt) (h : flagNames[i]? = some y) : flagT n (i + 1) = if n / 2 ^ i % 2 = 1 then flagT n i ++ [92 :: y] else flagT n i := by
  have hz : flagNames.zipIdx[i]? = some (y, i) := by rw [List.getElem?_zipIdx, h]; simp
  unfold flagT
  rw [List.take_add_one, hz]
  simp only [Option.toList_some, List.filter_append, List.map_append]
  by_cases hb : n / 2 ^ i % 2 = 1
  · rw [if_pos hb]; simp [hb]
  · rw [if_neg hb]; simp [hb]
theorem flagT_all (n : Int) : flagsS n = [40] ++ Lib.join (flagT n 5) [32] ++ [41] := rfl
theorem flagT_len (n : Int) (i : Nat) (hi : i ≤ 5) : (flagT n i).length ≤ 5 ∧ ∀ x ∈ flagT n i, x.length ≤ 20 := by
  constructor
  · unfold flagT
    rw [List.length_map]
    refine Nat.le_trans (List.length_filter_le _ _) ?_
    rw [List.length_take]
    omega
  · intro x hx
    unfold flagT at hx
    obtain ⟨p, hp, rfl⟩ := List.mem_map.1 hx
    have hm := List.mem_of_mem_take (List.mem_filter.1 hp).1
    have : ∀ p ∈ flagNames.zipIdx, (92 :: p.1).length ≤ 20 := by decide
    exact this p hm

theorem join_none (A : Option Addr) (c : Nat) (sep : ByteArray) (w : World) : Calls Tryz.prog 42 #[.slice A 0 c, .string sep] w fun e w' => e = .returned (.string (str [])) ∧ w = w' := by
  go_enter Tryz.func42, Tryz.ntmps42
  go_wp2
  go_ret
  exact ⟨rfl, rfl⟩
theorem join_any (A : Option Addr) (n c : Nat) (xs : List (List UInt8)) (w : World) (hn : n = xs.length) (hc : n ≤ c) (hA : A = none → xs = []) (hs : ∀ p, A = some p → ∃ g, p = ⟨g, 0, none⟩ ∧ ∀ j x, xs[j]? = some x → w.cell? ⟨g, j, none⟩ = some (.string (str x))) (hl : xs.length ≤ 1000000) (hlen : (Lib.join xs [32]).length ≤ 140737488355328) :
    Calls Tryz.prog 42 #[.slice A n c, .string (str [32])] w fun e w' => e = .returned (.string (str (Lib.join xs [32]))) ∧ Below w.heap.size w w' := by
  subst hn
  cases A with
  | none =>
    have hx := hA rfl
    subst hx
    refine (join_none none c (str [32]) w).mono ?_
    rintro e w' ⟨rfl, rfl⟩
    exact ⟨rfl, Below.refl _ _⟩
  | some p =>
    obtain ⟨g, rfl, hcell⟩ := hs p rfl
    by_cases hx : xs = []
    · subst hx
      refine (join_none _ c (str [32]) w).mono ?_
      rintro e w' ⟨rfl, rfl⟩
      exact ⟨rfl, Below.refl _ _⟩
    · have hg : g < w.heap.size := by
        cases xs with
        | nil => exact absurd rfl hx
        | cons x r => exact World.block_lt_of_cell? w ⟨g, 0, none⟩ (hcell 0 x rfl)
      have hm : (xs.map str).map (·.data.toList) = xs := by
        rw [List.map_map]
        conv => rhs; rw [← List.map_id xs]
        apply List.map_congr_left
        intro x _
        simp [str]
      have hj := Tryz.strings_Join g 0 c (xs.map str) (str [32]) w (by
        intro j x hxj
        rw [Nat.zero_add]
        rw [List.getElem?_map] at hxj
        cases hq : xs[j]? with
        | none => rw [hq] at hxj; cases hxj
        | some y =>
          rw [hq] at hxj
          obtain rfl : str y = x := by simpa using hxj
          exact hcell j y hq) hg (by rw [List.length_map]; omega) (by rw [List.length_map]; exact hc) (by rw [hm]; exact hlen)
      rw [hm, List.length_map] at hj
      exact hj


set_option maxHeartbeats 4000000 in
theorem iflags_any (n : Int) (w : World) : Calls Tryz.prog 20 #[.int .i64 n] w fun e w' => e = .returned (.string (str (flagsS n))) ∧ Below w.heap.size w w' := by
  have hand := fun m => i64_and1 m
  go_enter Tryz.func20, Tryz.ntmps20
  go_wp2_with (first
    | (go_at_call 41; refine (flags_any _).mono ?_; rintro e w1 ⟨g, rfl, g1, g2, g3, b3⟩; have B1 := hid b3; have G3 := hid g3; clear b3 g3))
  go_loopw [3, 8] (fun v3 v8 wr => ∃ i : Nat, i ≤ 5 ∧ v8 = .int .i64 i ∧ SBuf w1.heap.size wr v3 (flagT n i) ∧ Below w1.heap.size w1 wr) (fun _ v8 _ => 5 - (intOf v8).toNat)
  case atStart => exact ⟨0, by omega, rfl, SBuf.nil (Nat.le_refl _), Below.refl _ _⟩
  case round =>
    obtain ⟨i, hi, rfl, hbuf, hbel⟩ := hrel
    have HB := hid hbel
    have HBUF := hid hbuf
    by_cases hil : i < 5
    · obtain ⟨y, hy⟩ : ∃ y, flagNames[i]? = some y := ⟨_, List.getElem?_eq_getElem (by simpa [flagNames] using hil)⟩
      have hcell := (hbel.cell g2).trans (G3.out i y hy)
      have hyl : y.length ≤ 20 := by
        have : ∀ z ∈ flagNames, z.length ≤ 20 := by decide
        exact this y (List.mem_of_getElem? hy)
      have hnx := flagT_next n i y hy
      have HN := hid hnx
      have hlen := (flagT_len n i hi).1
      have hsh : n.fdiv (2 ^ i) = n / 2 ^ i := Int.fdiv_eq_ediv_of_nonneg n (Int.pow_nonneg (by decide))
      have hmin : min i 64 = i := by omega
      have hi0 : ¬ (i : Int) < 0 := by omega
      clear hbuf hbel hnx hy
      by_cases hb : n / 2 ^ i % 2 = 1
      · have hb2 : (n / 2 ^ i % 2 == 1) = true := by simpa using hb
        go_wp2_with (refine wpList_sbuf w1.heap.size _ (by rfl) _ _ (by rfl) _ (flagT n i) (92 :: y) (by rfl) (HBUF.out.alloc _) _ 1 (by rfl) (slit _ (92 :: y) _ _ _ (by rfl) (by show [Value.string (str [92] ++ str y)] = _; rw [str_append]; rfl)) (by omega) ?_; intro v7 w7 hb7 hbel7; have m7 := ((Below.refl w1.heap.size wr).alloc HB.out.size _).trans hbel7; have B7 := hid hb7; have M7 := hid m7; clear hb7 hbel7 m7)
        exact ⟨⟨i + 1, by omega, by go_num, by rw [HN.out, if_pos hb]; exact B7.out, HB.out.trans M7.out⟩, by simp [intOf]; omega⟩
      · have hb2 : (n / 2 ^ i % 2 == 1) = false := by simpa using hb
        go_wp2_with fail
        go_roundw
        case rel => exact ⟨i + 1, by omega, by go_num, by rw [HN.out, if_neg hb]; exact HBUF.out, HB.out⟩
        case measure => simp [intOf]; omega
    · obtain rfl : i = 5 := by omega
      obtain ⟨A, cc, rfl, hcc, hA, hs⟩ := hbuf.full
      obtain ⟨hl1, hl2⟩ := flagT_len n 5 (by decide)
      have hjl := Ad.join_len [32] 20 (flagT n 5) hl2
      have hjl2 : (Lib.join (flagT n 5) [32]).length ≤ 105 := by
        have : (flagT n 5).length * (20 + [(32 : UInt8)].length) ≤ 5 * 21 := Nat.mul_le_mul hl1 (by decide)
        omega
      have hs : ∀ p, A = some p → ∃ g, p = ⟨g, 0, none⟩ ∧ ∀ (j : Nat) (x : Bt), (flagT n 5)[j]? = some x → wr.cell? ⟨g, j, none⟩ = some (.string (str x)) := fun p hp => by
        obtain ⟨g, h1, -, h2⟩ := hs p hp
        exact ⟨g, h1, h2⟩
      go_wp2_with (go_at_call 42; refine (join_any A _ cc (flagT n 5) _ rfl hcc hA hs (by omega) (by omega)).mono ?_; rintro e w9 ⟨rfl, b9⟩; have B9 := hid b9; clear b9)
      go_ret
      refine ⟨?_, B1.out.trans ((HB.out.mono B1.out.size).trans (B9.out.mono (Nat.le_trans B1.out.size HB.out.size)))⟩
      rw [flagT_all, ← str_append, ← str_append]
      rfl
end Go.Proofs.YtfdmdmahddjjmaaGreatDoor
