/-
  A number of so many digits, the months' and the weekdays' names: the program's and the reference's.
-/
import Derived.Test.YtcfkmckdjappbaaDoorOf
import Derived.Test.YtcfkmckdjappbaaDoorDigits
namespace Go.Proofs.YtcfkmckdjappbaaDoor
open Go.RowKit Own
set_option linter.unusedVariables false
set_option linter.unusedSimpArgs false

theorem info_u8 : (Tryd.prog.info? 5).map (fun i => (i.zero, i.size, i.bytes)) = some (some (.int .u8 0), 1, 1) := by kernel_rfl

/-- What the row holds when i digits are written. -/
def wideCells (many i n : Nat) : Array Value := (List.replicate (many - i) (Value.int .u8 0) ++ bv (Text.lastL i n)).toArray
theorem wideCells_size (many i n : Nat) (h : i ≤ many) : (wideCells many i n).size = many := by simp [wideCells, bv_len, Text.lastL_len]; omega
theorem wideCells_set (many i n : Nat) (h : i < many) : (wideCells many i n).setIfInBounds (many - 1 - i) (.int .u8 (Text.dg (n / 10 ^ i)).toNat) = wideCells many (i + 1) n := by
  unfold wideCells
  rw [List.setIfInBounds_toArray]
  congr 1
  have e : many - i = (many - (i + 1)) + 1 := by omega
  have e2 : many - 1 - i = many - (i + 1) := by omega
  rw [e, List.replicate_succ', e2, List.append_assoc, List.set_append_right _ _ (by simp)]
  simp [Text.lastL, bv]

theorem made_u8 (n : Nat) : (madeCells (Value.int .u8 0).cells (n * 1)).toList = List.replicate n (Value.int .u8 0) := by
  rw [List.eq_replicate_iff]
  refine ⟨by simp [madeCells], fun b hb => ?_⟩
  simp [madeCells, Value.cells, Nat.mod_one] at hb
  exact hb.2.symm

theorem wide_any (n many : Nat) (w : World) (hn : n ≤ 9223372036854775807) (hm : many ≤ 64) :
    Calls Tryd.prog 23 #[.int .i64 n, .int .i64 many] w fun e w' => e = .returned (.string (str (Text.lastL many n))) ∧ Below w.heap.size w w' := by
  obtain ⟨i0, hi, hz0, hz1, hz2⟩ := info_parts info_u8
  go_enter Tryd.func23, Tryd.ntmps23
  go_wp2_with (at_make; refine wpList_make_full _ rfl (.tmp 7) (.tmp 7) 32 rfl 0 5 i0 (.int .u8 0) 1 Tryd.underlying32 hi hz0 hz1 .i64 .i64 (many : Int) (many : Int) many rfl rfl rfl rfl (by rw [hz2]; omega) (by unfold maxLen; omega) (Nat.zero_le _) ?_; intro w1 hown hgr)
  have hb1 : w1.heap[w.heap.size]? = some (.cells (wideCells many 0 n) 5 (0, 0)) := by
    rcases hown.2 with ⟨h, _⟩ | ⟨g, cap, cur, he, hb, hg, hnc, hcm, hcs, htake⟩
    · simp at h
    · simp at he
      obtain ⟨rfl, rfl⟩ := he
      rw [hg]
      have hcur : cur = wideCells many 0 n := by
        apply Array.ext'
        have h1 : cur.toList.take (many * 1) = cur.toList := List.take_of_length_le (by simp; omega)
        rw [h1] at htake
        rw [htake]
        rw [made_u8]
        simp [wideCells, bv, Text.lastL]
      rw [hcur]
  have L1 : Below w.heap.size w w1 := (Below.refl _ _).grown hgr (Nat.le_refl _) (fun k hk => by simp at hk)
  have HB1 := hid hb1
  have HL1 := hid L1
  clear hb1 L1 hown hgr hi hz0 hz1 hz2
  go_wp2_with fail
  go_loopw [0, 11] (fun v0 v11 wr => ∃ i : Nat, i ≤ many ∧ v0 = .int .i64 ((n / 10 ^ i : Nat) : Int) ∧ v11 = .int .i64 i ∧ wr.heap[w.heap.size]? = some (.cells (wideCells many i n) 5 (0, 0)) ∧ Below w.heap.size w wr) (fun _ v11 _ => many - (intOf v11).toNat)
  case atStart => exact ⟨0, Nat.zero_le _, by simp, rfl, HB1.out, HL1.out⟩
  case round =>
    obtain ⟨i, him, rfl, rfl, hB, hbel⟩ := hrel
    have hsz := wideCells_size many i n him
    obtain ⟨m, hm⟩ : ∃ m, m = n / 10 ^ i := ⟨_, rfl⟩
    have hmn : m ≤ n := by rw [hm]; exact Nat.div_le_self _ _
    rw [← hm]
    have HM := hid hm
    have HB := hid hB
    have HBE := hid hbel
    have HSZ := hid hsz
    clear hm hB hbel hsz
    by_cases hil : i < many
    · have e1 : decide ((i : Int) < many) = true := decide_eq_true (by omega)
      have hc : ∃ v, wr.cell? ⟨w.heap.size, many - 1 - i, none⟩ = some v := by
        rw [cells_at HB.out]
        exact ⟨_, Array.getElem?_eq_getElem (by rw [HSZ.out]; omega)⟩
      obtain ⟨v0, hc0⟩ := hc
      have hf := free_at HB.out (many - 1 - i)
      go_wp2
      go_roundw
      case rel =>
        have hB2 := (block_set HB.out (many - 1 - i) (.int .u8 (Text.dg (n / 10 ^ i)).toNat))
        rw [wideCells_set many i n hil] at hB2
        refine ⟨i + 1, by omega, by rw [Nat.pow_succ, ← Nat.div_div_eq_div_mul, ← HM.out]; go_num, by go_num, ?_, HBE.out.setCell (by simp) _⟩
        rw [← HM.out, Text.dg_nat] at hB2
        exact hB2
      case measure => simp [intOf]; omega
    · have e1 : decide ((i : Int) < many) = false := decide_eq_false (by omega)
      have hi2 : i = many := by omega
      have hsrc : Src wr (some ⟨w.heap.size, 0, none⟩) (bv (Text.lastL many n)) := by
        refine ⟨fun h => by simp at h, fun p hp j u hu => ?_⟩
        simp at hp
        subst hp
        rw [Addr.add_lit, cells_at HB.out, Nat.zero_add]
        subst hi2
        simpa [wideCells] using hu
      have cv := conv_src hsrc many many (by rw [Text.lastL_len])
      clear hi2 hsrc
      go_wp2
      go_ret
      exact ⟨rfl, HBE.out⟩

end Go.Proofs.YtcfkmckdjappbaaDoor
