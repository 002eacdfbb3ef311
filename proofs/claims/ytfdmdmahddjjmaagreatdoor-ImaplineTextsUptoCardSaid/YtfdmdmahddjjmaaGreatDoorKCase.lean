/-
  Great and small letters: the program's and the reference's.
-/
import Derived.Test.YtfdmdmahddjjmaaGreatDoorPkOwn
namespace Go.Proofs.YtfdmdmahddjjmaaGreatDoor
open Go.RowKit Own
set_option linter.unusedVariables false
set_option linter.unusedSimpArgs false
set_option maxRecDepth 100000

theorem great_any (l : List UInt8) (w : World) (hl : l.length ≤ 9223372036854775806) :
    Calls Tryz.prog 45 #[.string (str l)] w fun e w' => e = .returned (.string (str (l.map (moveB 97 65)))) ∧ Below w.heap.size w w' := by
  have ht := turned_any l 97 65 (by omega) (by omega) w hl
  go_enter Tryz.func45, Tryz.ntmps45
  go_wp2_with ((go_at_call 88; refine ht.mono ?_; rintro e w1 ⟨rfl, hb⟩))
  go_ret
  exact ⟨rfl, hb⟩

theorem rgreat_any (l : List UInt8) (w : World) (hl : l.length ≤ 9223372036854775806) :
    Calls Tryz.prog 12 #[.string (str l)] w fun e w' => e = .returned (.string (str (l.map (moveB 97 65)))) ∧ Below w.heap.size w w' := by
  have hsz := str_size l
  have cv := Lib.run_convert_string_bytes (P := Tryz.prog) w 9 28 5 (str l) Tryz.underlying9 Tryz.underlying28 Tryz.underlying5
  go_enter Tryz.func12, Tryz.ntmps12
  go_wp2_with fail
  have hb1 := Lib.bytesWorld_at_new w 5 (str l)
  have hcs : Lib.bytesCells w 5 (str l) = mapCells (moveB 97 65) 0 l (List.replicate (grownCap w (str l).size 0 5 - (str l).size) (.int .u8 0)) := by
    apply Array.ext'
    simp [Lib.bytesCells, mapCells, mapMix_zero, bv, str]
  have hf : ∃ f, (Lib.bytesCells w 5 (str l)).size = f ∧ l.length ≤ f := ⟨_, rfl, by rw [hcs]; simp [mapCells, bv_len, mapMix_len]⟩
  obtain ⟨f, hf, hlf⟩ := hf
  rw [hf] at hb1
  have L1 : Below w.heap.size w (Lib.bytesWorld w 5 (str l)) := ⟨rfl, rfl, rfl, by rw [Lib.bytesWorld_size]; omega, fun k hk => Lib.bytesWorld_at_old _ _ _ k hk⟩
  generalize List.replicate (grownCap w (str l).size 0 5 - (str l).size) (Value.int .u8 0) = rest at hcs
  rw [hcs] at hb1
  have HB1 := hid hb1
  have HL1 := hid L1
  clear hb1 L1 hf hcs cv
  go_loopw [4] (fun v10 wr => ∃ i : Nat, i ≤ l.length ∧ v10 = .int .i64 i ∧ wr.heap[w.heap.size]? = some (.cells (mapCells (moveB 97 65) i l rest) 5 (f, f + 1)) ∧ Below w.heap.size w wr) (fun v10 _ => l.length - (intOf v10).toNat)
  case atStart => exact ⟨0, Nat.zero_le _, rfl, HB1.out, HL1.out⟩
  case round =>
    obtain ⟨i, him, rfl, hB, hbel⟩ := hrel
    have HB := hid hB
    have HBE := hid hbel
    clear hB hbel
    by_cases hil : i < l.length
    · have e1 : decide ((i : Int) < l.length) = true := decide_eq_true (by omega)
      obtain ⟨c, hc⟩ : ∃ c, c = l[i] := ⟨_, rfl⟩
      have hcell : wr.cell? ⟨w.heap.size, i, none⟩ = some (.int .u8 c.toNat) := by
        rw [cells_at HB.out, mapCells_at _ i l rest hil, hc]
      have hf := free_below HB.out i (by omega)
      have hset := mapCells_set (moveB 97 65) i l rest hil
      have hkeep := mapCells_keep (moveB 97 65) i l rest hil
      rw [← hc] at hset hkeep
      have HS := hid hset
      have HK := hid hkeep
      have hlt := c.toNat_lt
      clear hset hkeep hc
      by_cases h1 : 97 ≤ c.toNat
      · have e2 : decide (97 ≤ (c.toNat : Int)) = true := decide_eq_true (by omega)
        by_cases h2 : c.toNat ≤ 122
        · have e3 : decide ((c.toNat : Int) ≤ 122) = true := decide_eq_true (by omega)
          have hm : ((moveB 97 65 c).toNat : Int) = (c.toNat : Int) - 32 := by
            unfold moveB
            rw [if_pos ⟨h1, by omega⟩]
            simp
            omega
          have HM := hid hm
          clear hm
          go_wp2
          go_roundw
          case rel =>
            have hB2 := block_set HB.out i (.int .u8 (moveB 97 65 c).toNat)
            rw [HS.out, HM.out] at hB2
            exact ⟨i + 1, by omega, by go_num, hB2, HBE.out.setCell (by simp) _⟩
          case measure => simp [intOf]; omega
        · have e3 : decide ((c.toNat : Int) ≤ 122) = false := decide_eq_false (by omega)
          have hk : moveB 97 65 c = c := by unfold moveB; rw [if_neg (fun h => h2 (by omega))]
          have hB1 := HB.out
          rw [HK.out hk] at hB1
          have HB1' := hid hB1
          clear hB1 hk
          go_wp2
          go_roundw
          case rel => exact ⟨i + 1, by omega, by go_num, HB1'.out, HBE.out⟩
          case measure => simp [intOf]; omega
      · have e2 : decide (97 ≤ (c.toNat : Int)) = false := decide_eq_false (by omega)
        have hk : moveB 97 65 c = c := by unfold moveB; rw [if_neg (fun h => h1 h.1)]
        have hB1 := HB.out
        rw [HK.out hk] at hB1
        have HB1' := hid hB1
        clear hB1 hk
        go_wp2
        go_roundw
        case rel => exact ⟨i + 1, by omega, by go_num, HB1'.out, HBE.out⟩
        case measure => simp [intOf]; omega
    · have e1 : decide ((i : Int) < l.length) = false := decide_eq_false (by omega)
      have hi2 : i = l.length := by omega
      have hsrc : Src wr (some ⟨w.heap.size, 0, none⟩) (bv (l.map (moveB 97 65))) := by
        refine ⟨fun h => by simp at h, fun p hp j u hu => ?_⟩
        simp at hp
        subst hp
        have hj : j < (bv (l.map (moveB 97 65))).length := (List.getElem?_eq_some_iff.1 hu).1
        rw [Addr.add_lit, cells_at HB.out, Nat.zero_add]
        subst hi2
        simp only [mapCells, List.getElem?_toArray, mapMix_all]
        rw [List.getElem?_append_left hj]
        exact hu
      have cv := conv_src hsrc l.length (grownCap w l.length 0 5) (by simp)
      clear hi2 hsrc
      go_wp2
      go_ret
      exact ⟨rfl, HBE.out⟩

theorem rsmall_any (l : List UInt8) (w : World) (hl : l.length ≤ 9223372036854775806) :
    Calls Tryz.prog 11 #[.string (str l)] w fun e w' => e = .returned (.string (str (l.map (moveB 65 97)))) ∧ Below w.heap.size w w' := by
  have hsz := str_size l
  have cv := Lib.run_convert_string_bytes (P := Tryz.prog) w 9 28 5 (str l) Tryz.underlying9 Tryz.underlying28 Tryz.underlying5
  go_enter Tryz.func11, Tryz.ntmps11
  go_wp2_with fail
  have hb1 := Lib.bytesWorld_at_new w 5 (str l)
  have hcs : Lib.bytesCells w 5 (str l) = mapCells (moveB 65 97) 0 l (List.replicate (grownCap w (str l).size 0 5 - (str l).size) (.int .u8 0)) := by
    apply Array.ext'
    simp [Lib.bytesCells, mapCells, mapMix_zero, bv, str]
  have hf : ∃ f, (Lib.bytesCells w 5 (str l)).size = f ∧ l.length ≤ f := ⟨_, rfl, by rw [hcs]; simp [mapCells, bv_len, mapMix_len]⟩
  obtain ⟨f, hf, hlf⟩ := hf
  rw [hf] at hb1
  have L1 : Below w.heap.size w (Lib.bytesWorld w 5 (str l)) := ⟨rfl, rfl, rfl, by rw [Lib.bytesWorld_size]; omega, fun k hk => Lib.bytesWorld_at_old _ _ _ k hk⟩
  generalize List.replicate (grownCap w (str l).size 0 5 - (str l).size) (Value.int .u8 0) = rest at hcs
  rw [hcs] at hb1
  have HB1 := hid hb1
  have HL1 := hid L1
  clear hb1 L1 hf hcs cv
  go_loopw [4] (fun v10 wr => ∃ i : Nat, i ≤ l.length ∧ v10 = .int .i64 i ∧ wr.heap[w.heap.size]? = some (.cells (mapCells (moveB 65 97) i l rest) 5 (f, f + 1)) ∧ Below w.heap.size w wr) (fun v10 _ => l.length - (intOf v10).toNat)
  case atStart => exact ⟨0, Nat.zero_le _, rfl, HB1.out, HL1.out⟩
  case round =>
    obtain ⟨i, him, rfl, hB, hbel⟩ := hrel
    have HB := hid hB
    have HBE := hid hbel
    clear hB hbel
    by_cases hil : i < l.length
    · have e1 : decide ((i : Int) < l.length) = true := decide_eq_true (by omega)
      obtain ⟨c, hc⟩ : ∃ c, c = l[i] := ⟨_, rfl⟩
      have hcell : wr.cell? ⟨w.heap.size, i, none⟩ = some (.int .u8 c.toNat) := by
        rw [cells_at HB.out, mapCells_at _ i l rest hil, hc]
      have hf := free_below HB.out i (by omega)
      have hset := mapCells_set (moveB 65 97) i l rest hil
      have hkeep := mapCells_keep (moveB 65 97) i l rest hil
      rw [← hc] at hset hkeep
      have HS := hid hset
      have HK := hid hkeep
      have hlt := c.toNat_lt
      clear hset hkeep hc
      by_cases h1 : 65 ≤ c.toNat
      · have e2 : decide (65 ≤ (c.toNat : Int)) = true := decide_eq_true (by omega)
        by_cases h2 : c.toNat ≤ 90
        · have e3 : decide ((c.toNat : Int) ≤ 90) = true := decide_eq_true (by omega)
          have hm : ((moveB 65 97 c).toNat : Int) = (c.toNat : Int) + 32 := by
            unfold moveB
            rw [if_pos ⟨h1, by omega⟩]
            simp
            omega
          have HM := hid hm
          clear hm
          go_wp2
          go_roundw
          case rel =>
            have hB2 := block_set HB.out i (.int .u8 (moveB 65 97 c).toNat)
            rw [HS.out, HM.out] at hB2
            exact ⟨i + 1, by omega, by go_num, hB2, HBE.out.setCell (by simp) _⟩
          case measure => simp [intOf]; omega
        · have e3 : decide ((c.toNat : Int) ≤ 90) = false := decide_eq_false (by omega)
          have hk : moveB 65 97 c = c := by unfold moveB; rw [if_neg (fun h => h2 (by omega))]
          have hB1 := HB.out
          rw [HK.out hk] at hB1
          have HB1' := hid hB1
          clear hB1 hk
          go_wp2
          go_roundw
          case rel => exact ⟨i + 1, by omega, by go_num, HB1'.out, HBE.out⟩
          case measure => simp [intOf]; omega
      · have e2 : decide (65 ≤ (c.toNat : Int)) = false := decide_eq_false (by omega)
        have hk : moveB 65 97 c = c := by unfold moveB; rw [if_neg (fun h => h1 h.1)]
        have hB1 := HB.out
        rw [HK.out hk] at hB1
        have HB1' := hid hB1
        clear hB1 hk
        go_wp2
        go_roundw
        case rel => exact ⟨i + 1, by omega, by go_num, HB1'.out, HBE.out⟩
        case measure => simp [intOf]; omega
    · have e1 : decide ((i : Int) < l.length) = false := decide_eq_false (by omega)
      have hi2 : i = l.length := by omega
      have hsrc : Src wr (some ⟨w.heap.size, 0, none⟩) (bv (l.map (moveB 65 97))) := by
        refine ⟨fun h => by simp at h, fun p hp j u hu => ?_⟩
        simp at hp
        subst hp
        have hj : j < (bv (l.map (moveB 65 97))).length := (List.getElem?_eq_some_iff.1 hu).1
        rw [Addr.add_lit, cells_at HB.out, Nat.zero_add]
        subst hi2
        simp only [mapCells, List.getElem?_toArray, mapMix_all]
        rw [List.getElem?_append_left hj]
        exact hu
      have cv := conv_src hsrc l.length (grownCap w l.length 0 5) (by simp)
      clear hi2 hsrc
      go_wp2
      go_ret
      exact ⟨rfl, HBE.out⟩

end Go.Proofs.YtfdmdmahddjjmaaGreatDoor
