/-
  A text in great and small letters: the program's.
-/
import Derived.Test.YtdbggicpcbecdaaGreatDoorOwn
import Derived.Test.YtdbggicpcbecdaaGreatDoorDigits
import Derived.Test.YtdbggicpcbecdaaGreatDoorHeld
import Derived.WalkKit
import Derived.WalkSpells
import Derived.WalkLawsBesides
import Derived.LoopTactic
import Derived.Lib.ConvBytes
namespace Go.Proofs.YtdbggicpcbecdaaGreatDoor
open Go.RowKit Own
set_option linter.unusedVariables false
set_option linter.unusedSimpArgs false
set_option maxRecDepth 100000

theorem free_below {w : World} {g : Nat} {cs : Array Value} {t : TypeId} {f1 f2 : Nat} (h : w.heap[g]? = some (.cells cs t (f1, f2))) (j : Nat) (hj : j < f1) : w.frozen? ⟨g, j, none⟩ = false := by
  simp [World.frozen?, h]; omega

/-- A byte's map over a text, done up to i. -/
def mapMix (f : UInt8 → UInt8) (i : Nat) (l : List UInt8) : List UInt8 := (l.map f).take i ++ l.drop i
theorem mapMix_len (f : UInt8 → UInt8) (i : Nat) (l : List UInt8) : (mapMix f i l).length = l.length := by simp [mapMix]; omega
theorem mapMix_zero (f : UInt8 → UInt8) (l : List UInt8) : mapMix f 0 l = l := by simp [mapMix]
theorem mapMix_all (f : UInt8 → UInt8) (l : List UInt8) : mapMix f l.length l = l.map f := by
  unfold mapMix
  rw [List.take_of_length_le (by simp), List.drop_length, List.append_nil]
theorem mapMix_at (f : UInt8 → UInt8) (i : Nat) (l : List UInt8) (h : i < l.length) : (mapMix f i l)[i]? = some l[i] := by
  simp [mapMix, List.getElem?_append, h, Nat.le_of_lt h]
theorem mapMix_set (f : UInt8 → UInt8) (i : Nat) (l : List UInt8) (h : i < l.length) : (mapMix f i l).set i (f l[i]) = mapMix f (i + 1) l := by
  apply List.ext_getElem?
  intro k
  by_cases hk : k = i
  · subst hk
    simp [mapMix, mapMix_len, List.getElem?_set, List.getElem?_append, List.getElem?_take, h, Nat.le_of_lt h]
    omega
  · simp only [List.getElem?_set, Ne.symm hk, if_false, mapMix, List.getElem?_append, List.length_take, List.length_map, List.getElem?_drop, List.getElem?_take]
    rcases Nat.lt_or_ge k i with c | c
    · simp [Nat.min_eq_left (Nat.le_of_lt h), c, Nat.min_eq_left (show i + 1 ≤ l.length by omega), show k < i + 1 by omega]
    · have : ¬ k < i + 1 := by omega
      simp [Nat.min_eq_left (Nat.le_of_lt h), Nat.not_lt.mpr c, Nat.min_eq_left (show i + 1 ≤ l.length by omega), this]
      congr 1; omega
def mapCells (f : UInt8 → UInt8) (i : Nat) (l : List UInt8) (rest : List Value) : Array Value := (bv (mapMix f i l) ++ rest).toArray
theorem mapCells_at (f : UInt8 → UInt8) (i : Nat) (l : List UInt8) (rest : List Value) (h : i < l.length) : (mapCells f i l rest)[i]? = some (.int .u8 l[i].toNat) := by
  have h2 := mapMix_len f i l
  have h3 := mapMix_at f i l h
  simp only [mapCells, List.getElem?_toArray]
  rw [List.getElem?_append_left (by rw [bv_len]; omega)]
  simp [bv, h3]
theorem mapCells_set (f : UInt8 → UInt8) (i : Nat) (l : List UInt8) (rest : List Value) (h : i < l.length) : (mapCells f i l rest).setIfInBounds i (.int .u8 (f l[i]).toNat) = mapCells f (i + 1) l rest := by
  have h2 := mapMix_len f i l
  unfold mapCells
  rw [List.setIfInBounds_toArray]
  congr 1
  rw [List.set_append_left _ _ (by rw [bv_len]; omega), ← mapMix_set f i l h]
  simp [bv, List.map_set]
theorem mapCells_keep (f : UInt8 → UInt8) (i : Nat) (l : List UInt8) (rest : List Value) (h : i < l.length) (hk : f l[i] = l[i]) : mapCells f i l rest = mapCells f (i + 1) l rest := by
  have h2 := mapMix_len f i l
  unfold mapCells
  congr 2
  rw [← mapMix_set f i l h, hk]
  congr 1
  symm
  apply List.ext_getElem?
  intro k
  rw [List.getElem?_set]
  split
  · rename_i e; subst e; rw [mapMix_at f i l h]; simp [h2, h]
  · rfl

/-- The bytes of a row of 26 letters, moved. -/
def moveB (a b : Nat) (c : UInt8) : UInt8 := if a ≤ c.toNat ∧ c.toNat < a + 26 then UInt8.ofNat (c.toNat - a + b) else c

theorem turned_any (l : List UInt8) (a b : Nat) (ha : a + 26 ≤ 255) (hb : b + 26 ≤ 255) (w : World) (hl : l.length ≤ 9223372036854775806) :
    Calls Tryz.prog 23 #[.string (str l), .int .u8 a, .int .u8 b] w fun e w' => e = .returned (.string (str (l.map (moveB a b)))) ∧ Below w.heap.size w w' := by
  have hsz := str_size l
  have cv := Lib.run_convert_string_bytes (P := Tryz.prog) w 9 33 5 (str l) Tryz.underlying9 Tryz.underlying33 Tryz.underlying5
  go_enter Tryz.func23, Tryz.ntmps23
  go_wp2_with fail
  have hb1 := Lib.bytesWorld_at_new w 5 (str l)
  have hcs : Lib.bytesCells w 5 (str l) = mapCells (moveB a b) 0 l (List.replicate (grownCap w (str l).size 0 5 - (str l).size) (.int .u8 0)) := by
    apply Array.ext'
    simp [Lib.bytesCells, mapCells, mapMix_zero, bv, str]
  have hf : ∃ f, (Lib.bytesCells w 5 (str l)).size = f ∧ l.length ≤ f := ⟨_, rfl, by rw [hcs]; simp [mapCells, bv_len, mapMix_len]⟩
  obtain ⟨f, hf, hlf⟩ := hf
  rw [hf] at hb1
  have L1 : Below w.heap.size w (Lib.bytesWorld w 5 (str l)) := ⟨rfl, rfl, rfl, by rw [Lib.bytesWorld_size]; omega, fun k hk => Lib.bytesWorld_at_old _ _ _ k hk⟩
  generalize List.replicate (grownCap w (str l).size 0 5 - (str l).size) (Value.int .u8 0) = rest at hcs
  rw [hcs] at hb1
  have HB1 := hid hb1
  have HL1 := hid L1
  clear hb1 L1 hf hcs cv
  go_loopw [14] (fun v10 wr => ∃ i : Nat, i ≤ l.length ∧ v10 = .int .i64 i ∧ wr.heap[w.heap.size]? = some (.cells (mapCells (moveB a b) i l rest) 5 (f, f + 1)) ∧ Below w.heap.size w wr) (fun v10 _ => l.length - (intOf v10).toNat)
  case atStart => exact ⟨0, Nat.zero_le _, rfl, HB1.out, HL1.out⟩
  case round =>
    obtain ⟨i, him, rfl, hB, hbel⟩ := hrel
    have HB := hid hB
    have HBE := hid hbel
    clear hB hbel
    by_cases hil : i < l.length
    · have e1 : decide ((i : Int) < l.length) = true := decide_eq_true (by omega)
      obtain ⟨c, hc⟩ : ∃ c, c = l[i] := ⟨_, rfl⟩
      have hcell : wr.cell? ⟨w.heap.size, i, none⟩ = some (.int .u8 c.toNat) := by
        rw [cells_at HB.out, mapCells_at _ i l rest hil, hc]
      have hf := free_below HB.out i (by omega)
      have hset := mapCells_set (moveB a b) i l rest hil
      have hkeep := mapCells_keep (moveB a b) i l rest hil
      rw [← hc] at hset hkeep
      have HS := hid hset
      have HK := hid hkeep
      have hlt := c.toNat_lt
      clear hset hkeep hc
      by_cases h1 : a ≤ c.toNat
      · have e2 : decide ((a : Int) ≤ (c.toNat : Int)) = true := decide_eq_true (by omega)
        by_cases h2 : c.toNat < a + 26
        · have e3 : decide ((c.toNat : Int) < (a : Int) + 26) = true := decide_eq_true (by omega)
          have hm : (moveB a b c).toNat = c.toNat - a + b := by
            unfold moveB
            rw [if_pos ⟨h1, h2⟩]
            simp
            omega
          have HM := hid hm
          clear hm
          go_wp2
          go_roundw
          case rel =>
            have hB2 := block_set HB.out i (.int .u8 (moveB a b c).toNat)
            rw [HS.out, HM.out] at hB2
            refine ⟨i + 1, by omega, by go_num, ?_, HBE.out.setCell (by simp) _⟩
            have hv : ((c.toNat : Int) - a + b) = ((c.toNat - a + b : Nat) : Int) := by omega
            rw [hv]
            exact hB2
          case measure => simp [intOf]; omega
        · have e3 : decide ((c.toNat : Int) < (a : Int) + 26) = false := decide_eq_false (by omega)
          have hk : moveB a b c = c := by unfold moveB; rw [if_neg (fun h => h2 h.2)]
          have hB1 := HB.out
          rw [HK.out hk] at hB1
          have HB1' := hid hB1
          clear hB1 hk
          go_wp2
          go_roundw
          case rel => exact ⟨i + 1, by omega, by go_num, HB1'.out, HBE.out⟩
          case measure => simp [intOf]; omega
      · have e2 : decide ((a : Int) ≤ (c.toNat : Int)) = false := decide_eq_false (by omega)
        have hk : moveB a b c = c := by unfold moveB; rw [if_neg (fun h => h1 h.1)]
        have hB1 := HB.out
        rw [HK.out hk] at hB1
        have HB1' := hid hB1
        clear hB1 hk
        go_wp2
        go_roundw
        case rel => exact ⟨i + 1, by omega, by go_num, HB1'.out, HBE.out⟩
        case measure => simp [intOf]; omega
    · have e1 : decide ((i : Int) < l.length) = false := decide_eq_false (by omega)
      have hi2 : i = l.length := by omega
      have hsrc : Src wr (some ⟨w.heap.size, 0, none⟩) (bv (l.map (moveB a b))) := by
        refine ⟨fun h => by simp at h, fun p hp j u hu => ?_⟩
        simp at hp
        subst hp
        have hj : j < (bv (l.map (moveB a b))).length := (List.getElem?_eq_some_iff.1 hu).1
        rw [Addr.add_lit, cells_at HB.out, Nat.zero_add]
        subst hi2
        simp only [mapCells, List.getElem?_toArray, mapMix_all]
        rw [List.getElem?_append_left hj]
        exact hu
      have cv := conv_src hsrc l.length (grownCap w l.length 0 5) (by simp)
      clear hi2 hsrc
      go_wp2
      go_ret
      exact ⟨rfl, HBE.out⟩

end Go.Proofs.YtdbggicpcbecdaaGreatDoor
