/-
  A text's shape: the program's.
-/
import Derived.Test.YtcfkmckdjappbaaDoorDig
import Derived.Lib.ConvBytes
namespace Go.Proofs.YtcfkmckdjappbaaDoor
open Go.RowKit Own
set_option linter.unusedVariables false
set_option linter.unusedSimpArgs false

theorem free_below {w : World} {g : Nat} {cs : Array Value} {t : TypeId} {f1 f2 : Nat} (h : w.heap[g]? = some (.cells cs t (f1, f2))) (j : Nat) (hj : j < f1) : w.frozen? ⟨g, j, none⟩ = false := by
  simp [World.frozen?, h]; omega

def shB (i : Nat) (c : UInt8) : UInt8 := if isDig c then 57 else if i = 21 ∧ c.toNat = 45 then 43 else c
def shL (l : List UInt8) : List UInt8 := l.mapIdx shB
def shMix (i : Nat) (l : List UInt8) : List UInt8 := (shL l).take i ++ l.drop i
theorem shL_len (l : List UInt8) : (shL l).length = l.length := by simp [shL]
theorem shMix_len (i : Nat) (l : List UInt8) : (shMix i l).length = l.length := by simp [shMix, shL_len]; omega
theorem shMix_zero (l : List UInt8) : shMix 0 l = l := by simp [shMix]
theorem shMix_all (l : List UInt8) : shMix l.length l = shL l := by
  have := shL_len l
  simp [shMix, ← this]
theorem shMix_at (i : Nat) (l : List UInt8) (h : i < l.length) : (shMix i l)[i]? = some l[i] := by
  have := shL_len l
  simp [shMix, List.getElem?_append, this, h, Nat.le_of_lt h]
theorem shMix_set (i : Nat) (l : List UInt8) (h : i < l.length) : (shMix i l).set i (shB i l[i]) = shMix (i + 1) l := by
  apply List.ext_getElem?
  intro k
  have h1 := shL_len l
  by_cases hk : k = i
  · subst hk
    simp [shMix, shMix_len, List.getElem?_set, List.getElem?_append, List.getElem?_take, h1, h, Nat.le_of_lt h, shL]
    omega
  · simp only [List.getElem?_set, Ne.symm hk, if_false, shMix, List.getElem?_append, List.length_take, h1, List.getElem?_drop, List.getElem?_take]
    rcases Nat.lt_or_ge k i with c | c
    · simp [Nat.min_eq_left (Nat.le_of_lt h), c, Nat.min_eq_left (show i + 1 ≤ l.length by omega), show k < i + 1 by omega]
    · have : ¬ k < i + 1 := by omega
      simp [Nat.min_eq_left (Nat.le_of_lt h), Nat.not_lt.mpr c, Nat.min_eq_left (show i + 1 ≤ l.length by omega), this]
      congr 1; omega
def shCells (i : Nat) (l : List UInt8) (rest : List Value) : Array Value := (bv (shMix i l) ++ rest).toArray
theorem shCells_at (i : Nat) (l : List UInt8) (rest : List Value) (h : i < l.length) : (shCells i l rest)[i]? = some (.int .u8 l[i].toNat) := by
  have h2 := shMix_len i l
  have h3 := shMix_at i l h
  simp only [shCells, List.getElem?_toArray]
  rw [List.getElem?_append_left (by rw [bv_len]; omega)]
  simp [bv, h3]
theorem shCells_set (i : Nat) (l : List UInt8) (rest : List Value) (h : i < l.length) : (shCells i l rest).setIfInBounds i (.int .u8 (shB i l[i]).toNat) = shCells (i + 1) l rest := by
  have h2 := shMix_len i l
  unfold shCells
  rw [List.setIfInBounds_toArray]
  congr 1
  rw [List.set_append_left _ _ (by rw [bv_len]; omega), ← shMix_set i l h]
  simp [bv, List.map_set]
theorem shCells_keep (i : Nat) (l : List UInt8) (rest : List Value) (h : i < l.length) (hk : shB i l[i] = l[i]) : shCells i l rest = shCells (i + 1) l rest := by
  have h2 := shMix_len i l
  unfold shCells
  congr 2
  rw [← shMix_set i l h, hk]
  congr 1
  symm
  apply List.ext_getElem?
  intro k
  rw [List.getElem?_set]
  split
  · rename_i e; subst e; rw [shMix_at i l h]; simp [h2, h]
  · rfl

theorem shape_any (l : List UInt8) (w : World) (hl : l.length ≤ 64) :
    Calls Tryd.prog 31 #[.string (str l)] w fun e w' => e = .returned (.string (str (shL l))) ∧ Below w.heap.size w w' := by
  have hsz := str_size l
  have cv := Lib.run_convert_string_bytes (P := Tryd.prog) w 9 32 5 (str l) Tryd.underlying9 Tryd.underlying32 Tryd.underlying5
  go_enter Tryd.func31, Tryd.ntmps31
  go_wp2_with fail
  have hb1 := Lib.bytesWorld_at_new w 5 (str l)
  have hcs : Lib.bytesCells w 5 (str l) = shCells 0 l (List.replicate (grownCap w (str l).size 0 5 - (str l).size) (.int .u8 0)) := by
    apply Array.ext'
    simp [Lib.bytesCells, shCells, shMix_zero, bv, str]
  have hf : ∃ f, (Lib.bytesCells w 5 (str l)).size = f ∧ l.length ≤ f := ⟨_, rfl, by rw [hcs]; simp [shCells, bv_len, shMix_len]⟩
  obtain ⟨f, hf, hlf⟩ := hf
  rw [hf] at hb1
  have L1 : Below w.heap.size w (Lib.bytesWorld w 5 (str l)) := ⟨rfl, rfl, rfl, by rw [Lib.bytesWorld_size]; omega, fun k hk => Lib.bytesWorld_at_old _ _ _ k hk⟩
  generalize List.replicate (grownCap w (str l).size 0 5 - (str l).size) (Value.int .u8 0) = rest at hcs
  rw [hcs] at hb1
  have HB1 := hid hb1
  have HL1 := hid L1
  clear hb1 L1 hf hcs cv
  go_loopw [10] (fun v10 wr => ∃ i : Nat, i ≤ l.length ∧ v10 = .int .i64 i ∧ wr.heap[w.heap.size]? = some (.cells (shCells i l rest) 5 (f, f + 1)) ∧ Below w.heap.size w wr) (fun v10 _ => l.length - (intOf v10).toNat)
  case atStart => exact ⟨0, Nat.zero_le _, rfl, HB1.out, HL1.out⟩
  case round =>
    obtain ⟨i, him, rfl, hB, hbel⟩ := hrel
    have HB := hid hB
    have HBE := hid hbel
    clear hB hbel
    by_cases hil : i < l.length
    · have e1 : decide ((i : Int) < l.length) = true := decide_eq_true (by omega)
      obtain ⟨c, hc⟩ : ∃ c, c = l[i] := ⟨_, rfl⟩
      have hcell : wr.cell? ⟨w.heap.size, i, none⟩ = some (.int .u8 c.toNat) := by
        rw [cells_at HB.out, shCells_at i l rest hil, hc]
      have hf := free_below HB.out i (by omega)
      have hset := shCells_set i l rest hil
      have hkeep := shCells_keep i l rest hil
      rw [← hc] at hset hkeep
      have HS := hid hset
      have HK := hid hkeep
      clear hset hkeep hc
      by_cases hd : isDig c
      · have hsh : shB i c = 57 := by simp [shB, hd]
        have HSH := hid hsh
        unfold isDig at hd
        have e2 : decide (48 ≤ (c.toNat : Int)) = true := decide_eq_true (by omega)
        have e3 : decide ((c.toNat : Int) ≤ 57) = true := decide_eq_true (by omega)
        clear hd hsh
        go_wp2
        go_roundw
        case rel =>
          have hB2 := block_set HB.out i (.int .u8 (shB i c).toNat)
          rw [HS.out, HSH.out] at hB2
          exact ⟨i + 1, by omega, by go_num, hB2, HBE.out.setCell (by simp) _⟩
        case measure => simp [intOf]; omega
      · have e23 : (decide (48 ≤ (c.toNat : Int)) = false) ∨ (decide (48 ≤ (c.toNat : Int)) = true ∧ decide ((c.toNat : Int) ≤ 57) = false) := by
          unfold isDig at hd
          by_cases h : 48 ≤ c.toNat
          · exact .inr ⟨decide_eq_true (by omega), decide_eq_false (by omega)⟩
          · exact .inl (decide_eq_false (by omega))
        by_cases h21 : i = 21 ∧ c.toNat = 45
        · have hsh : shB i c = 43 := by simp [shB, hd, h21]
          have HSH := hid hsh
          have e4 : decide ((i : Int) = 21) = true := decide_eq_true (by omega)
          have e5 : decide ((c.toNat : Int) = 45) = true := decide_eq_true (by omega)
          have e6 : ((i : Int) == 21) = true := by simp; omega
          have e7 : ((c.toNat : Int) == 45) = true := by simp; omega
          have e2 : decide (48 ≤ (c.toNat : Int)) = false := decide_eq_false (by omega)
          clear hd hsh e23 h21
          go_wp2
          go_roundw
          case rel =>
            have hB2 := block_set HB.out i (.int .u8 (shB i c).toNat)
            rw [HS.out, HSH.out] at hB2
            exact ⟨i + 1, by omega, by go_num, hB2, HBE.out.setCell (by simp) _⟩
          case measure => simp [intOf]; omega
        · have hsh : shB i c = c := by simp [shB, hd, h21]
          have hk := HK.out hsh
          have hB1 := HB.out
          rw [hk] at hB1
          have HB1' := hid hB1
          clear hB1 hk hsh hd
          have e45 : ((i : Int) == 21) = false ∨ (((i : Int) == 21) = true ∧ ((c.toNat : Int) == 45) = false) := by
            by_cases h : i = 21
            · have : c.toNat ≠ 45 := fun h2 => h21 ⟨h, h2⟩
              exact .inr ⟨by simp; omega, by simp; omega⟩
            · exact .inl (by simp; omega)
          clear h21
          have fin : ∃ i' : Nat, i' ≤ l.length ∧ ((i : Int) + 1) = i' ∧ wr.heap[w.heap.size]? = some (.cells (shCells i' l rest) 5 (f, f + 1)) ∧ Below w.heap.size w wr := ⟨i + 1, by omega, by omega, HB1'.out, HBE.out⟩
          have FIN := hid fin
          clear fin
          rcases e23 with e2 | ⟨e2, e3⟩ <;> rcases e45 with e4 | ⟨e4, e5⟩
          all_goals
            go_wp2
            go_roundw
            case rel =>
              obtain ⟨i', h1, h2, h3, h4⟩ := FIN.out
              exact ⟨i', h1, by go_num, h3, h4⟩
            case measure => simp [intOf]; omega
    · have e1 : decide ((i : Int) < l.length) = false := decide_eq_false (by omega)
      have hi2 : i = l.length := by omega
      have hsrc : Src wr (some ⟨w.heap.size, 0, none⟩) (bv (shL l)) := by
        refine ⟨fun h => by simp at h, fun p hp j u hu => ?_⟩
        simp at hp
        subst hp
        have hj : j < (bv (shL l)).length := (List.getElem?_eq_some_iff.1 hu).1
        rw [Addr.add_lit, cells_at HB.out, Nat.zero_add]
        subst hi2
        simp only [shCells, List.getElem?_toArray, shMix_all]
        rw [List.getElem?_append_left hj]
        exact hu
      have cv := conv_src hsrc l.length (grownCap w l.length 0 5) (by rw [shL_len])
      clear hi2 hsrc
      go_wp2
      go_ret
      exact ⟨rfl, HBE.out⟩

end Go.Proofs.YtcfkmckdjappbaaDoor
