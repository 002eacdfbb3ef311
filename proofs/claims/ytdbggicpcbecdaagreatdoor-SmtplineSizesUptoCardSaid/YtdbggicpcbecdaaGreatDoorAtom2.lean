/-
  A text of atoms; a label.
-/
import Derived.Test.YtdbggicpcbecdaaGreatDoorAtom
import Derived.Test.YtdbggicpcbecdaaGreatDoorStr
import Derived.LoopTactic
import Derived.Deep.LoopGhost
import Derived.Deep.DeepCutAuto
import Derived.Deep.CutBlock
import Derived.Deep.QuietTactic
import Derived.BigQuiet
import Derived.IntWalk
namespace Go.Proofs.YtdbggicpcbecdaaGreatDoor
open Go.RowKit Own Ad
set_option linter.unusedVariables false
set_option linter.unusedSimpArgs false
set_option maxRecDepth 100000

attribute [local go_sem] str_toList

theorem indexByte_mem (l : List UInt8) (c : UInt8) : (c ∈ l ∧ 0 ≤ Lib.indexByte l c) ∨ (c ∉ l ∧ Lib.indexByte l c = -1) := by
  induction l with
  | nil => right; simp [Lib.indexByte]
  | cons b l ih =>
    by_cases hb : b = c
    · left; subst hb; simp [Lib.indexByte]
    · have hb2 : (b == c) = false := by simpa using hb
      rcases ih with ⟨h1, h2⟩ | ⟨h1, h2⟩
      · left
        refine ⟨by simp [h1], ?_⟩
        have h3 : (Lib.indexByte l c == -1) = false := by rw [beq_eq_false_iff_ne]; omega
        unfold Lib.indexByte
        simp only [hb2, h3, Bool.false_eq_true, if_false]
        omega
      · right
        refine ⟨by simp [h1, Ne.symm hb], ?_⟩
        unfold Lib.indexByte
        simp [hb2, h2]
theorem spec_any (c : UInt8) (w : World) : ∃ k : Int, ((isAt c = true → isLet c = false → 0 ≤ k) ∧ (isAt c = false → k < 0)) ∧
    Calls Tryz.prog 32 #[.string { data := #[33, 35, 36, 37, 38, 39, 42, 43, 45, 47, 61, 63, 94, 95, 96, 123, 124, 125, 126] }, .int .u8 c.toNat] w fun e w' => e = .returned (.int .i64 k) ∧ w = w' := by
  refine ⟨Lib.indexByte specials c, ?_, ?_⟩
  · have h := indexByte_mem specials c
    unfold isAt
    rcases h with ⟨h1, h2⟩ | ⟨h1, h2⟩
    · exact ⟨fun _ _ => h2, fun h => by simp [h1] at h⟩
    · refine ⟨fun h3 h4 => ?_, fun _ => by omega⟩
      rw [h4] at h3
      simp [h1] at h3
  · refine (Tryz.strings_IndexByte { data := #[33, 35, 36, 37, 38, 39, 42, 43, 45, 47, 61, 63, 94, 95, 96, 123, 124, 125, 126] } c.toNat w).mono ?_
    rintro e w' ⟨rfl, rfl⟩
    refine ⟨?_, rfl⟩
    have : ((c.toNat : Int).toNat).toUInt8 = c := by simp
    rw [this]
    rfl

theorem drop_at {l : List UInt8} {i : Nat} {c : UInt8} (h : l[i]? = some c) : l.drop i = c :: l.drop (i + 1) := by
  obtain ⟨h1, h2⟩ := List.getElem?_eq_some_iff.1 h
  rw [List.drop_eq_getElem_cons h1, h2]
theorem str_ix {l : List UInt8} {i : Nat} {c : UInt8} (h : l[i]? = some c) : ∀ h, (str l)[i]'h = c := by
  obtain ⟨h1, h2⟩ := List.getElem?_eq_some_iff.1 h
  intro h
  rw [← h2]; rfl

set_option maxHeartbeats 1000000 in
theorem atom_any (l : List UInt8) (w : World) (hl : l.length ≤ 9223372036854775806) :
    Calls Tryz.prog 82 #[.string (str l)] w fun e w' => e = .returned (.bool (atomP l)) ∧ w = w' := by
  have hsz := str_size l
  obtain ⟨R, hR⟩ : ∃ R, R = atomP l := ⟨_, rfl⟩
  rw [← hR]
  have HR := hid hR
  clear hR
  go_enter Tryz.func82, Tryz.ntmps82
  go_wp2_with fail
  go_loop [6] (fun v6 => ∃ i : Nat, i ≤ l.length ∧ v6 = .int .i64 i ∧ R = ((l.drop i).all isAt && !l.isEmpty)) (fun v6 => l.length - (intOf v6).toNat)
  case atStart => exact ⟨0, Nat.zero_le _, rfl, HR.out⟩
  case round =>
    obtain ⟨i, hi, rfl, hr⟩ := hrel
    by_cases hil : i < l.length
    · obtain ⟨c, hc⟩ : ∃ c, l[i]? = some c := ⟨_, List.getElem?_eq_getElem hil⟩
      have hix := str_ix hc
      rw [drop_at hc, List.all_cons] at hr
      obtain ⟨k, ⟨hk1, hk2⟩, hsp⟩ := spec_any c w
      have hlt := fun W => letter_any c W
      cases ha : isAt c with
      | true =>
        rw [ha, Bool.true_and] at hr
        have HR2 := hid hr
        have hk3 := hk1 ha
        clear hk1 hk2 hr ha hc
        cases hb : isLet c with
        | true =>
          rw [hb] at hlt
          clear hk3 hb hsp
          go_wp2_with (go_at_call 91; refine (hlt _).mono ?_; rintro e w1 ⟨rfl, rfl⟩)
          go_round
          case rel => exact ⟨i + 1, by omega, by go_num, HR2.out⟩
          case measure => simp [intOf]; omega
        | false =>
          rw [hb] at hlt
          have hk4 := hk3 hb
          clear hk3 hb
          go_wp2_with (first
            | (go_at_call 91; refine (hlt _).mono ?_; rintro e w1 ⟨rfl, rfl⟩)
            | (go_at_call 32; refine hsp.mono ?_; rintro e w1 ⟨rfl, rfl⟩))
          go_round
          case rel => exact ⟨i + 1, by omega, by go_num, HR2.out⟩
          case measure => simp [intOf]; omega
      | false =>
        rw [ha, Bool.false_and, Bool.false_and] at hr
        have HR2 := hid hr
        have hk4 := hk2 ha
        have hb : isLet c = false := by
          unfold isAt at ha
          cases hq : isLet c with
          | true => rw [hq] at ha; simp at ha
          | false => rfl
        rw [hb] at hlt
        clear hk1 hk2 hr ha hc hb
        go_wp2_with (first
          | (go_at_call 91; refine (hlt _).mono ?_; rintro e w1 ⟨rfl, rfl⟩)
          | (go_at_call 32; refine hsp.mono ?_; rintro e w1 ⟨rfl, rfl⟩))
        go_ret
        exact ⟨by rw [HR2.out]; rfl, rfl⟩
    · obtain rfl : i = l.length := by omega
      rw [List.drop_length] at hr
      have HR2 := hid hr
      clear hr
      go_wp2_with fail
      go_ret
      exact ⟨by rw [HR2.out]; cases l <;> simp, rfl⟩

namespace Ad
/-- A byte of a label at its place. -/
def okL (n i : Nat) (c : UInt8) : Bool := isLet c || (c == 45 && decide (i ≠ 0) && decide (i + 1 ≠ n))
theorem labelP_iff (l : List UInt8) : labelP l = true ↔ l ≠ [] ∧ ∀ i c, l[i]? = some c → okL l.length i c = true := by
  unfold labelP
  rw [Bool.and_eq_true, Bool.and_eq_true, Bool.and_eq_true]
  constructor
  · rintro ⟨⟨⟨h1, h2⟩, h3⟩, h4⟩
    have hne : l ≠ [] := by rintro rfl; simp at h2
    refine ⟨hne, fun i c hc => ?_⟩
    have hm : c ∈ l := List.mem_of_getElem? hc
    have h5 := List.all_eq_true.1 h1 c hm
    unfold okL
    cases hq : isLet c with
    | true => rfl
    | false =>
      rw [hq, Bool.false_or] at h5
      rw [Bool.false_or, h5, Bool.true_and, Bool.and_eq_true, decide_eq_true_eq, decide_eq_true_eq]
      have h6 : c = 45 := by simpa using h5
      subst h6
      constructor
      · rintro rfl
        rw [← List.head?_eq_getElem?] at hc
        rw [hc] at h3
        simp at h3
      · intro hi
        rw [List.getLast?_eq_getElem?, show l.length - 1 = i by omega, hc] at h4
        simp at h4
  · rintro ⟨h1, h2⟩
    have hpos : 0 < l.length := List.length_pos_iff.2 h1
    refine ⟨⟨⟨List.all_eq_true.2 fun c hc => ?_, ?_⟩, ?_⟩, ?_⟩
    · obtain ⟨i, hi, rfl⟩ := List.getElem_of_mem hc
      have := h2 i _ (List.getElem?_eq_getElem hi)
      unfold okL at this
      cases hq : isLet l[i] with
      | true => rfl
      | false => rw [hq, Bool.false_or] at this; simp at this; simp [this.1]
    · cases l with
      | nil => exact absurd rfl h1
      | cons a b => rfl
    · rw [List.head?_eq_getElem?, bne_iff_ne]
      intro h
      have h3 := h2 0 45 h
      unfold okL at h3
      simp at h3
      exact absurd h3 (by decide)
    · rw [List.getLast?_eq_getElem?, bne_iff_ne]
      intro h
      have h3 := h2 _ 45 h
      unfold okL at h3
      simp at h3
      rcases h3 with h3 | h3
      · exact absurd h3 (by decide)
      · omega
theorem labelP_no {l : List UInt8} {i : Nat} {c : UInt8} (hc : l[i]? = some c) (h : okL l.length i c = false) : labelP l = false := by
  rw [Bool.eq_false_iff]
  intro h2
  have := ((labelP_iff l).1 h2).2 i c hc
  rw [h] at this
  cases this
theorem labelP_yes {l : List UInt8} (h : ∀ j, j < l.length → ∃ c, l[j]? = some c ∧ okL l.length j c = true) : labelP l = !l.isEmpty := by
  cases hl : l with
  | nil => rfl
  | cons a b =>
    rw [← hl]
    have : labelP l = true := (labelP_iff l).2 ⟨by rw [hl]; simp, fun i c hc => by
      obtain ⟨h1, h2⟩ := List.getElem?_eq_some_iff.1 hc
      obtain ⟨c', h3, h4⟩ := h i h1
      rw [hc] at h3
      obtain rfl : c = c' := by simpa using h3
      exact h4⟩
    rw [this, hl]; rfl
end Ad

set_option maxHeartbeats 1000000 in
theorem label_any (l : List UInt8) (w : World) (hl : l.length ≤ 9223372036854775806) :
    Calls Tryz.prog 83 #[.string (str l)] w fun e w' => e = .returned (.bool (labelP l)) ∧ w = w' := by
  have hsz := str_size l
  obtain ⟨R, hR⟩ : ∃ R, R = labelP l := ⟨_, rfl⟩
  rw [← hR]
  have HR := hid hR
  clear hR
  go_enter Tryz.func83, Tryz.ntmps83
  go_wp2_with fail
  go_loop [6] (fun v6 => ∃ i : Nat, i ≤ l.length ∧ v6 = .int .i64 i ∧ ∀ j, j < i → ∃ c, l[j]? = some c ∧ okL l.length j c = true) (fun v6 => l.length - (intOf v6).toNat)
  case atStart => exact ⟨0, Nat.zero_le _, rfl, fun j hj => by omega⟩
  case round =>
    obtain ⟨i, hi, rfl, hr⟩ := hrel
    have HH := hid hr
    clear hr
    by_cases hil : i < l.length
    · obtain ⟨c, hc⟩ : ∃ c, l[i]? = some c := ⟨_, List.getElem?_eq_getElem hil⟩
      have hix := str_ix hc
      have HC := hid hc
      have hlt := fun W => letter_any c W
      have hnext : okL l.length i c = true → ∀ j, j < i + 1 → ∃ c, l[j]? = some c ∧ okL l.length j c = true := fun h j hj => by
        by_cases hji : j = i
        · subst hji; exact ⟨c, HC.out, h⟩
        · exact HH.out j (by omega)
      have hno : okL l.length i c = false → R = false := fun h => HR.out.trans (labelP_no HC.out h)
      clear hc
      cases hb : isLet c with
      | true =>
        have hok : okL l.length i c = true := by unfold okL; rw [hb]; rfl
        have HN := hid (hnext hok)
        rw [hb] at hlt
        clear hnext hno hok hb
        go_wp2_with (go_at_call 91; refine (hlt _).mono ?_; rintro e w1 ⟨rfl, rfl⟩)
        go_round
        case rel => exact ⟨i + 1, by omega, by go_num, HN.out⟩
        case measure => simp [intOf]; omega
      | false =>
        rw [hb] at hlt
        by_cases h1 : c = 45
        · have e1 : ((c.toNat : Int) != 45) = false := by rw [h1]; rfl
          by_cases h2 : i = 0
          · have hok : okL l.length i c = false := by unfold okL; rw [hb, h2]; simp
            have HN := hid (hno hok)
            subst h2
            clear hnext hno hok hb h1
            go_wp2_with (go_at_call 91; refine (hlt _).mono ?_; rintro e w1 ⟨rfl, rfl⟩)
            go_ret
            exact ⟨by rw [HN.out]; rfl, rfl⟩
          · have e2 : ((i : Int) == 0) = false := by rw [beq_eq_false_iff_ne]; omega
            by_cases h3 : i + 1 = l.length
            · have hok : okL l.length i c = false := by unfold okL; rw [hb, h3]; simp
              have HN := hid (hno hok)
              have e3 : ((i : Int) == (l.length : Int) - 1) = true := by rw [beq_iff_eq]; omega
              clear hnext hno hok hb h1 h2
              go_wp2_with (go_at_call 91; refine (hlt _).mono ?_; rintro e w1 ⟨rfl, rfl⟩)
              go_ret
              exact ⟨by rw [HN.out]; rfl, rfl⟩
            · have hok : okL l.length i c = true := by unfold okL; rw [h1, decide_eq_true h2, decide_eq_true h3]; simp
              have HN := hid (hnext hok)
              have e3 : ((i : Int) == (l.length : Int) - 1) = false := by rw [beq_eq_false_iff_ne]; omega
              clear hnext hno hok hb h1 h2
              go_wp2_with (go_at_call 91; refine (hlt _).mono ?_; rintro e w1 ⟨rfl, rfl⟩)
              go_round
              case rel => exact ⟨i + 1, by omega, by go_num, HN.out⟩
              case measure => simp [intOf]; omega
        · have e1 : ((c.toNat : Int) != 45) = true := by
            rw [bne_iff_ne]
            intro h
            exact h1 (UInt8.toNat_inj.1 (by have : (45 : UInt8).toNat = 45 := rfl; omega))
          have hok : okL l.length i c = false := by
            have : (c == 45) = false := by simpa using h1
            unfold okL; rw [hb, this]; rfl
          have HN := hid (hno hok)
          clear hnext hno hok hb h1
          go_wp2_with (go_at_call 91; refine (hlt _).mono ?_; rintro e w1 ⟨rfl, rfl⟩)
          go_ret
          exact ⟨by rw [HN.out]; rfl, rfl⟩
    · obtain rfl : i = l.length := by omega
      have hr := HR.out.trans (labelP_yes HH.out)
      have HR2 := hid hr
      clear hr
      go_wp2_with fail
      go_ret
      exact ⟨by rw [HR2.out]; cases l <;> simp, rfl⟩

end Go.Proofs.YtdbggicpcbecdaaGreatDoor
