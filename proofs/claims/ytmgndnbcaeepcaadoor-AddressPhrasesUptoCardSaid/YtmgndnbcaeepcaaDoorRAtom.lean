/-
  The reference's atom.
-/
import Derived.Test.YtmgndnbcaeepcaaDoorPath
namespace Go.Proofs.YtmgndnbcaeepcaaDoor
open Go.RowKit Own Ad
set_option linter.unusedVariables false
set_option linter.unusedSimpArgs false
set_option maxRecDepth 100000
attribute [local go_sem] str_toList

def rspec : List UInt8 := [33, 35, 36, 37, 38, 39, 42, 43, 45, 47, 61, 63, 94, 95, 123, 124, 125, 126]
theorem isAt_r (c : UInt8) : isAt c = (isLet c || c == 96 || rspec.contains c) := by
  unfold isAt
  rw [Bool.or_assoc]
  congr 1
  unfold specials rspec
  simp only [List.contains_cons, List.contains_nil, Bool.or_false]
  cases c == 33 <;> cases c == 35 <;> cases c == 36 <;> cases c == 37 <;> cases c == 38 <;> cases c == 39 <;> cases c == 42 <;> cases c == 43 <;> cases c == 45 <;> simp <;> cases c == 96 <;> simp

set_option maxHeartbeats 1000000 in
theorem ratom_any (c : UInt8) (w : World) :
    Calls Tryd.prog 52 #[.int .u8 c.toNat] w fun e w' => e = .returned (.bool (isAt c)) ∧ w = w' := by
  have hlt := fun W => rletter_any c W
  have hr := isAt_r c
  obtain ⟨R, hR⟩ : ∃ R, R = isAt c := ⟨_, rfl⟩
  rw [← hR] at hr ⊢
  have HR := hid hr
  clear hR hr
  cases hb : isLet c with
  | true =>
    rw [hb] at hlt
    have HT := hid (show R = true by rw [HR.out, hb]; rfl)
    clear hb
    go_enter Tryd.func52, Tryd.ntmps52
    go_wp2_with (go_at_call 51; refine (hlt _).mono ?_; rintro e w1 ⟨rfl, rfl⟩)
    go_ret
    exact ⟨by rw [HT.out]; rfl, rfl⟩
  | false =>
    rw [hb] at hlt
    by_cases h96 : c = 96
    · have e1 : ((c.toNat : Int) == 96) = true := by rw [h96]; rfl
      have HT := hid (show R = true by rw [HR.out, h96]; rfl)
      clear hb h96
      go_enter Tryd.func52, Tryd.ntmps52
      go_wp2_with (go_at_call 51; refine (hlt _).mono ?_; rintro e w1 ⟨rfl, rfl⟩)
      go_ret
      exact ⟨by rw [HT.out]; rfl, rfl⟩
    · have e1 : ((c.toNat : Int) == 96) = false := by
        rw [Bool.eq_false_iff]; intro h; rw [beq_iff_eq] at h
        exact h96 (UInt8.toNat_inj.1 (by have : (96 : UInt8).toNat = 96 := rfl; omega))
      have h962 : (c == 96) = false := by simpa using h96
      have HQ : Hid (R = (rspec.drop 0).contains c) := hid (by rw [HR.out, hb, h962]; rfl)
      clear hb h96 h962
      go_enter Tryd.func52, Tryd.ntmps52
      go_wp2_with (go_at_call 51; refine (hlt _).mono ?_; rintro e w1 ⟨rfl, rfl⟩)
      go_loop [4] (fun v4 => ∃ i : Nat, i ≤ 18 ∧ v4 = .int .i64 i ∧ R = (rspec.drop i).contains c) (fun v4 => 18 - (intOf v4).toNat)
      case atStart => exact ⟨0, by decide, rfl, HQ.out⟩
      case round =>
        obtain ⟨i, hi, rfl, hq⟩ := hrel
        by_cases hil : i < 18
        · obtain ⟨x, hx⟩ : ∃ x, rspec[i]? = some x := ⟨_, List.getElem?_eq_getElem (show i < rspec.length from hil)⟩
          have hix : ∀ h, (ByteArray.mk #[33, 35, 36, 37, 38, 39, 42, 43, 45, 47, 61, 63, 94, 95, 123, 124, 125, 126])[i]'h = x := str_ix hx
          rw [drop_at hx, List.contains_cons] at hq
          clear hx
          by_cases hxc : c = x
          · subst hxc
            have HT := hid (show R = true by rw [hq]; simp)
            have e2 : ((c.toNat : Int) == (c.toNat : Int)) = true := by simp
            clear hq
            go_wp2_with fail
            go_ret
            exact ⟨by rw [HT.out]; rfl, rfl⟩
          · have h3 : (c == x) = false := by simpa using hxc
            rw [h3, Bool.false_or] at hq
            have HT := hid hq
            have e2 : ((x.toNat : Int) == (c.toNat : Int)) = false := by
              rw [Bool.eq_false_iff]; intro h; rw [beq_iff_eq] at h
              exact hxc (UInt8.toNat_inj.1 (by omega))
            clear hq h3 hxc
            go_wp2_with fail
            go_round
            case rel => exact ⟨i + 1, by omega, by go_num, HT.out⟩
            case measure => simp [intOf]; omega
        · obtain rfl : i = 18 := by omega
          have HT := hid (show R = false by rw [hq]; rfl)
          clear hq hil
          go_wp2_with fail
          go_ret
          exact ⟨by rw [HT.out]; rfl, rfl⟩

end Go.Proofs.YtmgndnbcaeepcaaDoor
