/-
  The program's Print of a set.
-/
import Derived.Test.YtifjikpinmgfaaaDoorRSplit
import Derived.Test.YtifjikpinmgfaaaDoorPick
namespace Go.Proofs.YtifjikpinmgfaaaDoor
open Go.RowKit Own Dec Sq
set_option linter.unusedVariables false
set_option linter.unusedSimpArgs false
set_option maxRecDepth 100000

def badI (n : Int) : Bool := decide (n < 0) || decide (4294967295 < n)
theorem bad_any (n : Int) (w : World) : Calls Tryd.prog 36 #[.int .i64 n] w fun e w' => e = .returned (.bool (badI n)) ∧ w = w' := by
  by_cases h1 : n < 0
  · have hb : badI n = true := by unfold badI; simp [h1]
    rw [hb]
    go_enter Tryd.func36, Tryd.ntmps36
    go_wp2
    go_ret
    exact ⟨rfl, rfl⟩
  · by_cases h2 : 4294967295 < n
    · have hb : badI n = true := by unfold badI; simp [h2]
      rw [hb]
      go_enter Tryd.func36, Tryd.ntmps36
      go_wp2
      go_ret
      exact ⟨rfl, rfl⟩
    · have hb : badI n = false := by unfold badI; simp [h1, h2]
      rw [hb]
      go_enter Tryd.func36, Tryd.ntmps36
      go_wp2
      go_ret
      exact ⟨rfl, rfl⟩

theorem indexI_any (p : Addr) (cc : Nat) (l : List Int) (w : World) (hs : Src w (some p) (iv l)) (hl : l.length ≤ 4611686018427387904) :
    Calls Tryd.prog 47 #[.slice (some p) l.length cc, .func (.func 36) #[] #[]] w fun e w' => e = .returned (.int .i64 (firstFrom badI 0 l)) ∧ w = w' := by
  obtain ⟨V, hV⟩ : ∃ V, V = firstFrom badI 0 l := ⟨_, rfl⟩
  rw [← hV]
  have HV := hid hV
  have HS := hid hs
  clear hV hs
  go_enter Tryd.func47, Tryd.ntmps47
  go_wp2_with fail
  go_loop [8] (fun v8 => ∃ i : Nat, i ≤ l.length ∧ v8 = .int .i64 i ∧ V = firstFrom badI i (l.drop i)) (fun v8 => l.length - (intOf v8).toNat)
  case atStart => exact ⟨0, Nat.zero_le _, rfl, HV.out⟩
  case round =>
    obtain ⟨i, hi, rfl, hv⟩ := hrel
    by_cases hil : i < l.length
    · obtain ⟨x, hx⟩ : ∃ x, l[i]? = some x := ⟨_, List.getElem?_eq_getElem hil⟩
      have hcell := HS.out.2 p rfl i _ (iv_at hx)
      have hdr : l.drop i = x :: l.drop (i + 1) := by
        obtain ⟨h1, h2⟩ := List.getElem?_eq_some_iff.1 hx
        rw [List.drop_eq_getElem_cons hil, h2]
      rw [hdr, firstFrom_cons] at hv
      have hin := fun W => bad_any x W
      cases hp : badI x with
      | true =>
        rw [hp] at hin hv
        rw [if_pos rfl] at hv
        have HV2 := hid hv
        clear hdr hx hp hv
        go_wp2_with ((go_at_call 36; refine (hin _).mono ?_; rintro e w1 ⟨rfl, rfl⟩))
        go_ret
        exact ⟨by rw [HV2.out]; rfl, rfl⟩
      | false =>
        rw [hp] at hin hv
        rw [if_neg (by simp)] at hv
        have HV2 := hid hv
        clear hdr hx hp hv
        go_wp2_with ((go_at_call 36; refine (hin _).mono ?_; rintro e w1 ⟨rfl, rfl⟩))
        go_round
        case rel => exact ⟨i + 1, by omega, by go_num, HV2.out⟩
        case measure => simp [intOf]; omega
    · obtain rfl : i = l.length := by omega
      rw [List.drop_length] at hv
      have hv2 : V = -1 := hv
      have HV2 := hid hv2
      clear hv hv2
      go_wp2_with fail
      go_ret
      exact ⟨by rw [HV2.out]; rfl, rfl⟩

theorem in_any (p : Addr) (cc : Nat) (a b : Int) (w : World) (hs : Src w (some p) (iv [a, b])) :
    Calls Tryd.prog 26 #[.slice (some p) 2 cc] w fun e w' => e = .returned (.bool (okR (a, b))) ∧ w = w' := by
  have hin := fun W h => indexI_any p cc [a, b] W h (by simp)
  have hok : okR (a, b) = !decide (0 ≤ firstFrom badI 0 [a, b]) := by
    rw [firstFrom_any]
    unfold okR badI
    simp only [List.any_cons, List.any_nil, Bool.or_false]
    by_cases h1 : a < 0 <;> by_cases h2 : 4294967295 < a <;> by_cases h3 : b < 0 <;> by_cases h4 : 4294967295 < b <;> simp [h1, h2, h3, h4] <;> omega
  rw [hok]
  clear hok
  generalize firstFrom badI 0 [a, b] = V at *
  have hcon : ∀ W, Src W (some p) (iv [a, b]) → Calls Tryd.prog 35 #[.slice (some p) 2 cc, .func (.func 36) #[] #[]] W fun e w' => e = .returned (.bool (decide (0 ≤ V))) ∧ W = w' := by
    intro W h
    have hi2 := hin W h
    clear h hin
    go_enter Tryd.func35, Tryd.ntmps35
    go_wp2_with ((go_at_call 47; refine hi2.mono ?_; rintro e w1 ⟨rfl, rfl⟩))
    go_ret
    exact ⟨rfl, rfl⟩
  have HS := hid hs
  clear hs hin
  go_enter Tryd.func26, Tryd.ntmps26
  go_wp2_with ((go_at_call 35; refine (hcon _ HS.out).mono ?_; rintro e w1 ⟨rfl, rfl⟩))
  go_ret
  exact ⟨by first | rfl | simp, rfl⟩

theorem txt_any (n : Int) (w : World) (hG : GoodC w) (h0 : -9223372036854775808 ≤ n) (h1 : n ≤ 9223372036854775807) :
    Calls Tryd.prog 27 #[.int .i64 n] w fun e w' => e = .returned (.string (str (txt n))) ∧ Below w.heap.size w w' := by
  by_cases h : n = 0
  · have e1 : (n == 0) = true := by simpa using h
    have ht : txt n = [42] := by unfold txt; rw [if_pos h]
    rw [ht]
    clear h ht
    go_enter Tryd.func27, Tryd.ntmps27
    go_wp2
    go_ret
    exact ⟨rfl, Below.refl _ _⟩
  · have e1 : (n == 0) = false := by simpa using h
    have ht : txt n = Lib.itoa n := by unfold txt; rw [if_neg h]
    rw [ht]
    have hit := itoa_any n h0 h1 w hG
    clear h ht
    go_enter Tryd.func27, Tryd.ntmps27
    go_wp2_with ((go_at_call 37; refine hit.mono ?_; rintro e w1 ⟨rfl, hb1⟩))
    go_ret
    exact ⟨rfl, hb1⟩

end Go.Proofs.YtifjikpinmgfaaaDoor
