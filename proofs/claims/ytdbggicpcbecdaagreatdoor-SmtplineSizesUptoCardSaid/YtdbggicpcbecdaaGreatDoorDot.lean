/-
  dotted: a text of parts, of atoms or of labels.
-/
import Derived.Test.YtdbggicpcbecdaaGreatDoorTexts
namespace Go.Proofs.YtdbggicpcbecdaaGreatDoor
open Go.RowKit Own Ad
set_option linter.unusedVariables false
set_option linter.unusedSimpArgs false
set_option maxRecDepth 100000

set_option maxHeartbeats 1000000 in
theorem dotted_atom (l : List UInt8) (w : World) (hG : GoodA w) (hl : l.length ≤ 2147483648) :
    Calls Tryz.prog 81 #[.string (str l), .func (.func 82) #[] #[]] w fun e w' => e = .returned (.bool (dottedP atomP l)) ∧ Below w.heap.size w w' := by
  have hsz := str_size l
  obtain ⟨R, hR⟩ : ∃ R, R = dottedP atomP l := ⟨_, rfl⟩
  rw [← hR]
  have HR := hid hR
  clear hR
  have hsp := fun W g => split_any 46 l W g hl
  have hle := Spl.splitL_len 46 l
  have HP := hid (Spl.splitL_parts 46 l)
  obtain ⟨xs, hxs⟩ : ∃ xs, xs = Spl.splitL 46 l := ⟨_, rfl⟩
  have hR0 : R = (xs.all atomP && decide (l.length ≤ 64)) := by rw [HR.out, hxs]; rfl
  rw [← hxs] at hsp hle
  have HP2 : Hid (∀ x ∈ xs, x.length ≤ l.length) := hid (fun x hx => (HP.out x (by rw [← hxs]; exact hx)).2)
  have HR0 := hid hR0
  clear hxs hR0 HP HR
  go_enter Tryz.func81, Tryz.ntmps81
  go_wp2_with (go_at_call 21; refine (hsp _ hG).mono ?_; rintro e w1 ⟨rfl, hs1, c1⟩; have S1 := hid hs1; have b1 := hid c1; clear c1 hs1)
  go_loop [10] (fun v10 => ∃ i : Nat, i ≤ xs.length ∧ v10 = .int .i64 i ∧ R = ((xs.drop i).all atomP && decide (l.length ≤ 64))) (fun v10 => xs.length - (intOf v10).toNat)
  case atStart => exact ⟨0, Nat.zero_le _, rfl, HR0.out⟩
  case round =>
    obtain ⟨i, hi, rfl, hr⟩ := hrel
    by_cases hil : i < xs.length
    · obtain ⟨x, hx⟩ : ∃ x, xs[i]? = some x := ⟨_, List.getElem?_eq_getElem hil⟩
      have hcell := srcS_at S1.out hx
      rw [Addr.add_lit, Nat.zero_add] at hcell
      have hdr : xs.drop i = x :: xs.drop (i + 1) := by
        obtain ⟨h1, h2⟩ := List.getElem?_eq_some_iff.1 hx
        rw [List.drop_eq_getElem_cons h1, h2]
      rw [hdr, List.all_cons] at hr
      have hxl := HP2.out x (List.mem_of_getElem? hx)
      have hat := fun W => atom_any x W (by omega)
      clear hx hdr
      cases ha : atomP x with
      | true =>
        rw [ha] at hat
        rw [ha, Bool.true_and] at hr
        have HR2 := hid hr
        clear hr ha
        go_wp2_with (go_at_call 82; refine (hat _).mono ?_; rintro e w2 ⟨rfl, rfl⟩)
        go_round
        case rel => exact ⟨i + 1, by omega, by go_num, HR2.out⟩
        case measure => simp [intOf]; omega
      | false =>
        rw [ha] at hat
        rw [ha, Bool.false_and, Bool.false_and] at hr
        have HR2 := hid hr
        clear hr ha
        go_wp2_with (go_at_call 82; refine (hat _).mono ?_; rintro e w2 ⟨rfl, rfl⟩)
        go_ret
        exact ⟨by rw [HR2.out]; rfl, b1.out⟩
    · obtain rfl : i = xs.length := by omega
      rw [List.drop_length, List.all_nil, Bool.true_and] at hr
      have HR2 := hid hr
      clear hr
      go_wp2_with fail
      go_ret
      exact ⟨by rw [HR2.out, show decide (l.length ≤ 64) = decide ((l.length : Int) ≤ 64) from decide_eq_decide.2 (by omega)]; rfl, b1.out⟩

set_option maxHeartbeats 1000000 in
theorem dotted_label (l : List UInt8) (w : World) (hG : GoodA w) (hl : l.length ≤ 2147483648) :
    Calls Tryz.prog 81 #[.string (str l), .func (.func 83) #[] #[]] w fun e w' => e = .returned (.bool (dottedP labelP l)) ∧ Below w.heap.size w w' := by
  have hsz := str_size l
  obtain ⟨R, hR⟩ : ∃ R, R = dottedP labelP l := ⟨_, rfl⟩
  rw [← hR]
  have HR := hid hR
  clear hR
  have hsp := fun W g => split_any 46 l W g hl
  have hle := Spl.splitL_len 46 l
  have HP := hid (Spl.splitL_parts 46 l)
  obtain ⟨xs, hxs⟩ : ∃ xs, xs = Spl.splitL 46 l := ⟨_, rfl⟩
  have hR0 : R = (xs.all labelP && decide (l.length ≤ 64)) := by rw [HR.out, hxs]; rfl
  rw [← hxs] at hsp hle
  have HP2 : Hid (∀ x ∈ xs, x.length ≤ l.length) := hid (fun x hx => (HP.out x (by rw [← hxs]; exact hx)).2)
  have HR0 := hid hR0
  clear hxs hR0 HP HR
  go_enter Tryz.func81, Tryz.ntmps81
  go_wp2_with (go_at_call 21; refine (hsp _ hG).mono ?_; rintro e w1 ⟨rfl, hs1, c1⟩; have S1 := hid hs1; have b1 := hid c1; clear c1 hs1)
  go_loop [10] (fun v10 => ∃ i : Nat, i ≤ xs.length ∧ v10 = .int .i64 i ∧ R = ((xs.drop i).all labelP && decide (l.length ≤ 64))) (fun v10 => xs.length - (intOf v10).toNat)
  case atStart => exact ⟨0, Nat.zero_le _, rfl, HR0.out⟩
  case round =>
    obtain ⟨i, hi, rfl, hr⟩ := hrel
    by_cases hil : i < xs.length
    · obtain ⟨x, hx⟩ : ∃ x, xs[i]? = some x := ⟨_, List.getElem?_eq_getElem hil⟩
      have hcell := srcS_at S1.out hx
      rw [Addr.add_lit, Nat.zero_add] at hcell
      have hdr : xs.drop i = x :: xs.drop (i + 1) := by
        obtain ⟨h1, h2⟩ := List.getElem?_eq_some_iff.1 hx
        rw [List.drop_eq_getElem_cons h1, h2]
      rw [hdr, List.all_cons] at hr
      have hxl := HP2.out x (List.mem_of_getElem? hx)
      have hat := fun W => label_any x W (by omega)
      clear hx hdr
      cases ha : labelP x with
      | true =>
        rw [ha] at hat
        rw [ha, Bool.true_and] at hr
        have HR2 := hid hr
        clear hr ha
        go_wp2_with (go_at_call 83; refine (hat _).mono ?_; rintro e w2 ⟨rfl, rfl⟩)
        go_round
        case rel => exact ⟨i + 1, by omega, by go_num, HR2.out⟩
        case measure => simp [intOf]; omega
      | false =>
        rw [ha] at hat
        rw [ha, Bool.false_and, Bool.false_and] at hr
        have HR2 := hid hr
        clear hr ha
        go_wp2_with (go_at_call 83; refine (hat _).mono ?_; rintro e w2 ⟨rfl, rfl⟩)
        go_ret
        exact ⟨by rw [HR2.out]; rfl, b1.out⟩
    · obtain rfl : i = xs.length := by omega
      rw [List.drop_length, List.all_nil, Bool.true_and] at hr
      have HR2 := hid hr
      clear hr
      go_wp2_with fail
      go_ret
      exact ⟨by rw [HR2.out, show decide (l.length ≤ 64) = decide ((l.length : Int) ≤ 64) from decide_eq_decide.2 (by omega)]; rfl, b1.out⟩

end Go.Proofs.YtdbggicpcbecdaaGreatDoor
