/-
  The reference's dotted.
-/
import Derived.Test.YtmgndnbcaeepcaaDoorRDotL
import Derived.Test.YtmgndnbcaeepcaaDoorPlain
namespace Go.Proofs.YtmgndnbcaeepcaaDoor
open Go.RowKit Own Ad
set_option linter.unusedVariables false
set_option linter.unusedSimpArgs false
set_option maxRecDepth 100000
attribute [local go_sem] str_toList

theorem wrap_small (n : Nat) (h : n ≤ 1000000000) : IntKind.i64.wrap (n : Int) = (n : Int) := by
  have : IntKind.i64.wrap (n : Int) = (n : Int) := by first | exact Go.wrap_i64 (by omega) (by omega) | (unfold IntKind.wrap; simp [IntKind.signed, IntKind.bits]; omega)
  exact this

set_option maxHeartbeats 4000000 in
theorem rdotted_any (lab : Bool) (s : List UInt8) (w : World) (hs : s.length ≤ 1000000000) :
    Calls Tryd.prog 34 #[.string (str s), .bool lab] w fun e w' => e = .returned (.bool (dottedP (isP lab) s)) ∧ w = w' := by
  have hsz := str_size s
  rw [dotted_pre]
  by_cases h1 : s.length < 1
  · obtain rfl : s = [] := List.eq_nil_of_length_eq_zero (by omega)
    have hR : ((pre [] (Spl.splitL 46 [])).all (isP lab) && decide (([] : List UInt8).length ≤ 64)) = false := by
      rw [pre_nil]; cases lab <;> rfl
    rw [hR]
    clear hR h1
    go_enter Tryd.func34, Tryd.ntmps34
    go_wp2_with fail
    go_ret
    exact ⟨by first | rfl | simp, rfl⟩
  by_cases h2 : 64 < s.length
  · rw [decide_eq_false (show ¬ s.length ≤ 64 by omega), Bool.and_false]
    go_enter Tryd.func34, Tryd.ntmps34
    go_wp2_with fail
    go_ret
    exact ⟨by first | rfl | simp, rfl⟩
  rw [decide_eq_true (show s.length ≤ 64 by omega), Bool.and_true]
  obtain ⟨R, hR⟩ : ∃ R, R = (pre [] (Spl.splitL 46 s)).all (isP lab) := ⟨_, rfl⟩
  rw [← hR]
  have HR := hid hR
  clear hR
  go_enter Tryd.func34, Tryd.ntmps34
  go_wp2_with fail
  go_loop [5, 6] (fun v5 v6 => ∃ fr i : Nat, fr ≤ i ∧ i ≤ s.length + 1 ∧ v5 = .int .i64 fr ∧ v6 = .int .i64 i ∧ ((i ≤ s.length ∧ R = (pre ((s.drop fr).take (i - fr)) (Spl.splitL 46 (s.drop i))).all (isP lab) ∧ ∀ c ∈ (s.drop fr).take (i - fr), okC lab c = true) ∨ (i = s.length + 1 ∧ R = true))) (fun _ v6 => s.length + 1 - (intOf v6).toNat)
  case atStart => exact ⟨0, 0, Nat.le_refl _, by omega, rfl, rfl, .inl ⟨by omega, HR.out, by simp⟩⟩
  case round =>
    obtain ⟨fr, i, hfi0, hi, rfl, rfl, hrel⟩ := hrel
    rcases hrel with ⟨hil, hr, hall⟩ | ⟨hil, hr⟩
    · by_cases hil2 : i < s.length
      · obtain ⟨c, hc⟩ : ∃ c, s[i]? = some c := ⟨_, List.getElem?_eq_getElem hil2⟩
        have hix := str_ix hc
        rw [drop_at hc] at hr
        have hcur : (s.drop fr).take (i + 1 - fr) = (s.drop fr).take (i - fr) ++ [c] := by
          have h3 : (s.drop fr)[i - fr]? = some c := by rw [List.getElem?_drop, ← hc]; congr 1; omega
          obtain ⟨h4, h5⟩ := List.getElem?_eq_some_iff.1 h3
          rw [show i + 1 - fr = (i - fr) + 1 by omega, List.take_succ_eq_append_getElem h4, h5]
        by_cases h46 : c = 46
        · have e1 : ((c.toNat : Int) != 46) = false := by rw [h46]; rfl
          rw [h46, pre_dot, List.all_cons] at hr
          have HIP := hid (isP_ok hall)
          have HBD : Hid (isP lab ((s.drop fr).take (i - fr)) = false → R = false) := hid (fun h => by rw [hr, h]; rfl)
          have HG : Hid (isP lab ((s.drop fr).take (i - fr)) = true → R = (Spl.splitL 46 (s.drop (i + 1))).all (isP lab)) := hid (fun h => by rw [hr, h]; rfl)
          clear hr hall hcur h46 hc
          by_cases hfi : i = fr
          · have e5 : ((i : Int) == (fr : Int)) = true := by rw [beq_iff_eq]; omega
            have HB := hid (HBD.out (by rw [HIP.out, hfi, Nat.sub_self, List.take_zero]; rfl))
            clear hfi
            go_wp2_with fail
            go_ret
            exact ⟨by rw [HB.out]; rfl, rfl⟩
          · have e5 : ((i : Int) == (fr : Int)) = false := by rw [beq_eq_false_iff_ne]; omega
            have hne : ((s.drop fr).take (i - fr)).isEmpty = false := by
              rw [List.isEmpty_eq_false_iff]; intro h
              have := congrArg List.length h
              simp at this; omega
            rw [hne] at HIP
            cases lab with
            | false =>
              have hok : isP false ((s.drop fr).take (i - fr)) = true := HIP.out
              have HOK := hid hok
              clear hne hfi
              go_wp2_with fail
              have hok := HOK.out
              go_round
              case rel => exact ⟨i + 1, i + 1, Nat.le_refl _, by omega, by go_num, by go_num, .inl ⟨by omega, by rw [Nat.sub_self, List.take_zero, pre_zero]; exact HG.out hok, by rw [Nat.sub_self, List.take_zero]; intro c hc; cases hc⟩⟩
              case measure => (simp [intOf]) <;> omega
            | true =>
              have hfl : fr < s.length := by omega
              obtain ⟨x, hx⟩ : ∃ x, s[fr]? = some x := ⟨_, List.getElem?_eq_getElem (by omega)⟩
              obtain ⟨y, hy⟩ : ∃ y, s[i - 1]? = some y := ⟨_, List.getElem?_eq_getElem (by omega)⟩
              have hhead : ((s.drop fr).take (i - fr)).head? = some x := by rw [List.head?_take, if_neg (by omega), List.head?_drop, hx]
              have hlast : ((s.drop fr).take (i - fr)).getLast? = some y := by
                rw [List.getLast?_eq_getElem?, List.length_take, List.length_drop, List.getElem?_take, if_pos (by omega), List.getElem?_drop, ← hy]
                congr 1
                omega
              rw [hhead, hlast] at HIP
              have hixx := str_ix hx
              have hixy := str_ix hy
              have hsub : IntKind.i64.wrap ((i : Int) - 1) = ((i - 1 : Nat) : Int) := by rw [show ((i : Int) - 1) = ((i - 1 : Nat) : Int) by omega]; exact wrap_small (i - 1) (by omega)
              obtain ⟨m, hm⟩ : ∃ m, m = i - 1 := ⟨_, rfl⟩
              rw [← hm] at hixy hsub
              have hmi : (i : Int) - 1 = (m : Int) := by omega
              have hml : m < s.length := by omega
              clear hx hy hhead hlast hne hfi hsub
              by_cases hx45 : x = 45
              · have e6 : ((x.toNat : Int) == 45) = true := by rw [hx45]; rfl
                have HB := hid (HBD.out (by rw [HIP.out, hx45]; rfl))
                clear hx45 hm
                go_wp2_with fail
                go_ret
                exact ⟨by rw [HB.out]; rfl, rfl⟩
              · have e6 : ((x.toNat : Int) == 45) = false := by
                  rw [Bool.eq_false_iff]; intro h; exact hx45 ((u8_eq x 45 (by decide)).1 h)
                by_cases hy45 : y = 45
                · have e7 : ((y.toNat : Int) == 45) = true := by rw [hy45]; rfl
                  have HB := hid (HBD.out (by rw [HIP.out, hy45]; simp))
                  clear hx45 hy45 hm
                  go_wp2_with fail
                  go_ret
                  exact ⟨by rw [HB.out]; rfl, rfl⟩
                · have e7 : ((y.toNat : Int) == 45) = false := by
                    rw [Bool.eq_false_iff]; intro h; exact hy45 ((u8_eq y 45 (by decide)).1 h)
                  have HOK : Hid (isP true ((s.drop fr).take (i - fr)) = true) := hid (by rw [HIP.out]; simp [hx45, hy45])
                  clear hx45 hy45 hm
                  go_wp2_with fail
                  have hok := HOK.out
                  go_round
                  case rel => exact ⟨i + 1, i + 1, Nat.le_refl _, by omega, by go_num, by go_num, .inl ⟨by omega, by rw [Nat.sub_self, List.take_zero, pre_zero]; exact HG.out hok, by rw [Nat.sub_self, List.take_zero]; intro c hc; cases hc⟩⟩
                  case measure => (simp [intOf]) <;> omega
        · have e1 : ((c.toNat : Int) != 46) = true := by
            rw [bne_iff_ne]; intro h; exact h46 ((u8_eq c 46 (by decide)).1 (by rw [beq_iff_eq]; exact h))
          have hlt := fun W => rletter_any c W
          have hat := fun W => ratom_any c W
          have HNX : Hid (okC lab c = true → R = (pre ((s.drop fr).take (i + 1 - fr)) (Spl.splitL 46 (s.drop (i + 1)))).all (isP lab) ∧ ∀ x ∈ (s.drop fr).take (i + 1 - fr), okC lab x = true) := hid (fun h => by
            rw [hcur]
            refine ⟨by rw [hr, pre_other _ _ h46], fun x hx => ?_⟩
            rcases List.mem_append.1 hx with h7 | h7
            · exact hall x h7
            · simp at h7; subst h7; exact h)
          have HBX : Hid (okC lab c = false → R = false) := hid (fun h => by rw [hr]; exact pre_bad lab _ _ h46 h)
          clear hr hall hcur h46 hc
          cases lab with
          | true =>
            cases hb : isLet c with
            | true =>
              rw [hb] at hlt
              have HN := hid (HNX.out (by unfold okC; rw [hb]; rfl))
              clear hb
              go_wp2_with (first | (go_at_call 51; refine (hlt _).mono ?_; rintro e w1 ⟨rfl, rfl⟩) | (go_at_call 52; refine (hat _).mono ?_; rintro e w1 ⟨rfl, rfl⟩))
              go_round
              case rel => exact ⟨fr, i + 1, by omega, by omega, by go_num, by go_num, .inl ⟨by omega, HN.out.1, HN.out.2⟩⟩
              case measure => (simp [intOf]) <;> omega
            | false =>
              rw [hb] at hlt
              by_cases h45 : c = 45
              · have e2 : ((c.toNat : Int) != 45) = false := by rw [h45]; rfl
                have HN := hid (HNX.out (by rw [h45]; rfl))
                clear hb h45
                go_wp2_with (first | (go_at_call 51; refine (hlt _).mono ?_; rintro e w1 ⟨rfl, rfl⟩) | (go_at_call 52; refine (hat _).mono ?_; rintro e w1 ⟨rfl, rfl⟩))
                go_round
                case rel => exact ⟨fr, i + 1, by omega, by omega, by go_num, by go_num, .inl ⟨by omega, HN.out.1, HN.out.2⟩⟩
                case measure => (simp [intOf]) <;> omega
              · have e2 : ((c.toNat : Int) != 45) = true := by
                  rw [bne_iff_ne]; intro h; exact h45 ((u8_eq c 45 (by decide)).1 (by rw [beq_iff_eq]; exact h))
                have h452 : (c == 45) = false := by simpa using h45
                have HB := hid (HBX.out (by unfold okC; rw [hb, h452]; rfl))
                clear hb h45 h452
                go_wp2_with (first | (go_at_call 51; refine (hlt _).mono ?_; rintro e w1 ⟨rfl, rfl⟩) | (go_at_call 52; refine (hat _).mono ?_; rintro e w1 ⟨rfl, rfl⟩))
                go_ret
                exact ⟨by rw [HB.out]; rfl, rfl⟩
          | false =>
            cases hb : isAt c with
            | true =>
              rw [hb] at hat
              have HN := hid (HNX.out (by unfold okC; rw [hb]; rfl))
              clear hb
              go_wp2_with (first | (go_at_call 51; refine (hlt _).mono ?_; rintro e w1 ⟨rfl, rfl⟩) | (go_at_call 52; refine (hat _).mono ?_; rintro e w1 ⟨rfl, rfl⟩))
              go_round
              case rel => exact ⟨fr, i + 1, by omega, by omega, by go_num, by go_num, .inl ⟨by omega, HN.out.1, HN.out.2⟩⟩
              case measure => (simp [intOf]) <;> omega
            | false =>
              rw [hb] at hat
              have HB := hid (HBX.out (by unfold okC; rw [hb]; rfl))
              clear hb
              go_wp2_with (first | (go_at_call 51; refine (hlt _).mono ?_; rintro e w1 ⟨rfl, rfl⟩) | (go_at_call 52; refine (hat _).mono ?_; rintro e w1 ⟨rfl, rfl⟩))
              go_ret
              exact ⟨by rw [HB.out]; rfl, rfl⟩
      · obtain rfl : i = s.length := by omega
        rw [List.drop_length, pre_nil] at hr
        have HIP := hid (isP_ok hall)
        have HBD : Hid (isP lab ((s.drop fr).take (s.length - fr)) = false → R = false) := hid (fun h => by rw [hr]; simp [h])
        have HG : Hid (isP lab ((s.drop fr).take (s.length - fr)) = true → R = true) := hid (fun h => by rw [hr]; simp [h])
        clear hr hall hil2
        obtain ⟨i, hi2⟩ : ∃ i, i = s.length := ⟨_, rfl⟩
        by_cases hfi : s.length = fr
        · have e5 : ((s.length : Int) == (fr : Int)) = true := by rw [beq_iff_eq]; omega
          have HB := hid (HBD.out (by rw [HIP.out, hfi, Nat.sub_self, List.take_zero]; rfl))
          clear hfi
          go_wp2_with fail
          go_ret
          exact ⟨by rw [HB.out]; rfl, rfl⟩
        · have e5 : ((s.length : Int) == (fr : Int)) = false := by rw [beq_eq_false_iff_ne]; omega
          have hne : ((s.drop fr).take (s.length - fr)).isEmpty = false := by
            rw [List.isEmpty_eq_false_iff]; intro h
            have := congrArg List.length h
            simp at this; omega
          rw [hne] at HIP
          cases lab with
          | false =>
            have hok : isP false ((s.drop fr).take (s.length - fr)) = true := HIP.out
            have HOK := hid hok
            clear hne hfi
            go_wp2_with fail
            have hok := HOK.out
            go_round
            case rel => exact ⟨s.length + 1, s.length + 1, Nat.le_refl _, by omega, by go_num, by go_num, .inr ⟨by omega, HG.out hok⟩⟩
            case measure => (simp [intOf]) <;> omega
          | true =>
            have hfl : fr < s.length := by omega
            obtain ⟨x, hx⟩ : ∃ x, s[fr]? = some x := ⟨_, List.getElem?_eq_getElem (by omega)⟩
            obtain ⟨y, hy⟩ : ∃ y, s[s.length - 1]? = some y := ⟨_, List.getElem?_eq_getElem (by omega)⟩
            have hhead : ((s.drop fr).take (s.length - fr)).head? = some x := by rw [List.head?_take, if_neg (by omega), List.head?_drop, hx]
            have hlast : ((s.drop fr).take (s.length - fr)).getLast? = some y := by
              rw [List.getLast?_eq_getElem?, List.length_take, List.length_drop, List.getElem?_take, if_pos (by omega), List.getElem?_drop, ← hy]
              congr 1
              omega
            rw [hhead, hlast] at HIP
            have hixx := str_ix hx
            have hixy := str_ix hy
            have hsub : IntKind.i64.wrap ((s.length : Int) - 1) = ((s.length - 1 : Nat) : Int) := by rw [show ((s.length : Int) - 1) = ((s.length - 1 : Nat) : Int) by omega]; exact wrap_small (s.length - 1) (by omega)
            obtain ⟨m, hm⟩ : ∃ m, m = s.length - 1 := ⟨_, rfl⟩
            rw [← hm] at hixy hsub
            have hmi : (s.length : Int) - 1 = (m : Int) := by omega
            have hml : m < s.length := by omega
            clear hx hy hhead hlast hne hfi hsub
            by_cases hx45 : x = 45
            · have e6 : ((x.toNat : Int) == 45) = true := by rw [hx45]; rfl
              have HB := hid (HBD.out (by rw [HIP.out, hx45]; rfl))
              clear hx45 hm
              go_wp2_with fail
              go_ret
              exact ⟨by rw [HB.out]; rfl, rfl⟩
            · have e6 : ((x.toNat : Int) == 45) = false := by
                rw [Bool.eq_false_iff]; intro h; exact hx45 ((u8_eq x 45 (by decide)).1 h)
              by_cases hy45 : y = 45
              · have e7 : ((y.toNat : Int) == 45) = true := by rw [hy45]; rfl
                have HB := hid (HBD.out (by rw [HIP.out, hy45]; simp))
                clear hx45 hy45 hm
                go_wp2_with fail
                go_ret
                exact ⟨by rw [HB.out]; rfl, rfl⟩
              · have e7 : ((y.toNat : Int) == 45) = false := by
                  rw [Bool.eq_false_iff]; intro h; exact hy45 ((u8_eq y 45 (by decide)).1 h)
                have HOK : Hid (isP true ((s.drop fr).take (s.length - fr)) = true) := hid (by rw [HIP.out]; simp [hx45, hy45])
                clear hx45 hy45 hm
                go_wp2_with fail
                have hok := HOK.out
                go_round
                case rel => exact ⟨s.length + 1, s.length + 1, Nat.le_refl _, by omega, by go_num, by go_num, .inr ⟨by omega, HG.out hok⟩⟩
                case measure => (simp [intOf]) <;> omega
    · subst hil
      have HT := hid hr
      clear hr
      go_wp2_with fail
      go_ret
      exact ⟨by rw [HT.out]; rfl, rfl⟩

end Go.Proofs.YtmgndnbcaeepcaaDoor
